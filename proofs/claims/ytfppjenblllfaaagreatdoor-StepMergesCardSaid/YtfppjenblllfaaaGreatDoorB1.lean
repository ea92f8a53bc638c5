/- Parts of a proof about the given program: its functions as texts of their own, what each computes, plain laws of that. The conditions of each stand in its statement. -/
import Derived.WalkKit
import Derived.Test.YtfppjenblllfaaaGreatDoorProg
import Derived.KernelRfl
set_option linter.unnecessarySimpa false
set_option linter.defProp false
set_option linter.unusedSectionVars false
set_option linter.unusedVariables false
set_option linter.unusedSimpArgs false
namespace Go.Emb
def T7 (P:Program) (s:Sem Next) (w:World) (K:Value→World→Prop):Prop:=
 match s.run P w with
 | .ok (.value v) w'=>K v w'
 | .ok .skip w'=>K undef w'
 | .ok (.enter f a) w'=>Calls P f a w' fun e b=>match e with | .returned v=>K v b | _=>False
 | .ok (.row row a) w'=>Rows P row a w' K
 | _=>False
theorem X0o: ∃f:Program→Sem Next→World→(Value→World→Prop)→Prop,f=T7:=⟨_,rfl⟩
noncomputable def op:Program→Sem Next→World→(Value→World→Prop)→Prop:=Classical.choose X0o
theorem Xc:op=T7:=Classical.choose_spec X0o
theorem X2n {P:Program} {o:Oper} {a:Act} {w:World} {next:Act→World→Prop} {Q:Exit→Act→World→Prop}
 (h:op P (execOp a.eval o) w (fun v w=>next (a.put o.dst v) w)):o.wp P a w next Q:=by
 unfold Oper.wp
 rw[Xc] at h
 unfold T7 at h
 cases c:(execOp a.eval o).run P w with
 | halt x w'=>rw[c] at h;exact h.elim
 | ok n w'=>
  rw[c] at h
  cases n<;>simp only at h<;>try exact h.elim
  ·exact h
  ·exact h
  ·refine Calls.mono h fun e d b=>?_
   cases e<;>first | exact b | exact b.elim
  ·exact h
theorem Ds {P:Program} {s:Sem Next} {K b:Value→World→Prop} {w:World} (a: ∀v w,K v w→b v w) (h:op P s w K):op P s w b:=by
 rw[Xc] at*
 unfold T7 at*
 cases d:s.run P w with
 | halt x w'=>rw[d] at h;exact h.elim
 | ok n w'=>
  rw[d] at h
  cases n<;>simp only at h⊢ <;>try exact h.elim
  ·exact a _ _ h
  ·exact a _ _ h
  ·refine Calls.mono h fun e f c=>?_
   cases e<;>first | exact a _ _ c | exact c.elim
  ·exact h.mono a
def sv (s:Sem Value):Sem Next:=do Pure.pure (.value (←s))
def su (s:Sem Unit):Sem Next:=do s;Pure.pure .skip
section
variable (P : Program)
noncomputable def pick (c a b:Value) (w:World) (K:Value→World→Prop):Prop:=op P (do Pure.pure (.value (if←asBool c then a else b))) w K
noncomputable def W4 (e:TypeId) (w:World) (K:Value→World→Prop):Prop:=op P (sv (Instr.alloc e true (.tuple #[]))) w K
noncomputable def box (e:TypeId) (x:Value) (w:World) (K:Value→World→Prop):Prop:=op P (sv (Instr.box e x)) w K
noncomputable def N4 (t:TypeId) (a:List (Nat×Value)) (w:World) (K:Value→World→Prop):Prop:=op P (sv (Instr.build t a.toArray)) w K
noncomputable def buildSlice (t:TypeId) (n:Nat) (a:List (Nat×Value)) (w:World) (K:Value→World→Prop):Prop:=op P (sv (Instr.buildSlice t n a.toArray)) w K
noncomputable def Q2 (t:TypeId) (a:Value) (w:World) (K:Value→World→Prop):Prop:=op P (sv (Instr.loadAt t a)) w K
noncomputable def Z0 (t:TypeId) (a x:Value) (w:World) (K:Value→World→Prop):Prop:=op P (su (Instr.storeAt t a x)) w K
noncomputable def nilCheck (x:Value) (w:World) (K:Value→World→Prop):Prop:=op P (execOp (fun _=>x) {dst:=none,op:= .nilCheck (.const x),type:=0,pos:= "",after:= #[],guard:=none}) w K
noncomputable def Q3 (o:BinOp) (t:TypeId) (b a:Operand) (x y:Value) (w:World) (K:Value→World→Prop):Prop:=op P (sv (do eqGuard o t b a x y;Go.binOp o t x y)) w K
noncomputable def Z8 (o:UnOp) (x:Value) (w:World) (K:Value→World→Prop):Prop:=op P (sv (Op.unary o x)) w K
noncomputable def conv (s d:TypeId) (x:Value) (w:World) (K:Value→World→Prop):Prop:=op P (sv (Go.convert s d x)) w K
noncomputable def X0U (t:TypeId) (x:Value) (w:World) (K:Value→World→Prop):Prop:=op P (sv (Instr.makeInterface t x)) w K
noncomputable def M7 (f:Fn) (first caps:List Value) (w:World) (K:Value→World→Prop):Prop:=op P (sv (Instr.makeFunc f first.toArray caps.toArray)) w K
noncomputable def Hz (t:TypeId) (r:Option Value) (w:World) (K:Value→World→Prop):Prop:=op P (sv (Instr.makeMap t r)) w K
noncomputable def Nl (t:TypeId) (n c:Value) (w:World) (K:Value→World→Prop):Prop:=op P (sv (Instr.makeSlice t n c)) w K
noncomputable def H7 (t:TypeId) (x:Value) (a b c:Option Value) (w:World) (K:Value→World→Prop):Prop:=op P (sv (Instr.sliceAt t x a b c)) w K
noncomputable def fieldAddr (t:TypeId) (x:Value) (f:Nat) (w:World) (K:Value→World→Prop):Prop:=op P (sv (Instr.fieldAt t x f)) w K
noncomputable def Ut (t:TypeId) (x:Value) (f:Nat) (w:World) (K:Value→World→Prop):Prop:=op P (sv (Instr.field t x f)) w K
noncomputable def indexAddr (t:TypeId) (x i:Value) (w:World) (K:Value→World→Prop):Prop:=op P (sv (Instr.indexAt t x i)) w K
noncomputable def E5 (t:TypeId) (x i:Value) (w:World) (K:Value→World→Prop):Prop:=op P (sv (Instr.index t x i)) w K
noncomputable def lookup (t:TypeId) (x i:Value) (ok:Bool) (w:World) (K:Value→World→Prop):Prop:=op P (sv (Instr.lookup t x i ok)) w K
noncomputable def mapUpdate (t:TypeId) (m k x:Value) (w:World) (K:Value→World→Prop):Prop:=op P (su (Instr.mapUpdate t m k x)) w K
noncomputable def mapEntry (t:TypeId) (m k:Value) (w:World) (K:Value→World→Prop):Prop:=op P (sv (Instr.mapEntry t m k)) w K
noncomputable def entryStore (t:TypeId) (m s x:Value) (w:World) (K:Value→World→Prop):Prop:=op P (su (Instr.entryStore t m s x)) w K
noncomputable def rng (t:TypeId) (x:Value) (w:World) (K:Value→World→Prop):Prop:=op P (sv (Instr.range t x)) w K
noncomputable def J7 (b:Value) (a:Bool) (t:TypeId) (w:World) (K:Value→World→Prop):Prop:=op P (sv (Instr.next b a t)) w K
noncomputable def Q7x (a:Value) (w:World) (K:Value→World→Prop):Prop:=op P (sv (Instr.entry a)) w K
noncomputable def pnc (x:Value) (w:World) (K:Value→World→Prop):Prop:=op P (sv (Instr.panic x)) w K
noncomputable def ext (x:Value) (i:Nat) (w:World) (K:Value→World→Prop):Prop:=op P (sv (Instr.extract x i)) w K
noncomputable def X5 (b:Builtin) (a:List TypeId) (t:TypeId) (cs:List Bool) (xs:List Value) (w:World) (K:Value→World→Prop):Prop:=op P (Go.builtin b a.toArray t cs.toArray xs.toArray) w K
noncomputable def Q0 (f:FuncId) (xs:List Value) (w:World) (K:Value→World→Prop):Prop:=op P (callFunc f xs.toArray) w K
noncomputable def Z2 (f:Value) (xs:List Value) (w:World) (K:Value→World→Prop):Prop:=op P (do let d←Deferred.ofValue f xs.toArray;invoke d.target d.args) w K
end
def get (l:List Value) (t:Nat):Value:=l.getD t undef
def ev (l:List Value):Operand→Value
 | .tmp t=>get l t
 | .const v=>v
 | .global g=> .pointer (some ⟨g,0,none⟩)
 | .func f=> .func (.func f) #[] #[]
def put (l:List Value) (d:Option Tmp) (v:Value):List Value:=
 match d with
 | some d=>l.set d v
 | none=>l
def Tb (l:List Value) (xs:Array Operand):List Value:=xs.toList.map (ev l)
def evp (l:List Value) (xs:Array (Nat×Operand)):List (Nat×Value):=xs.toList.map fun p=>(p.1,ev l p.2)
def evo (l:List Value) (x:Option Operand):Option Value:=match x with | some x=>some (ev l x) | none=>none
def isC:Operand→Bool | .const _=>true | _=>false
noncomputable def Nf (P:Program) (l:List Value) (o:Oper) (c:Call) (w:World) (K:Value→World→Prop):Prop:=
 match c.callee with
 | .builtin b=>X5 P b c.argTypes.toList o.type (c.args.toList.map isC) (Tb l c.args) w K
 | .value (.func f)=>Q0 P f (Tb l c.args) w K
 | .value f=>Z2 P (ev l f) (Tb l c.args) w K
 | _=>op P (execOp (ev l) o) w K
noncomputable def V0 (P:Program) (l:List Value) (o:Oper) (w:World) (K:Value→World→Prop):Prop:=
 match o.op with
 | .move x=>K (ev l x) w
 | .assign x=>K (ev l x) w
 | .pick c a b=>pick P (ev l c) (ev l a) (ev l b) w K
 | .alloc e=>W4 P e w K
 | .box e x=>box P e (ev l x) w K
 | .build t j=>N4 P t (evp l j) w K
 | .buildSlice t n j=>buildSlice P t n (evp l j) w K
 | .load t a=>Q2 P t (ev l a) w K
 | .store t a x=>Z0 P t (ev l a) (ev l x) w K
 | .nilCheck x=>nilCheck P (ev l x) w K
 | .binOp op t x y _=>Q3 P op t x y (ev l x) (ev l y) w K
 | .unOp op _ x=>Z8 P op (ev l x) w K
 | .convert s d x=>conv P s d (ev l x) w K
 | .makeInterface t x=>X0U P t (ev l x) w K
 | .makeFunc f first caps=>M7 P f (Tb l first) (Tb l caps) w K
 | .makeMap t r=>Hz P t (evo l r) w K
 | .makeSlice t n c=>Nl P t (ev l n) (ev l c) w K
 | .slice t x u p q=>H7 P t (ev l x) (evo l u) (evo l p) (evo l q) w K
 | .fieldAddr t x f=>fieldAddr P t (ev l x) f w K
 | .field t x f=>Ut P t (ev l x) f w K
 | .indexAddr t x i=>indexAddr P t (ev l x) (ev l i) w K
 | .index t x i=>E5 P t (ev l x) (ev l i) w K
 | .lookup t x i ok=>lookup P t (ev l x) (ev l i) ok w K
 | .mapUpdate t m k x=>mapUpdate P t (ev l m) (ev l k) (ev l x) w K
 | .insert t m k x=>mapUpdate P t (ev l m) (ev l k) (ev l x) w K
 | .mapEntry t m k=>mapEntry P t (ev l m) (ev l k) w K
 | .entryStore t m s x=>entryStore P t (ev l m) (ev l s) (ev l x) w K
 | .range t x=>rng P t (ev l x) w K
 | .next g h=>J7 P (ev l g) h o.type w K
 | .extract x i=>ext P (ev l x) i w K
 | .entry g=>Q7x P (ev l g) w K
 | .panic x=>pnc P (ev l x) w K
 | .call c=>Nf P l o c w K
 | _=>op P (execOp (ev l) o) w K
theorem Q7q {α β:Type} (f:α→β) (a:Array α):a.map f=(a.toList.map f).toArray:=by rw[←Array.toList_map,Array.toArray_toList]
theorem X1e (l:List Value) (x:Option Operand):x.map (ev l)=evo l x:=by cases x<;>rfl
theorem Q4D {P:Program} {l:List Value} {o:Oper} {c:Call} {K e:Value→World→Prop} {w:World} (a: ∀v w,K v w→e v w) (h:Nf P l o c w K):Nf P l o c w e:=by
 obtain ⟨d,g,i⟩:=c
 cases d with
 | builtin b=>exact Ds a h
 | invoke r m=>exact Ds a h
 | value f=>cases f<;>(simp only[Nf,Z2,Q0] at h⊢;exact Ds a h)
theorem B5 {P:Program} {l:List Value} {o:Oper} {K b:Value→World→Prop} {w:World} (a: ∀v w,K v w→b v w) (h:V0 P l o w K):V0 P l o w b:=by
 obtain ⟨d,p,c,pos,e,g⟩:=o
 cases p<;>first | exact a _ _ h | exact Q4D a h | exact Ds a h | (simp only[V0] at h⊢;exact Ds a h)
theorem Q5w {P:Program} {l:List Value} {o:Oper} {K:Value→World→Prop} {w:World} (h:V0 P l o w K):op P (execOp (ev l) o) w K:=by
 unfold V0 at h
 split at h<;>rename_i a
 all_goals first
  | exact h
  | (unfold execOp;rw[a];exact h)
  | (unfold execOp;rw[a];simp only[Q7q,X1e];exact h)
  | (unfold execOp;rw[a,Xc];exact h)
  | skip
 rename_i c
 unfold Nf at h
 split at h<;>rename_i b
 ·unfold execOp;rw[a];simp only[resolve,b,Q7q]
  simp only[pure_bind,invoke]
  unfold X5 at h
  simp only[Array.toArray_toList] at h
  refine (congrArg (fun z=>op P (builtin _ c.argTypes o.type (List.toArray z) _) w K) (List.map_congr_left (fun x _=>?_))).mp h
  cases x<;>rfl
 ·unfold execOp;rw[a];simp only[resolve,b,Q7q]
  simp only[ev,Deferred.ofValue,pure_bind,invoke]
  simpa [Q0,Tb] using h
 ·unfold execOp;rw[a];simp only[resolve,b,Q7q]
  exact h
 ·exact h
def La (v:Value) (b:Bool) (w:World) (a:World→(Value→World→Prop)→Prop) (J:Value→World→Prop):Prop:=
 match v with
 | .bool c=>if c=b then a w J else J undef w
 | _=>J undef w
theorem Q8m: ∃f:Value→Bool→World→(World→(Value→World→Prop)→Prop)→(Value→World→Prop)→Prop,f=La:=⟨_,rfl⟩
noncomputable def Q1:Value→Bool→World→(World→(Value→World→Prop)→Prop)→(Value→World→Prop)→Prop:=Classical.choose Q8m
theorem Oe:Q1=La:=Classical.choose_spec Q8m
def Q1L (v:Value) (t e:Prop):Prop:=
 match v with
 | .bool true=>t
 | .bool false=>e
 | _=>False
theorem Q8a: ∃f:Value→Prop→Prop→Prop,f=Q1L:=⟨_,rfl⟩
noncomputable def X1:Value→Prop→Prop→Prop:=Classical.choose Q8a
theorem Q4g:X1=Q1L:=Classical.choose_spec Q8a
noncomputable def Y4 (P:Program) (ops:List Oper) (next:List Value→World→Prop):List Oper→List Value→World→Prop
 | [],l,w=>next l w
 | o::a,l,w=>
  match o.guard with
  | none=>V0 P l o w (fun v w=>Y4 P ops next a (put l o.dst v) w)
  | some (j,b)=>match (ops[j]?).bind (·.dst) with
   | some d=>Q1 (get l d) b w (V0 P l o) (fun v w=>Y4 P ops next a (put l o.dst v) w)
   | none=>Y4 P ops next a (put l o.dst undef) w
def Ik:Nat→Type
 | 0=>Unit
 | 1=>Value
 | n+2=>Value×Ik (n+1)
def Lw (l:List Value):(a:List Nat)→Ik a.length
 | []=>()
 | [s]=>get l s
 | s::t::r=>(get l s,Lw l (t::r))
def Da (i:Nat) (e:Value):(a:List Nat)→Ik a.length→Value
 | [],_=>e
 | [s],x=>if s=i then x else e
 | s::t::r,x=>if s=i then x.1 else Da i e (t::r) x.2
def N6 (a b:List Nat) (x:Ik a.length) (d:Nat→Value):Nat→List Value→List Value
 | _,[]=>[]
 | i,v::l=>Da i (if b.contains i then d i else v) a x::N6 a b x d (i+1) l
def X0k (α:Type) (c:α) (w:World) (a:(α→World→Prop)→α→(Nat→Value)→World→Prop):Prop:=
 ∃(I:α→World→Prop) (μ:α→World→Nat),I c w∧ ∀x d w,I x w→a (fun b w'=>I b w'∧μ b w'<μ x w) x d w
theorem X0d: ∃f:(α:Type)→α→World→((α→World→Prop)→α→(Nat→Value)→World→Prop)→Prop,f=X0k:=⟨_,rfl⟩
noncomputable def lp {α:Type}:α→World→((α→World→Prop)→α→(Nat→Value)→World→Prop)→Prop:=Classical.choose X0d α
theorem X0z {α:Type} (b:α) (w:World) (a:(α→World→Prop)→α→(Nat→Value)→World→Prop):lp b w a=X0k α b w a:=
 congrFun (congrFun (congrFun (congrFun (Classical.choose_spec X0d) α) b) w) a
def X03 (α:Type) (w:World) (A:(α→World→Prop)→World→Prop) (B:α→(Nat→Value)→World→Prop):Prop:=
 ∃I:α→World→Prop,A I w∧ ∀x d w,I x w→B x d w
theorem X0t: ∃f:(α:Type)→World→((α→World→Prop)→World→Prop)→(α→(Nat→Value)→World→Prop)→Prop,f=X03:=⟨_,rfl⟩
noncomputable def jn {α:Type}:World→((α→World→Prop)→World→Prop)→(α→(Nat→Value)→World→Prop)→Prop:=Classical.choose X0t α
theorem X0l {α:Type} (w:World) (A:(α→World→Prop)→World→Prop) (B:α→(Nat→Value)→World→Prop):jn w A B=X03 α w A B:=
 congrFun (congrFun (congrFun (congrFun (Classical.choose_spec X0t) α) w) A) B
theorem Zz {α:Type} {w:World} {A:(α→World→Prop)→World→Prop} {B:α→(Nat→Value)→World→Prop} (I:α→World→Prop) (h:A I w) (a: ∀x d w,I x w→B x d w):jn w A B:=by
 rw[X0l];exact ⟨I,h,a⟩
theorem Q4Y {α:Type} {w:World} {A:(α→World→Prop)→World→Prop} {B:α→(Nat→Value)→World→Prop} (h:jn w A B): ∃I:α→World→Prop,A I w∧ ∀x d w,I x w→B x d w:=by
 rw[X0l] at h;exact h
theorem Zw {α:Type} {b:α} {w:World} {a:(α→World→Prop)→α→(Nat→Value)→World→Prop} (I:α→World→Prop) (μ:α→World→Nat) (e:I b w)
 (f: ∀x d w,I x w→a (fun c w'=>I c w'∧μ c w'<μ x w) x d w):lp b w a:=by
 rw[X0z];exact ⟨I,μ,e,f⟩
theorem Q8M {α:Type} {b:α} {w:World} {a:(α→World→Prop)→α→(Nat→Value)→World→Prop} (h:lp b w a):
 ∃(I:α→World→Prop) (μ:α→World→Nat),I b w∧ ∀x d w,I x w→a (fun c w'=>I c w'∧μ c w'<μ x w) x d w:=by
 rw[X0z] at h;exact h
def O6 (ops:List Oper):List Nat:=ops.filterMap (·.dst)
def K5:Code→Nat
 | .seq a b=>K5 a+K5 b+1
 | .cond _ a b=>K5 a+K5 b
 | .block _ c=>K5 c
 | .loop c=>K5 c+1
 | .scope c=>K5 c
 | _=>0
def L1 (d:List (Option (List Nat))):Nat→Code→List Nat
 | _, .region _ ops _=>O6 ops.toList
 | k, .seq a b=>(d.getD k none).getD []++(L1 d (k+1) a++L1 d (k+1+K5 a) b)
 | k, .cond _ a b=>L1 d k a++L1 d (k+K5 a) b
 | k, .block _ c=>L1 d k c
 | k, .loop c=>(d.getD k none).getD []++L1 d (k+1) c
 | k, .scope c=>L1 d k c
 | _,_=>[]
abbrev Oo:=Exit→List Value→World→Prop
def thn (next:List Value→World→Prop) (Q:Oo):Oo
 | .normal,a,w=>next a w
 | e,a,w=>Q e a w
def Q25 (id:Nat) (Q:Oo):Oo
 | .exit b,a,w=>if b=id then Q .normal a w else Q (.exit b) a w
 | e,a,w=>Q e a w
noncomputable def Mk (P:Program) (a:List (Option (List Nat))):Nat→Code→Oo→List Value→World→Prop
 | _, .skip,Q,l,w=>Q .normal l w
 | _, .label _,Q,l,w=>Q .normal l w
 | _, .exit id,Q,l,w=>Q (.exit id) l w
 | _, .ret,Q,l,w=>Q .ret l w
 | _, .region _ ops false,Q,l,w=>Y4 P ops.toList (fun l w=>Q .normal l w) ops.toList l w
 | _, .region _ ops true,Q,l,w=> ∀t,Y4 P ops.toList (fun l w=>Q .normal l w) ((Region.schedule (P.follows .mixedOrders) ops t).filterMap (ops[·]?)) l w.drew
 | k, .seq x y,Q,l,w=>match a.getD k none with
  | none=>Mk P a (k+1) x (thn (fun l w=>Mk P a (k+1+K5 x) y Q l w) Q) l w
  | some e=>jn w (fun J w=>Mk P a (k+1) x (thn (fun l' w'=>J (Lw l' e) w') Q) l w)
   (fun z d w=>Mk P a (k+1+K5 x) y Q (N6 e (L1 a (k+1) x) z d 0 l) w)
 | k, .cond c x y,Q,l,w=>X1 (ev l c) (Mk P a k x Q l w) (Mk P a (k+K5 x) y Q l w)
 | k, .block id c,Q,l,w=>Mk P a k c (Q25 id Q) l w
 | k, .loop c,Q,l,w=>
  lp (Lw l ((a.getD k none).getD [])) w (fun b x d w=>Mk P a (k+1) c (thn (fun l' w'=>b (Lw l' ((a.getD k none).getD [])) w') Q) (N6 ((a.getD k none).getD []) (L1 a (k+1) c) x d 0 l) w)
 | _,_,_,_,_=>False
theorem Q7H {ops:List Oper} {l:List Value} {o:Oper} {j:Nat} {b:Bool} (a:o.guard=some (j,b)) {d:Nat} (e:(ops[j]?).bind (·.dst)=some d):
 Region.wanted o (yielded ops.toArray l.toArray)=true↔get l d= .bool b:=by
 unfold Region.wanted yielded
 rw[a]
 simp only[List.getElem?_toArray]
 rw[e]
 simp only[Option.bind_some,get,List.getD_eq_getElem?_getD]
 have key: ∀x:Option Value,((match x with | some (.bool c)=>some c | _=>none)==some b)=true↔x.getD undef= .bool b:=by
  intro x
  cases x with
  | none=>simp[undef]
  | some v=>cases v<;>simp
 exact key _
theorem Q5n {ops:List Oper} {l:List Value} {o:Oper} {j:Nat} {b:Bool} (a:o.guard=some (j,b)) (c:(ops[j]?).bind (·.dst)=none):
 Region.wanted o (yielded ops.toArray l.toArray)=false:=by
 unfold Region.wanted yielded
 rw[a]
 simp only[List.getElem?_toArray]
 rw[c]
 rfl
theorem Vd {v:Value} {b:Bool} {a:World→(Value→World→Prop)→Prop} {J:Value→World→Prop} {w:World} (h:Q1 v b w a J):
 (v= .bool b∧a w J)∨(v≠ .bool b∧J undef w):=by
 rw[Oe] at h
 unfold La at h
 split at h
 ·split at h
  ·rename_i c;subst c;exact .inl ⟨rfl,h⟩
  ·rename_i c;exact .inr ⟨by simp[c],h⟩
 ·rename_i d;exact .inr ⟨d b,h⟩
theorem Tg {v:Value} {b:Bool} {a:World→(Value→World→Prop)→Prop} {J:Value→World→Prop} {w:World}
 (h:(v= .bool b∧a w J)∨(v≠ .bool b∧J undef w)):Q1 v b w a J:=by
 rw[Oe]
 unfold La
 split
 ·split
  ·rename_i c;subst c
   rcases h with h | h
   ·exact h.2
   ·exact absurd rfl h.1
  ·rename_i c
   rcases h with h | h
   ·exact absurd (Value.bool.inj h.1) c
   ·exact h.2
 ·rename_i d
  rcases h with h | h
  ·exact absurd h.1 (d b)
  ·exact h.2
theorem Q2D (a:Act):a.eval=ev a.tmps.toList:=by
 funext x
 cases x<;>simp[Act.eval,ev,get,List.getD_eq_getElem?_getD]
theorem Q7G (a:Act) (d:Option Tmp) (v:Value):(a.put d v).tmps.toList=put a.tmps.toList d v:=by
 cases d<;>simp[Act.put,put]
theorem Q6T (a:Act) (d:Option Tmp) (v:Value):(a.put d v).defers=a.defers:=by
 cases d<;>simp[Act.put]
def lift (Q:Oo):Exit→Act→World→Prop:=fun e a w=>a.defers=[]∧Q e a.tmps.toList w
theorem Ty (P:Program) (ops:Array Oper) (Q:Exit→Act→World→Prop) (next:List Value→World→Prop)
 (y: ∀a w,a.defers=[]→next a.tmps.toList w→Q .normal a w) (is:List Nat) (q: ∀i∈is,i<ops.size):
 ∀(a:Act) (w:World),a.defers=[]→Y4 P ops.toList next (is.filterMap (ops[·]?)) a.tmps.toList w→wpOps P ops Q is a w:=by
 induction is with
 | nil=>intro a w p h;exact y a w p h
 | cons i is t=>
  intro a w p h
  have o:=q i (by simp)
  have m:ops[i]? =some ops[i]:=by simp[o]
  rw[List.filterMap_cons,m] at h
  simp only[Y4] at h
  simp only[wpOps,m]
  have s:ops.toList.toArray=ops:=by simp
  have r:a.tmps.toList.toArray=a.tmps:=by simp
  have f: ∀{v w},Y4 P ops.toList next (is.filterMap (ops[·]?)) (put a.tmps.toList ops[i].dst v) w→wpOps P ops Q is (a.put ops[i].dst v) w:=by
   intro v w e
   refine t (fun j u=>q j (by simp[u])) _ _ (by rw[Q6T];exact p) ?_
   rw[Q7G];exact e
  have k:V0 P a.tmps.toList ops[i] w (fun v w=>Y4 P ops.toList next (is.filterMap (ops[·]?)) (put a.tmps.toList ops[i].dst v) w)→
   ops[i].wp P a w (wpOps P ops Q is) Q:=by
   intro h
   refine X2n ?_
   rw[Q2D]
   exact Ds (fun v w e=>f e) (Q5w h)
  split at h
  ·rename_i n
   rw[if_pos (by simp[Region.wanted,n])]
   exact .inl (k h)
  ·rename_i j b n
   split at h
   ·rename_i d c
    have g:=Q7H (ops:=ops.toList) (l:=a.tmps.toList) n c
    rw[s,r] at g
    rcases Vd h with ⟨e,h⟩ | ⟨e,h⟩
    ·rw[if_pos (g.2 e)];exact .inl (k h)
    ·rw[if_neg (fun h=>e (g.1 h))];exact f h
   ·rename_i c
    have g:=Q5n (ops:=ops.toList) (l:=a.tmps.toList) n c
    rw[s,r] at g
    rw[if_neg (by rw[g];simp)];exact f h
theorem Kn (ops:Array Oper):(List.range ops.size).filterMap (ops[·]?)=ops.toList:=by
 apply List.ext_getElem?
 intro i
 rw[←Array.length_toList]
 have: ∀l:List Oper,(List.range l.length).filterMap (l[·]?)=l:=by
  intro l
  induction l with
  | nil=>rfl
  | cons x l a=>
   rw[List.length_cons,List.range_succ_eq_map,List.filterMap_cons]
   simp only[List.getElem?_cons_zero,List.filterMap_map]
   congr 1
 have h:=this ops.toList
 simp only[Array.getElem?_toList] at h
 rw[h]
theorem Q0W (b:Bool) (ops:Array Oper) (t:Nat): ∀i∈Region.schedule b ops t,i<ops.size:=by
 have key: ∀m c t a e,(∀i∈e,i<ops.size)→ ∀i∈Region.linearise.go m ops c t a e,i<ops.size:=by
  intro m c
  induction c with
  | zero=>intro t a e h i d;simp[Region.linearise.go] at d;exact h i d
  | succ c g=>
   intro t a e h i d
   simp only[Region.linearise.go] at d
   split at d
   ·rename_i j f
    refine g _ _ _ ?_ i d
    intro k hk
    rcases List.mem_cons.1 hk with rfl | hk
    ·have:=List.mem_of_getElem? f
     simp only[List.mem_filter,List.mem_range] at this
     exact this.1
    ·exact h k hk
   ·simp at d;exact h i d
 intro i d
 unfold Region.schedule at d
 split at d
 ·exact key _ _ _ _ _ (by simp) i d
 ·exact key _ _ _ _ _ (by simp) i d
def K0 (W:List Nat) (l l':List Value):Prop:=l'.length=l.length∧ ∀i,W.contains i=false→l'[i]? =l[i]?
theorem K0.refl (W:List Nat) (l:List Value):K0 W l l:=⟨rfl,fun _ _=>rfl⟩
theorem K0.trans {W:List Nat} {a b c:List Value} (h:K0 W a b) (k:K0 W b c):K0 W a c:=
 ⟨k.1.trans h.1,fun i d=>(k.2 i d).trans (h.2 i d)⟩
theorem Ek (a b:List Nat) (x:Ik a.length) (d:Nat→Value) (l:List Value): ∀i,(N6 a b x d i l).length=l.length:=by
 induction l with
 | nil=>intro i;rfl
 | cons v l c=>intro i;simp[N6,c]
theorem Ra (a b:List Nat) (x:Ik a.length) (d:Nat→Value) (l:List Value): ∀i j,(N6 a b x d i l)[j]? =(l[j]?).map fun v=>Da (i+j) (if b.contains (i+j) then d (i+j) else v) a x:=by
 induction l with
 | nil=>intro i j;simp[N6]
 | cons v l c=>
  intro i j
  cases j with
  | zero=>simp[N6]
  | succ j=>simp only[N6,List.getElem?_cons_succ,c];rw[show i+1+j=i+(j+1) from by omega]
theorem Ue (i:Nat) (e:Value): ∀(b:List Nat) (x:Ik b.length),b.contains i=false→Da i e b x=e
 | [],_,_=>rfl
 | [s],x,h=>by
  have a: ¬s=i:=by intro a;subst a;simp at h
  exact if_neg a
 | s::t::r,x,h=>by
  simp only[Da]
  split
  ·rename_i a;subst a;simp at h
  ·refine Ue i e (t::r) x.2 ?_
   simp only[List.contains_cons,Bool.or_eq_false_iff] at h⊢
   exact h.2
theorem Q4p (l:List Value) (i:Nat) (e c:Value): ∀(b:List Nat),b.contains i=true→Da i e b (Lw l b)=get l i
 | [],h=>by simp at h
 | [s],h=>by
  simp only[List.contains_cons,List.contains_nil,Bool.or_false,beq_iff_eq] at h
  subst h;simp[Da,Lw]
 | s::t::r,h=>by
  simp only[Da,Lw]
  split
  ·rename_i a;subst a;rfl
  ·rename_i a
   refine Q4p l i e c (t::r) ?_
   simp only[List.contains_cons,Bool.or_eq_true,beq_iff_eq] at h⊢
   rcases h with h | h
   ·exact absurd h.symm a
   ·exact h
theorem Gb (a c:List Nat) (l l':List Value) (k:l'.length=l.length)
 (h: ∀i,a.contains i=false→c.contains i=false→l'[i]? =l[i]?):l'=N6 a c (Lw l' a) (get l') 0 l:=by
 apply List.ext_getElem?
 intro i
 rw[Ra]
 simp only[Nat.zero_add]
 cases e:l[i]? with
 | none=>
  have:=List.getElem?_eq_none_iff.1 e
  simp only[Option.map_none]
  exact List.getElem?_eq_none (by omega)
 | some v=>
  have m:i<l.length:=(List.getElem?_eq_some_iff.1 e).1
  have j:l'[i]? =some (get l' i):=by
   simp only[get,List.getD_eq_getElem?_getD]
   rw[List.getElem?_eq_getElem (by omega)];rfl
  rw[j]
  simp only[Option.map_some,Option.some.injEq]
  by_cases g:a.contains i=true
  ·rw[Q4p l' i _ undef a g]
  ·have b:a.contains i=false:=by simpa using g
   rw[Ue _ _ _ _ b]
   by_cases f:c.contains i=true
   ·rw[if_pos f]
   ·have d:c.contains i=false:=by simpa using f
    rw[if_neg f]
    have:=h i b d
    rw[j,e] at this
    exact Option.some.inj this
theorem Q2W {v:Value} {t e b a:Prop} (c:t→b) (d:e→a) (h:X1 v t e):X1 v b a:=by
 rw[Q4g] at*
 unfold Q1L at*
 split at h
 ·exact c h
 ·exact d h
 ·exact h.elim
theorem Zr (P:Program) (c:List Oper) (next a:List Value→World→Prop) (W:List Nat) (k:List Value): ∀(ops:List Oper) (l:List Value) (w:World),
 (∀o∈ops,∀d,o.dst=some d→W.contains d=true)→K0 W k l→(∀l w,next l w→K0 W k l→a l w)→Y4 P c next ops l w→Y4 P c a ops l w
 | [],l,w,_,j,p,h=>p l w h j
 | o::f,l,w,r,j,p,h=>by
  have g: ∀v,K0 W k (put l o.dst v):=by
   intro v
   cases t:o.dst with
   | none=>exact j
   | some d=>
    have s:=r o (by simp) d t
    refine j.trans ⟨by simp[put],fun i q=>?_⟩
    have:d≠i:=by intro e;subst e;rw[s] at q;cases q
    simp[put,this]
  have b: ∀v w,Y4 P c next f (put l o.dst v) w→Y4 P c a f (put l o.dst v) w:=fun v w y=>
   Zr P c next a W k f _ w (fun o u=>r o (by simp[u])) (g v) p y
  simp only[Y4] at h⊢
  split at h
  ·exact B5 b h
  ·split at h
   ·refine Tg ((Vd h).imp (fun ⟨n,m⟩=>⟨n,B5 b m⟩) (fun ⟨n,m⟩=>⟨n,b _ _ m⟩))
   ·exact b _ _ h
theorem Q3r {α:Type} {e:α} {c b:(α→World→Prop)→α→(Nat→Value)→World→Prop} {w:World}
 (j: ∀a x d w,c a x d w→b a x d w) (h:lp e w c):lp e w b:=by
 obtain ⟨I,μ,f,i⟩:=Q8M h
 exact Zw I μ f fun x d w g=>j _ _ _ _ (i x d w g)
theorem G5 {a b:List Nat} {i:Nat} (h:a.contains i=true):(a++b).contains i=true:=by simp at h⊢;exact .inl h
theorem O8 {a b:List Nat} {i:Nat} (h:b.contains i=true):(a++b).contains i=true:=by simp at h⊢;exact .inr h
theorem Q3j (P:Program) (q:List (Option (List Nat))) (c:Code): ∀(k:Nat) (Q A:Oo) (W:List Nat) (m l:List Value) (w:World),
 (∀i,(L1 q k c).contains i=true→W.contains i=true)→K0 W m l→
 (∀e l w,Q e l w→K0 W m l→A e l w)→Mk P q k c Q l w→Mk P q k c A l w:=by
 induction c with
 | skip=>intro k Q A W m l w _ g j h;exact j _ _ _ h g
 | label n=>intro k Q A W m l w _ g j h;exact j _ _ _ h g
 | exit id=>intro k Q A W m l w _ g j h;exact j _ _ _ h g
 | ret=>intro k Q A W m l w _ g j h;exact j _ _ _ h g
 | goto n=>intro k Q A W m l w _ g j h;exact h.elim
 | refuse s=>intro k Q A W m l w _ g j h;exact h.elim
 | scope c=>intro k Q A W m l w _ g j h;exact h.elim
 | rangeFunc f p a b=>intro k Q A W m l w _ g j h;exact h.elim
 | region id ops L=>
  intro k Q A W m l w B g j h
  have O: ∀o∈ops.toList,∀d,o.dst=some d→W.contains d=true:=by
   intro o R d hd
   refine B d ?_
   simp only[L1,O6,List.contains_eq_mem,List.mem_filterMap,decide_eq_true_eq]
   exact ⟨o,R,hd⟩
  cases L with
  | false=>exact Zr P _ _ _ W m _ _ _ O g (fun l w Z g=>j _ _ _ Z g) h
  | true=>
   intro t
   refine Zr P _ _ _ W m _ _ _ ?_ g (fun l w Z g=>j _ _ _ Z g) (h t)
   intro o R
   simp only[List.mem_filterMap] at R
   obtain ⟨i,_,r⟩:=R
   exact O o (by simpa using Array.mem_of_getElem? r)
 | seq x y E D=>
  intro k Q A W m l w B g j h
  have hx: ∀i,(L1 q (k+1) x).contains i=true→W.contains i=true:=fun i r=>B i (O8 (G5 r))
  have hy: ∀i,(L1 q (k+1+K5 x) y).contains i=true→W.contains i=true:=fun i r=>B i (O8 (O8 r))
  simp only[Mk] at h⊢
  split at h
  ·refine E _ _ _ W m l w hx g ?_ h
   intro e l' w' C u
   cases e with
   | normal=>exact D _ _ _ W m l' w' hy u j C
   | _=>exact j _ _ _ C u
  ·rename_i sl U
   obtain ⟨J,N,M⟩:=Q4Y h
   refine Zz J (E _ _ _ W m l w hx g ?_ N) fun z d w hz=>?_
   ·intro e l' w' C u
    cases e with
    | normal=>exact C
    | _=>exact j _ _ _ C u
   ·refine D _ _ _ W m _ w hy (g.trans ⟨Ek _ _ _ _ _ _,fun i r=>?_⟩) j (M z d w hz)
    rw[Ra]
    have N:sl.contains i=false:=by
     cases H:sl.contains i with
     | false=>rfl
     | true=>rw[B i (G5 (by rw[U];exact H))] at r;cases r
    have M:(L1 q (k+1) x).contains i=false:=by
     cases H:(L1 q (k+1) x).contains i with
     | false=>rfl
     | true=>rw[hx i H] at r;cases r
    simp only[Nat.zero_add]
    cases hl:l[i]? with
    | none=>rfl
    | some v=>simp only[Option.map_some,Ue _ _ _ _ N,M,Bool.false_eq_true,if_false]
 | cond c x y E D=>
  intro k Q A W m l w B g j h
  exact Q2W (E k _ _ W m l w (fun i r=>B i (G5 r)) g j) (D _ _ _ W m l w (fun i r=>B i (O8 r)) g j) h
 | block id c V=>
  intro k Q A W m l w B g j h
  refine V k _ _ W m l w B g ?_ h
  intro e l' w' C u
  cases e with
  | exit ae=>simp only[Q25] at C⊢;split<;>rename_i Y<;>simp only[Y,if_true,if_false] at C<;>exact j _ _ _ C u
  | _=>exact j _ _ _ C u
 | loop c V=>
  intro k Q A W m l w B g j h
  refine Q3r (fun X x d w hb=>?_) h
  refine V _ _ _ W m _ _ (fun i r=>B i (O8 r)) ?_ ?_ hb
  ·refine g.trans ⟨Ek _ _ _ _ _ _,fun i r=>?_⟩
   rw[Ra]
   have N:((q.getD k none).getD []).contains i=false:=by
    cases H:((q.getD k none).getD []).contains i with
    | false=>rfl
    | true=>rw[B i (G5 H)] at r;cases r
   have M:(L1 q (k+1) c).contains i=false:=by
    cases H:(L1 q (k+1) c).contains i with
    | false=>rfl
    | true=>rw[B i (O8 H)] at r;cases r
   simp only[Nat.zero_add]
   cases hl:l[i]? with
   | none=>rfl
   | some v=>simp only[Option.map_some,Ue _ _ _ _ N,M,Bool.false_eq_true,if_false]
  ·intro e l' w' C u
   cases e with
   | normal=>exact C
   | _=>exact j _ _ _ C u
theorem Q7N (P:Program) (g:List (Option (List Nat))) (c:Code): ∀(k:Nat) (Q:Oo) (a:Act) (w:World),
 a.defers=[]→Mk P g k c Q a.tmps.toList w→c.wp P (lift Q) a w:=by
 induction c with
 | skip=>intro k Q a w j h;exact wp_skip ⟨j,h⟩
 | label n=>intro k Q a w j h;exact wp_label ⟨j,h⟩
 | exit id=>intro k Q a w j h;exact wp_exit ⟨j,h⟩
 | ret=>intro k Q a w j h;exact wp_ret ⟨j,h⟩
 | goto n=>intro k Q a w j h;exact h.elim
 | refuse s=>intro k Q a w j h;exact h.elim
 | scope c=>intro k Q a w j h;exact h.elim
 | rangeFunc f p a b=>intro k Q a w j h;exact h.elim
 | region id ops A=>
  intro k Q a w j h
  cases A with
  | false=>
   refine wp_region (Ty P ops _ _ (fun a w j h=>⟨j,h⟩) _ (by simp) a w j ?_)
   rw[Kn];exact h
  | true=>
   refine wp_region_draw fun t=>?_
   exact Ty P ops _ _ (fun a w j h=>⟨j,h⟩) _ (Q0W _ _ _) a _ j (h t)
 | seq x y u r=>
  intro k Q a w j h
  simp only[Mk] at h
  split at h
  ·refine wp_seq (wp_mono (u _ _ a w j h) ?_)
   intro e o w' ⟨m,q⟩
   cases e with
   | normal=>exact r _ _ o w' m q
   | _=>exact ⟨m,q⟩
  ·rename_i Y aa
   obtain ⟨J,R,B⟩:=Q4Y h
   have H:=Q3j P g x (k+1) _ (fun e l' w'=>thn (fun l' w'=>J (Lw l' Y) w') Q e l' w'∧K0 (L1 g (k+1) x) a.tmps.toList l') (L1 g (k+1) x) a.tmps.toList a.tmps.toList w (fun _ h=>h) (K0.refl _ _) (fun e l w h U=>⟨h,U⟩) R
   refine wp_seq (wp_mono (u (k+1) _ a w j H) ?_)
   intro e o w' ⟨m,q,C⟩
   cases e with
   | normal=>
    refine r (k+1+K5 x) _ o w' m ?_
    rw[Gb Y (L1 g (k+1) x) a.tmps.toList o.tmps.toList C.1 (fun i _ h=>C.2 i h)]
    exact B _ _ _ q
   | _=>exact ⟨m,q⟩
 | cond c x y u r=>
  intro k Q a w j h
  simp only[Mk,Q4g,Q1L] at h
  split at h
  ·rename_i N
   exact wp_cond_true (by rw[Q2D];exact N) (u _ _ _ _ j h)
  ·rename_i N
   exact wp_cond_false (by rw[Q2D];exact N) (r _ _ _ _ j h)
  ·exact h.elim
 | block id c O=>
  intro k Q a w j h
  refine wp_block (wp_mono (O k _ a w j h) ?_)
  intro e o w' ⟨m,q⟩
  cases e with
  | exit Z=>
   simp only[Q25,Exit.inBlock] at q⊢
   split<;>rename_i V<;>simp only[V,if_true,if_false] at q<;>exact ⟨m,q⟩
  | _=>exact ⟨m,q⟩
 | loop c O=>
  intro k Q a w j h
  obtain ⟨I,μ,h0,hr⟩:=Q8M h
  refine wp_loop (fun o w'=>o.defers=[]∧(∃d,o.tmps.toList=N6 ((g.getD k none).getD []) (L1 g (k+1) c) (Lw o.tmps.toList ((g.getD k none).getD [])) d 0 a.tmps.toList)∧I (Lw o.tmps.toList ((g.getD k none).getD [])) w') (fun o w'=>μ (Lw o.tmps.toList ((g.getD k none).getD [])) w') ⟨j,⟨get a.tmps.toList,Gb _ _ _ _ rfl (fun _ _ _=>rfl)⟩,h0⟩ ?_
  intro z w1 ⟨L,⟨d1,v⟩,M⟩
  have X:=hr _ d1 w1 M
  dsimp only at X
  rw[←v] at X
  have W:=Q3j P g c (k+1) _ (fun e l' w'=>thn (fun l' w'=>I (Lw l' ((g.getD k none).getD [])) w'∧μ (Lw l' ((g.getD k none).getD [])) w'<μ (Lw z.tmps.toList ((g.getD k none).getD [])) w1) Q e l' w'∧K0 (L1 g (k+1) c) z.tmps.toList l') (L1 g (k+1) c) z.tmps.toList z.tmps.toList w1 (fun _ h=>h) (K0.refl _ _) (fun e l w h U=>⟨h,U⟩) X
  refine wp_mono (O _ _ z w1 L W) ?_
  intro e a2 w2 ⟨D,B,E⟩
  cases e with
  | normal=>
   refine ⟨⟨D,⟨get a2.tmps.toList,Gb _ _ _ _ ?_ ?_⟩,B.1⟩,B.2⟩
   ·rw[E.1,v,Ek]
   ·intro i R H
    rw[E.2 i H,v,Ra]
    simp only[Nat.zero_add,Ue _ _ _ _ R,H,Bool.false_eq_true,if_false,Option.map_id']
  | _=>exact ⟨D,B⟩
def Q6Y:List Value→Nat→Value→(List Value→Prop)→Prop
 | [],_,_,k=>k []
 | _::l,0,v,k=>k (v::l)
 | x::l,n+1,v,k=>Q6Y l n v (fun l'=>k (x::l'))
def Q2s (l:List Value) (d:Option Tmp) (v:Value) (k:List Value→Prop):Prop:=
 match d with
 | some d=>Q6Y l d v k
 | none=>k l
def Q78:List Value→Nat→(Value→Prop)→Prop
 | [],_,k=>k undef
 | x::_,0,k=>k x
 | _::l,n+1,k=>Q78 l n k
def evK (l:List Value) (o:Operand) (k:Value→Prop):Prop:=
 match o with
 | .tmp t=>Q78 l t k
 | .const v=>k v
 | .global g=>k (.pointer (some ⟨g,0,none⟩))
 | .func f=>k (.func (.func f) #[] #[])
def Q1y (i:Nat) (e:Value):(a:List Nat)→Ik a.length→(Value→Prop)→Prop
 | [],_,k=>k e
 | [s],x,k=>if s=i then k x else k e
 | s::t::r,x,k=>if s=i then k x.1 else Q1y i e (t::r) x.2 k
def Co (a b:List Nat) (x:Ik a.length) (d:Nat→Value):Nat→List Value→(List Value→Prop)→Prop
 | _,[],k=>k []
 | i,v::l,k=>match b.contains i with
  | true=>Q1y i (d i) a x (fun u=>Co a b x d (i+1) l (fun l'=>k (u::l')))
  | false=>Q1y i v a x (fun u=>Co a b x d (i+1) l (fun l'=>k (u::l')))
theorem X1k (l:List Value): ∀(n:Nat) (v:Value) (k:List Value→Prop),Q6Y l n v k=k (l.set n v):=by
 induction l with
 | nil=>intro n v k;rfl
 | cons x l a=>intro n v k;cases n with
  | zero=>rfl
  | succ n=>simp only[Q6Y,a,List.set_cons_succ]
theorem Q6o (l:List Value) (d:Option Tmp) (v:Value) (k:List Value→Prop):Q2s l d v k=k (put l d v):=by
 cases d with
 | none=>rfl
 | some d=>exact X1k l d v k
theorem X0X (l:List Value): ∀(n:Nat) (k:Value→Prop),Q78 l n k=k (get l n):=by
 induction l with
 | nil=>intro n k;rfl
 | cons x l a=>intro n k;cases n with
  | zero=>rfl
  | succ n=>simp only[Q78,a];rfl
theorem X20 (l:List Value) (o:Operand) (k:Value→Prop):evK l o k=k (ev l o):=by
 cases o with
 | tmp t=>exact X0X l t k
 | _=>rfl
theorem Az (i:Nat) (e:Value) (k:Value→Prop): ∀(a:List Nat) (x:Ik a.length),Q1y i e a x k=k (Da i e a x)
 | [],_=>rfl
 | [s],x=>by
  by_cases h:s=i
  ·exact (if_pos h).trans (congrArg k (if_pos h).symm)
  ·exact (if_neg h).trans (congrArg k (if_neg h).symm)
 | s::t::r,x=>by
  by_cases h:s=i
  ·exact (if_pos h).trans (congrArg k (if_pos h).symm)
  ·exact ((if_neg h).trans (Az i e k (t::r) x.2)).trans (congrArg k (if_neg h).symm)
theorem Q33 (a b:List Nat) (x:Ik a.length) (d:Nat→Value) (l:List Value): ∀(i:Nat) (k:List Value→Prop),Co a b x d i l k=k (N6 a b x d i l):=by
 induction l with
 | nil=>intro i k;rfl
 | cons v l c=>
  intro i k
  simp only[Co,N6]
  split
  ·rename_i h;rw[Az,c,if_pos h]
  ·rename_i h;rw[Az,c,if_neg (by rw[h];simp)]
theorem Re (b c a:List Nat) (h: ∀i,c.contains i=a.contains i) (x:Ik b.length) (d:Nat→Value) (l:List Value): ∀i,N6 b c x d i l=N6 b a x d i l:=by
 induction l with
 | nil=>intro i;rfl
 | cons v l e=>intro i;simp only[N6,e,h]
noncomputable def F6 (P:Program) (ops:List Oper) (next:List Value→World→Prop):List Oper→List Value→World→Prop
 | [],l,w=>next l w
 | o::a,l,w=>
  match o.guard with
  | none=>match o.op with
   | .move x=>evK l x fun v=>Q2s l o.dst v fun l=>F6 P ops next a l w
   | .assign x=>evK l x fun v=>Q2s l o.dst v fun l=>F6 P ops next a l w
   | _=>V0 P l o w (fun v w=>Q2s l o.dst v fun l=>F6 P ops next a l w)
  | some (j,b)=>match (ops[j]?).bind (·.dst) with
   | some d=>Q1 (get l d) b w (V0 P l o) (fun v w=>Q2s l o.dst v fun l=>F6 P ops next a l w)
   | none=>Q2s l o.dst undef fun l=>F6 P ops next a l w
theorem Di (P:Program) (ops:List Oper) (next:List Value→World→Prop) (os:List Oper): ∀(l:List Value) (w:World),F6 P ops next os l w=Y4 P ops next os l w:=by
 induction os with
 | nil=>intro l w;rfl
 | cons o c a=>
  intro l w
  obtain ⟨dst,p,d,pos,e,g⟩:=o
  cases g with
  | none=>cases p<;>simp only[F6,Y4,Q6o,X20,a,V0]
  | some q=>obtain ⟨j,b⟩:=q;simp only[F6,Y4,Q6o,a]
def K9 (T:World→World→Prop) (φ:Value→World→Prop):Prop:= ∀v w w',φ v w→T w w'→φ v w'
def dk (T:World→World→Prop) (φ:Value→World→Prop) (w:World):Value→World→Prop:=fun v w'=>T w w'∧φ v w'
def Q3U (T:World→World→Prop) (A:(Value→World→Prop)→Prop) (a:(Value→World→Prop)→Prop):Prop:=
 ∃φ,K9 T φ∧A φ∧a φ
theorem Q7W: ∃f:(World→World→Prop)→((Value→World→Prop)→Prop)→((Value→World→Prop)→Prop)→Prop,f=Q3U:=⟨_,rfl⟩
noncomputable def Q7:(World→World→Prop)→((Value→World→Prop)→Prop)→((Value→World→Prop)→Prop)→Prop:=Classical.choose Q7W
theorem Q7M:Q7=Q3U:=Classical.choose_spec Q7W
def Q71 (w:World) (A:(World→World→Prop)→(World→Prop)→Prop):Prop:= ∃T B,B w.drew∧(∀w w',B w→T w w'→B w')∧A T B
theorem X0m: ∃f:World→((World→World→Prop)→(World→Prop)→Prop)→Prop,f=Q71:=⟨_,rfl⟩
noncomputable def dr:World→((World→World→Prop)→(World→Prop)→Prop)→Prop:=Classical.choose X0m
theorem X0y:dr=Q71:=Classical.choose_spec X0m
theorem Q0c {w:World} {A:(World→World→Prop)→(World→Prop)→Prop} (T:World→World→Prop) (B:World→Prop) (h:B w.drew) (a: ∀w w',B w→T w w'→B w') (b:A T B):dr w A:=by
 rw[X0y];exact ⟨T,B,h,a,b⟩
theorem W6 {T:World→World→Prop} {A a:(Value→World→Prop)→Prop} (φ:Value→World→Prop) (b:K9 T φ) (h:A φ) (c:a φ):Q7 T A a:=by
 rw[Q7M];exact ⟨φ,b,h,c⟩
def Q2n (T:World→World→Prop) (A a:(List Value→Value→World→Prop)→Prop):Prop:=
 ∃φ,(∀xs,K9 T (φ xs))∧A φ∧a φ
theorem Q6x: ∃f:(World→World→Prop)→((List Value→Value→World→Prop)→Prop)→((List Value→Value→World→Prop)→Prop)→Prop,f=Q2n:=⟨_,rfl⟩
noncomputable def Q1a:(World→World→Prop)→((List Value→Value→World→Prop)→Prop)→((List Value→Value→World→Prop)→Prop)→Prop:=Classical.choose Q6x
theorem Q6j:Q1a=Q2n:=Classical.choose_spec Q6x
theorem Q6w {T:World→World→Prop} {A a:(List Value→Value→World→Prop)→Prop} (φ:List Value→Value→World→Prop) (b: ∀xs,K9 T (φ xs)) (h:A φ) (c:a φ):Q1a T A a:=by
 rw[Q6j];exact ⟨φ,b,h,c⟩
abbrev Iv:=Nat×Nat
def Ap (a:Nat→Iv):Prop:= ∀i j,i≠j→(a i).2≤(a j).1∨(a j).2≤(a i).1
def dkR (T:World→World→Prop) (φ:Iv→Value→World→Prop) (w:World):Value→World→Prop:=fun v w'=>T w w'∧φ (w.heap.size,w'.heap.size) v w'
def Q2F (T:World→World→Prop) (A a:(Iv→Value→World→Prop)→Prop):Prop:=
 ∃φ,(∀p,K9 T (φ p))∧A φ∧a φ
theorem Q66: ∃f:(World→World→Prop)→((Iv→Value→World→Prop)→Prop)→((Iv→Value→World→Prop)→Prop)→Prop,f=Q2F:=⟨_,rfl⟩
noncomputable def Q2B:(World→World→Prop)→((Iv→Value→World→Prop)→Prop)→((Iv→Value→World→Prop)→Prop)→Prop:=Classical.choose Q66
theorem Q6A:Q2B=Q2F:=Classical.choose_spec Q66
theorem Q6n {T:World→World→Prop} {A a:(Iv→Value→World→Prop)→Prop} (φ:Iv→Value→World→Prop) (b: ∀p,K9 T (φ p)) (h:A φ) (c:a φ):Q2B T A a:=by
 rw[Q6A];exact ⟨φ,b,h,c⟩
def Q4t (w:World) (A:(World→World→Prop)→(World→Prop)→Prop):Prop:= ∃T B,B w.drew∧(∀w w',B w→T w w'→B w')∧(∀w w',T w w'→w.heap.size≤w'.heap.size)∧A T B
theorem Q8Z: ∃f:World→((World→World→Prop)→(World→Prop)→Prop)→Prop,f=Q4t:=⟨_,rfl⟩
noncomputable def drR:World→((World→World→Prop)→(World→Prop)→Prop)→Prop:=Classical.choose Q8Z
theorem Q8H:drR=Q4t:=Classical.choose_spec Q8Z
theorem X25 {w:World} {A:(World→World→Prop)→(World→Prop)→Prop} (T:World→World→Prop) (B:World→Prop) (h:B w.drew) (b: ∀w w',B w→T w w'→B w') (a: ∀w w',T w w'→w.heap.size≤w'.heap.size) (c:A T B):drR w A:=by
 rw[Q8H];exact ⟨T,B,h,b,a,c⟩
def Sn:Bool→((Nat→Iv)→Prop)→Prop
 | false,k=>k fun _=>(0,0)
 | true,k=> ∀a:Nat→Iv,Ap a→k a
def OkI:Bool→(Nat→Iv)→Prop
 | false,a=>a=fun _=>(0,0)
 | true,a=>Ap a
def Lx:Bool→World→Nat
 | false,_=>0
 | true,w=>w.heap.size
theorem Q4F {r:Bool} {k:(Nat→Iv)→Prop} (h:Sn r k) {b:Nat→Iv} (a:OkI r b):k b:=by
 cases r with
 | false=>have a:b=_:=a;subst a;exact h
 | true=>exact h b a
def Rn (r:Bool) (a:Nat→Iv) (w:World):Prop:=OkI r a∧ ∀q,(a q).2≤Lx r w
theorem Rn.init {r:Bool} {w:World}:Rn r (fun _=>(0,0)) w:=⟨by cases r<;>first | rfl | exact fun _ _ _=> .inl (Nat.le_refl _),fun _=>Nat.zero_le _⟩
theorem Rn.step {r:Bool} {c:Nat→Iv} {w w':World} (h:Rn r c w) (g:Lx r w≤Lx r w') (q:Nat):Rn r (fun n=>if n=q then (Lx r w,Lx r w') else c n) w':=by
 obtain ⟨a,d⟩:=h
 refine ⟨?_,fun n=>?_⟩
 ·cases r with
  | false=>
   have a:c=_:=a
   subst a
   funext n
   simp[Lx]
  | true=>
   intro i j b
   have a:Ap c:=a
   simp only
   by_cases f:i=q
   ·subst f
    rw[if_pos rfl,if_neg (Ne.symm b)]
    exact .inr (d j)
   ·rw[if_neg f]
    by_cases e:j=q
    ·subst e
     rw[if_pos rfl]
     exact .inl (d i)
    ·rw[if_neg e]
     exact a i j b
 ·simp only
  split
  ·exact Nat.le_refl _
  ·exact Nat.le_trans (d n) g
noncomputable def runOp (P:Program) (ops:List Oper) (l:List Value) (o:Oper) (w:World) (K:Value→World→Prop):Prop:=
 match o.guard with
 | none=>V0 P l o w K
 | some (j,b)=>match (ops[j]?).bind (·.dst) with
  | some d=>Q1 (get l d) b w (V0 P l o) K
  | none=>False
inductive Ent where
  | val (v : Value)
  | ref (j : Nat)
def Ent.at (u:Nat→Value):Ent→Value
 | .val v=>v
 | .ref j=>u j
def G4 (u:Nat→Value) (S:List Ent):List Value:=S.map (Ent.at u)
def getE:List Ent→Nat→Ent
 | [],_=> .val undef
 | x::_,0=>x
 | _::l,n+1=>getE l n
def entOf (S:List Ent):Operand→Ent
 | .tmp t=>getE S t
 | .const v=> .val v
 | .global g=> .val (.pointer (some ⟨g,0,none⟩))
 | .func f=> .val (.func (.func f) #[] #[])
def mv (o:Oper):Option Operand:=
 match o.guard with
 | some _=>none
 | none=>match o.op with
  | .move x=>some x
  | .assign x=>some x
  | _=>none
def Q13:List Ent→Nat→Ent→List Ent
 | [],_,_=>[]
 | _::l,0,e=>e::l
 | x::l,n+1,e=>x::Q13 l n e
def putE (S:List Ent) (d:Option Nat) (e:Ent):List Ent:=
 match d with
 | some d=>Q13 S d e
 | none=>S
def E8 (o:Oper):List Nat:=o.op.operands.toList.filterMap fun | .tmp t=>some t | _=>none
def O5 (ops:List Oper) (o:Oper):List Nat:=
 match o.guard with
 | none=>[]
 | some (j,_)=>match (ops[j]?).bind (·.dst) with | some d=>[d] | none=>[]
def Q0n:List Nat→List Nat
 | []=>[]
 | x::l=>x::(Q0n l).filter (fun y=> !(y==x))
def Q3Q:Ent→List Nat
 | .ref j=>[j]
 | .val _=>[]
def Q0f (S:List Ent):List Nat→List Nat
 | []=>[]
 | s::l=>Q3Q (getE S s)++Q0f S l
def refs (ops:List Oper) (S:List Ent) (o:Oper):List Nat:=Q0n (Q0f S (O5 ops o++E8 o))
def Ei:List Nat→(Nat→Value)→((Nat→Value)→Prop)→Prop
 | [],u,k=>k u
 | j::a,u,k=> ∀t:Value,Ei a (fun n=>if n=j then t else u n) k
abbrev He:=List (Nat×List Nat×(List Value→Iv→Value→World→Prop))
def Jk:He→Nat→Option (List Nat×(List Value→Iv→Value→World→Prop))
 | [],_=>none
 | (i,φ)::l,j=>if i=j then some φ else Jk l j
def Ep (c:He) (u:Nat→Value) (b:Nat→Iv) (w:World) (a:Prop):List Nat→Prop
 | []=>a
 | j::d=>match Jk c j with
  | some ([],φ)=>φ [] (b j) (u j) w→Ep c u b w a d
  | _=>Ep c u b w a d
def Q0m (c:He) (u:Nat→Value) (b:Nat→Iv) (w:World) (a:Prop):List Nat→Prop
 | []=>a
 | j::d=>match Jk c j with
  | some (R,φ)=>φ (R.map u) (b j) (u j) w→Q0m c u b w a d
  | none=>Q0m c u b w a d
def Q4n (o:Oper):Bool:=match o.op with | .store .. =>true | _=>false
def Ab (o:Oper):Bool:=match o.op with | .call c=>(match c.callee with | .value (.func _)=>true | _=>false) | _=>false
def Q6R (r:Bool) (o:Oper):Bool:=match r with | true=>Ab o | false=>false
noncomputable def chain (P:Program) (r:Bool) (ops:List Oper) (T:World→World→Prop) (B:World→Prop) (J7:List Value→World→Prop) (tail:List Oper):Nat→List Oper→List Ent→He→List Nat→Prop
 | _,[],S,b,done=>Ei done (fun _=>undef) fun u=>Sn r fun c=> ∀w,B w→Q0m b u c w (F6 P ops J7 tail (G4 u S) w) done
 | i,o::a,S,b,done=>
  match mv o with
  | some x=>chain P r ops T B J7 tail (i+1) a (putE S o.dst (entOf S x)) b done
  | none=>match Q4n o with
   | true=>Q1a T (fun φ=>Ei (refs ops S o) (fun _=>undef) fun u=>Sn r fun c=> ∀w,B w→Ep b u c w (runOp P ops (G4 u S) o w (dk T (φ ((refs ops S o).map u)) w)) (refs ops S o))
    (fun φ=>chain P r ops T B J7 tail (i+1) a (putE S o.dst (.ref i)) (b++[(i,refs ops S o,fun xs (_:Iv)=>φ xs)]) (done++[i]))
   | false=>match Q6R r o with
    | true=>Q2B T (fun φ=>Ei (refs ops S o) (fun _=>undef) fun u=>Sn r fun c=> ∀w,B w→Ep b u c w (runOp P ops (G4 u S) o w (dkR T φ w)) (refs ops S o))
     (fun φ=>chain P r ops T B J7 tail (i+1) a (putE S o.dst (.ref i)) (b++[(i,[],fun (_:List Value)=>φ)]) (done++[i]))
    | false=>Q7 T (fun φ=>Ei (refs ops S o) (fun _=>undef) fun u=>Sn r fun c=> ∀w,B w→Ep b u c w (runOp P ops (G4 u S) o w (dk T φ w)) (refs ops S o))
     (fun φ=>chain P r ops T B J7 tail (i+1) a (putE S o.dst (.ref i)) (b++[(i,[],fun (_:List Value) (_:Iv)=>φ)]) (done++[i]))
def Qg:Op→Bool
 | .ready _ | .waits _ | .sliceToArrayPointer .. | .makeChan .. | .typeAssert .. | .go _ | .defer _ | .send .. | .recv .. | .select .. =>false
 | .call c=>match c.callee with | .invoke .. =>false | _=>true
 | _=>true
theorem Ru {l l':List Value} {x:Option Operand} (h: ∀y∈x.toArray,ev l y=ev l' y):evo l x=evo l' x:=by
 cases x with
 | none=>rfl
 | some y=>simp only[evo];rw[h y (by simp)]
theorem Q05 {l l':List Value} {xs:Array Operand} (h: ∀y∈xs,ev l y=ev l' y):Tb l xs=Tb l' xs:=by
 unfold Tb;exact List.map_congr_left fun y a=>h y (by simpa using a)
theorem Q3n {l l':List Value} {xs:Array (Nat×Operand)} (h: ∀y∈(xs.toList.map (·.2)).toArray,ev l y=ev l' y):evp l xs=evp l' xs:=by
 unfold evp
 refine List.map_congr_left fun y a=>?_
 rw[h y.2 (by simp;exact ⟨y.1,by simpa using a⟩)]
theorem Np {P:Program} {l l':List Value} {o:Oper} (q:Qg o.op=true) (h: ∀x∈o.op.operands,ev l x=ev l' x):V0 P l o=V0 P l' o:=by
 obtain ⟨d,p,B,pos,C,g⟩:=o
 funext w K
 cases p with
 | call c=>
  obtain ⟨j,i,D⟩:=c
  have k:Tb l i=Tb l' i:=Q05 fun y e=>h y (by simp[Op.operands,Call.operands];exact .inr e)
  cases j with
  | invoke r m=>simp[Qg] at q
  | builtin b=>simp only[V0,Nf,k]
  | value f=>
   have u:ev l f=ev l' f:=h f (by simp[Op.operands,Call.operands])
   cases f<;>simp only[V0,Nf,k,u]
 | build t A=>simp only[V0];rw[Q3n h]
 | buildSlice t n A=>simp only[V0];rw[Q3n h]
 | makeFunc f a b=>
  simp only[V0]
  rw[Q05 (xs:=a) fun y e=>h y (by simp[Op.operands];exact .inl e),Q05 (xs:=b) fun y e=>h y (by simp[Op.operands];exact .inr e)]
 | makeMap t r=>simp only[V0];rw[Ru h]
 | slice t x z s v=>
  simp only[V0]
  rw[h x (by simp[Op.operands]),Ru (x:=z) fun y e=>h y (by simp[Op.operands] at e⊢;simp[e]),Ru (x:=s) fun y e=>h y (by simp[Op.operands] at e⊢;simp[e]),Ru (x:=v) fun y e=>h y (by simp[Op.operands] at e⊢;simp[e])]
 | _=>first
  | (simp[Qg] at q;done)
  | (simp only[Op.operands,List.mem_toArray,List.mem_cons,List.not_mem_nil,or_false,forall_eq_or_imp,forall_eq] at h;simp only[V0,h];done)
  | rfl
def Fm:List Oper→List Nat→List Nat
 | [],acc=>acc
 | o::a,acc=>Fm a (acc++[(o.after.toList.filter (Region.binds .any)).foldl (fun s e=>s ||| 2 ^ e.on ||| acc.getD e.on 0) 0])
def K7 (a b:Oper):Bool:=
 match a.dst with
 | some d=>(E8 b).contains d||b.dst==some d
 | none=>false
def Q2K (a:List Nat) (ops:List Oper):Bool:=
 ops.zipIdx.all fun (o,j)=>ops.zipIdx.all fun (q,i)=> !(decide (i<j))|| !(K7 q o||K7 o q)||(a.getD j 0).testBit i
def Jc (ops:List Oper):Bool:=
 ops.zipIdx.all fun (o,i)=>Qg o.op&&(o.after.toList.filter (Region.binds .any)).all (fun e=>decide (e.on<i))&&
  match o.guard with | none=>true | some (j,_)=>(o.after.toList.filter (Region.binds .any)).any (fun e=>e.on==j)
def Q3I (m:Region.Mode) (ops:List Oper):List Nat→List Nat→Bool
 | [],_=>true
 | j::L,seen=>((ops[j]?.map fun o=>o.after.toList).getD []).all (fun e=> !Region.binds m e||seen.contains e.on)&&Q3I m ops L (j::seen)
def G8 (m:Region.Mode) (ops:List Oper) (L:List Nat):Bool:=
 Q3I m ops L []&&(List.range ops.length).all (L.contains ·)&&ops.all (fun o=>o.after.toList.all fun e=> !Region.binds m e||decide (e.on<ops.length))
def Q9h (m:Region.Mode) (ops:List Oper):Nat→List Nat→List Nat→List Nat
 | 0,_,seen=>seen.reverse
 | n+1,a,seen=>
  match a.find? (fun j=>((ops[j]?.map fun o=>o.after.toList).getD []).all (fun e=> !Region.binds m e||seen.contains e.on)) with
  | some j=>Q9h m ops n (a.erase j) (j::seen)
  | none=>seen.reverse
def Ql:List Nat→Bool
 | []=>true
 | x::l=> !l.contains x&&Ql l
def I0 (ops:List Oper) (j:Nat):List Nat:=(ops[j]?.map fun o=>(o.after.toList.filter (Region.binds .any)).map (·.on)).getD []
def Ec (ops:List Oper) (L:List Nat):Prop:= ∀a j b,L=a++j::b→ ∀i∈I0 ops j,i∈a
theorem Q55 (f:Edge→Nat) (l:List Edge): ∀(s i:Nat),(l.foldl (fun s e=>s ||| 2 ^ e.on ||| f e) s).testBit i=true→
 s.testBit i=true∨ ∃e∈l,e.on=i∨(f e).testBit i=true:=by
 induction l with
 | nil=>intro s i h;exact .inl h
 | cons e l c=>
  intro s i h
  rcases c _ _ h with h | ⟨a,b,h⟩
  ·simp only[Nat.testBit_or,Bool.or_eq_true] at h
   rcases h with (h | h) | h
   ·exact .inl h
   ·rw[Nat.testBit_two_pow] at h
    exact .inr ⟨e,by simp, .inl (by simpa using h)⟩
   ·exact .inr ⟨e,by simp, .inr h⟩
  ·exact .inr ⟨a,by simp[b],h⟩
theorem Q3f (a:List Oper): ∀(b:List Oper) (acc:List Nat),acc.length+b.length=a.length→(∀k,acc.length≤k→a[k]? =b[k-acc.length]?)→
 (∀j i,j<acc.length→(acc.getD j 0).testBit i=true→ ∃k∈I0 a j,k=i∨(k<j∧(acc.getD k 0).testBit i=true))→
 (∀j,j<a.length→ ∀k∈I0 a j,k<j)→
 ∀j i,j<a.length→((Fm b acc).getD j 0).testBit i=true→ ∃k∈I0 a j,k=i∨(k<j∧((Fm b acc).getD k 0).testBit i=true)
 | [],acc,q,_,d,_=>by
  intro j i t h
  exact d j i (by simp at q;omega) h
 | o::b,acc,q,g,d,n=>by
  have w:a[acc.length]? =some o:=by rw[g _ (Nat.le_refl _)];simp
  refine Q3f a b _ (by simp at q⊢;omega) ?_ ?_ n
  ·intro k f
   simp only[List.length_append,List.length_cons,List.length_nil] at f⊢
   rw[g k (by omega)]
   obtain ⟨m,u⟩: ∃m,k-acc.length=m+1:=⟨k-acc.length-1,by omega⟩
   rw[u,List.getElem?_cons_succ]
   congr 1;omega
  ·intro j i t h
   simp only[List.length_append,List.length_cons,List.length_nil] at t
   have c: ∀k,k<acc.length→(acc++[(o.after.toList.filter (Region.binds .any)).foldl (fun s e=>s ||| 2 ^ e.on ||| acc.getD e.on 0) 0]).getD k 0=acc.getD k 0:=by
    intro k f
    simp only[List.getD_eq_getElem?_getD]
    rw[List.getElem?_append_left f]
   by_cases p:j<acc.length
   ·rw[c j p] at h
    obtain ⟨k,f,h⟩:=d j i p h
    exact ⟨k,f,h.imp id fun ⟨z,y⟩=>⟨z,by rw[c k (by omega)];exact y⟩⟩
   ·have r:j=acc.length:=by omega
    subst r
    simp only[List.getD_eq_getElem?_getD,List.getElem?_append_right (Nat.le_refl _),Nat.sub_self,List.getElem?_cons_zero,Option.getD_some] at h
    rcases Q55 (fun e=>acc.getD e.on 0) _ _ _ (by simpa only[List.getD_eq_getElem?_getD] using h) with h | ⟨e,v,h⟩
    ·simp at h
    ·have l:e.on∈I0 a acc.length:=by
      unfold I0;rw[w];simp only[Option.map_some,Option.getD_some,List.mem_map];exact ⟨e,v,rfl⟩
     refine ⟨e.on,l,h.imp id fun h=>?_⟩
     have f:=n acc.length (by simp at q;omega) _ l
     exact ⟨f,by rw[c _ f];exact h⟩
theorem Bj {ops:List Oper} (h:Jc ops=true): ∀j,j<ops.length→ ∀k∈I0 ops j,k<j:=by
 intro j b k a
 simp only[Jc,List.all_eq_true,Bool.and_eq_true] at h
 unfold I0 at a
 rw[List.getElem?_eq_getElem b] at a
 simp only[Option.map_some,Option.getD_some,List.mem_map] at a
 obtain ⟨e,c,rfl⟩:=a
 have:=(h (ops[j],j) (by rw[List.mem_zipIdx_iff_getElem?];simp[b])).1.2 e c
 simpa using this
theorem Q4O {ops:List Oper} (g:Jc ops=true) {L:List Nat} (l:Ec ops L): ∀(j:Nat),j<ops.length→ ∀i b a,L=b++j::a→((Fm ops []).getD j 0).testBit i=true→i∈b:=by
 intro j
 induction j using Nat.strongRecOn with
 | _ j n=>
  intro e i b a f q
  obtain ⟨k,m,h⟩:=Q3f ops ops [] (by simp) (by simp) (by intro j i e;simp at e) (Bj g) j i e q
  have c:=l b j a f k m
  rcases h with rfl | ⟨d,h⟩
  ·exact c
  ·obtain ⟨p,o,rfl⟩:=List.append_of_mem c
   have:=n k d (by omega) i p (o++j::a) (by rw[f];simp) h
   exact List.mem_append_left _ this
theorem Up: ∀(n:Nat) (a:List Nat),(∀k,k<n→k∈a)→n≤a.length
 | 0,_,_=>Nat.zero_le _
 | n+1,a,h=>by
  have d:=Up n (a.erase n) fun k b=>(List.mem_erase_of_ne (by omega)).2 (h k (by omega))
  have c:=List.length_erase_of_mem (h n (by omega))
  have e:=List.length_pos_of_mem (h n (by omega))
  omega
theorem R8: ∀(n:Nat) (l:List Nat),l.Nodup→(∀k∈l,k<n)→l.length≤n
 | 0,l,_,h=>by
  cases l with
  | nil=>simp
  | cons x l=>exact absurd (h x (by simp)) (by omega)
 | n+1,l,c,h=>by
  by_cases b:n∈l
  ·have g:=R8 n (l.erase n) (c.erase n) fun k a=>by
    have d:=h k (List.mem_of_mem_erase a)
    have f:k≠n:=fun e=>by subst e;exact (List.Nodup.not_mem_erase c) a
    omega
   have d:=List.length_erase_of_mem b
   have f:=List.length_pos_of_mem b
   omega
  ·have:=R8 n l c fun k a=>by
    have d:=h k a
    have f:k≠n:=fun e=>by subst e;exact b a
    omega
   omega
theorem Q8W {m:Region.Mode} {e:Edge} (h:Region.binds .any e=true):Region.binds m e=true:=by
 unfold Region.binds at h⊢
 cases a:e.ground<;>rw[a] at h<;>first | rfl | (exact absurd h (by simp<;>rfl)) | (simp at h;cases h)
theorem Q7e {m:Region.Mode} {ops:List Oper} {L:List Nat} (h:G8 m ops L=true) (k:Nat) (a:k<ops.length): ∀e∈(ops[k]?.map fun o=>o.after.toList).getD [],Region.binds m e=true→e.on<ops.length:=by
 intro e b c
 simp only[G8,Bool.and_eq_true,List.all_eq_true] at h
 rw[List.getElem?_eq_getElem a] at b
 have:=h.2 ops[k] (List.getElem_mem a) e (by simpa using b)
 rw[c] at this
 simpa using this
theorem Q4P {m:Region.Mode} {ops:List Oper} {L:List Nat} (h:G8 m ops L=true): ∀k,k<ops.length→k∈L:=by
 intro k a
 simp only[G8,Bool.and_eq_true,List.all_eq_true] at h
 simpa using h.1.2 k (by simpa using a)
theorem Q6u (m:Region.Mode) (ops:Array Oper) (O:Jc ops.toList=true) (Y:List Nat) (Q:G8 m ops.toList Y=true): ∀(fuel t:Nat) (listed:Array Bool) (a:List Nat),
 fuel+a.length=ops.size→listed.size=ops.size→(∀i,i<ops.size→(listed.getD i true=true↔i∈a))→a.Nodup→(∀i∈a,i<ops.size)→Ec ops.toList a.reverse→
 (Region.linearise.go m ops fuel t listed a).Nodup∧(Region.linearise.go m ops fuel t listed a).length=ops.size∧Ec ops.toList (Region.linearise.go m ops fuel t listed a)
 | 0,t,listed,a,hf,_,_,hn,_,W=>by
  simp only[Region.linearise.go]
  exact ⟨List.pairwise_reverse.2 (hn.imp fun h=>Ne.symm h),by simp;omega,W⟩
 | fuel+1,t,listed,a,hf,w,u,hn,v,W=>by
  -- one that isn't listed may come
  have aa: ∃k,k<ops.size∧k∉a:=by
   refine Classical.byContradiction fun ae=>?_
   have M: ∀k,k<ops.size→k∈a:=fun k hk=>Classical.byContradiction fun h=>ae ⟨k,hk,h⟩
   have:=Up ops.size a M
   omega
  simp only[Region.linearise.go]
  split
  ·rename_i i hi
   have l:=List.mem_of_getElem? hi
   simp only[List.mem_filter,List.mem_range,Bool.and_eq_true,Bool.not_eq_true'] at l
   obtain ⟨c,N,q⟩:=l
   have D:i∉a:=fun h=>by rw[(u i c).2 h] at N;cases N
   refine Q6u m ops O Y Q fuel _ _ _ (by simp;omega) (by simp[w]) ?_ (List.nodup_cons.2 ⟨D,hn⟩) ?_ ?_
   ·intro j hj
    by_cases r:i=j
    ·subst r;simp[Array.getD,w,c]
    ·have:(listed.setIfInBounds i true).getD j true=listed.getD j true:=by
      simp only[Array.getD_eq_getD_getElem?]
      rw[Array.getElem?_setIfInBounds_ne r]
     rw[this,u j hj]
     simp[Ne.symm r]
   ·intro j hj
    rcases List.mem_cons.1 hj with rfl | hj
    ·exact c
    ·exact v j hj
   ·rw[List.reverse_cons]
    intro V j A hL k hk
    rcases List.eq_nil_or_concat A with rfl | ⟨n,x,rfl⟩
    ·have hh:=List.append_inj' hL rfl
     obtain ⟨h1,h2⟩:=hh
     simp only[List.cons.injEq,and_true] at h2
     subst h2;subst h1
     have U:=hk
     unfold I0 at hk
     rw[show ops.toList[i]? =some ops[i] by simp[c]] at hk
     simp only[Option.map_some,Option.getD_some,List.mem_map,List.mem_filter] at hk
     obtain ⟨e,⟨g,X⟩,rfl⟩:=hk
     rw[show ops[i]? =some ops[i] by simp[c]] at q
     simp only[Option.map_some,Option.getD_some,Array.all_eq_true'] at q
     have h4:=q e (by simpa using g)
     simp only[Bool.or_eq_true,Bool.not_eq_true'] at h4
     rcases h4 with h4 | h4
     ·rw[Q8W X] at h4;cases h4
     ·have am:=Bj O i (by simpa using c) e.on U
      have:listed.getD e.on true=true:=by
       simp only[Array.getD_eq_getD_getElem?] at h4⊢
       rw[Array.getElem?_eq_getElem (by omega)] at h4⊢
       simpa using h4
      simpa using (u e.on (by omega)).1 this
    ·rw[List.concat_eq_append,←List.cons_append,←List.append_assoc] at hL
     have hh:=List.append_inj' hL rfl
     exact W V j n hh.1 k hk
  ·rename_i p
   exfalso
   obtain ⟨k0,E,J⟩:=aa
   have B:=Q
   simp only[G8,Bool.and_eq_true] at B
   -- every number of L0 that is none of an operation's has no edges: it may stand there, but isn't looked at
   have f: ∃k,k<ops.size∧k∉a∧ ∀e∈(ops.toList[k]?.map fun o=>o.after.toList).getD [],Region.binds m e=true→e.on∈a∨ops.size≤e.on:=by
    -- the first of L0 that is an operation's number and isn't listed
    have key: ∀(L b:List Nat),Q3I m ops.toList L b=true→(∀k∈b,k∈a∨ops.size≤k)→(∃k∈L,k<ops.size∧k∉a)→
     ∃k,k<ops.size∧k∉a∧ ∀e∈(ops.toList[k]?.map fun o=>o.after.toList).getD [],Region.binds m e=true→e.on∈a∨ops.size≤e.on:=by
     intro L
     induction L with
     | nil=>rintro b _ _ ⟨k,hk,_⟩;simp at hk
     | cons j L ih=>
      rintro b h hs ⟨k,hk,ac,s⟩
      simp only[Q3I,Bool.and_eq_true,List.all_eq_true] at h
      by_cases hj:j∈a∨ops.size≤j
      ·refine ih (j::b) h.2 (fun x hx=>by rcases List.mem_cons.1 hx with rfl | hx;exact hj;exact hs x hx) ⟨k,?_,ac,s⟩
       rcases List.mem_cons.1 hk with rfl | hk
       ·rcases hj with hj | hj
        ·exact absurd hj s
        ·omega
       ·exact hk
      ·have af:j<ops.size:=by
        refine Nat.lt_of_not_le fun h=>hj (.inr h)
       refine ⟨j,af,fun h=>hj (.inl h),fun e O R=>?_⟩
       have:=h.1 e O
       rw[R] at this
       exact hs _ (by simpa using this)
    exact key Y [] B.1.1 (by simp) ⟨k0,Q4P Q k0 (by simpa using E),E,J⟩
   obtain ⟨k,d,Z,H⟩:=f
   by_cases C:k∈(List.range ops.size).filter fun i=> !listed.getD i true&&((ops[i]?).map (·.after.all fun e=> !Region.binds m e||listed.getD e.on false)).getD false
   ·have z:=List.length_pos_of_mem C
    have:=List.getElem?_eq_none_iff.1 p
    have:=Nat.mod_lt t z
    omega
   ·refine C ?_
    simp only[List.mem_filter,List.mem_range,Bool.and_eq_true,Bool.not_eq_true']
    refine ⟨d,?_,?_⟩
    ·cases hc:listed.getD k true with
     | false=>rfl
     | true=>exact absurd ((u k d).1 hc) Z
    ·rw[show ops[k]? =some ops[k] by simp[d]]
     simp only[Option.map_some,Option.getD_some,Array.all_eq_true']
     intro e g
     simp only[Bool.or_eq_true,Bool.not_eq_true']
     cases R:Region.binds m e with
     | false=>exact .inl rfl
     | true=>
      right
      rw[show ops.toList[k]? =some ops[k] by simp[d]] at H
      rcases H e (by simpa using g) R with h | h
      ·have y:=v _ h
       have:=(u e.on y).2 h
       simp only[Array.getD_eq_getD_getElem?] at this⊢
       rw[Array.getElem?_eq_getElem (by omega)] at this⊢
       simpa using this
      ·exact absurd h (by
        have:=Q7e Q k (by simpa using d) e (by rw[show ops.toList[k]? =some ops[k] by simp[d]];simpa using g) R
        simp at this;omega)
theorem Q3F (b:Bool) (ops:Array Oper) (t:Nat) (f:Jc ops.toList=true) (g: ∀m,∃L,G8 m ops.toList L=true):
 (Region.schedule b ops t).Nodup∧(Region.schedule b ops t).length=ops.size∧Ec ops.toList (Region.schedule b ops t):=by
 have key: ∀m t,(Region.linearise m ops t).Nodup∧(Region.linearise m ops t).length=ops.size∧Ec ops.toList (Region.linearise m ops t):=by
  intro m t
  obtain ⟨L,e⟩:=g m
  refine Q6u m ops f L e _ _ _ _ (by simp) (by simp) ?_ List.nodup_nil (by simp) ?_
  ·intro i c;simp[Array.getD,c]
  ·intro d j a h;simp at h
 unfold Region.schedule
 split<;>exact key _ _
theorem Xl: ∀(ops:List Oper),Ql (O6 ops)=true→ ∀(i j:Nat) (a b:Oper) (d:Nat),ops[i]? =some a→ops[j]? =some b→a.dst=some d→b.dst=some d→i=j
 | [],_,i,j,a,b,d,h,_,_,_=>by simp at h
 | o::c,l,i,j,a,b,d,m,n,p,r=>by
  have f: ∀(k:Nat) (q:Oper),c[k]? =some q→q.dst=some d→d∈O6 c:=by
   intro k q u v
   simp only[O6,List.mem_filterMap]
   exact ⟨q,List.mem_of_getElem? u,v⟩
  have g:Ql (O6 c)=true:=by
   simp only[O6,List.filterMap_cons] at l
   split at l
   ·exact l
   ·simp only[Ql,Bool.and_eq_true] at l;exact l.2
  have e:o.dst=some d→d∉O6 c:=by
   intro t
   simp only[O6,List.filterMap_cons,t,Ql,Bool.and_eq_true,Bool.not_eq_true'] at l
   intro s
   have:=l.1
   simp only[List.contains_eq_mem,decide_eq_false_iff_not] at this
   exact this s
  cases i with
  | zero=>
   simp only[List.getElem?_cons_zero,Option.some.injEq] at m
   subst m
   cases j with
   | zero=>rfl
   | succ j=>exact absurd (f j b (by simpa using n) r) (e p)
  | succ i=>
   cases j with
   | zero=>
    simp only[List.getElem?_cons_zero,Option.some.injEq] at n
    subst n
    exact absurd (f i a (by simpa using m) p) (e r)
   | succ j=>rw[Xl c g i j a b d (by simpa using m) (by simpa using n) p r]
theorem Fx (u:Nat→Value): ∀(S:List Ent) (s:Nat),get (G4 u S) s=(getE S s).at u
 | [],s=>by simp[G4,get,getE,Ent.at]
 | e::S,0=>rfl
 | e::S,s+1=>Fx u S s
theorem Sv: ∀(S:List Ent) (s:Nat),getE S s=(S[s]?).getD (.val undef)
 | [],s=>by simp[getE]
 | e::S,0=>rfl
 | e::S,s+1=>by simp only[getE,List.getElem?_cons_succ];exact Sv S s
theorem Q0l: ∀(S:List Ent) (n:Nat) (e:Ent),Q13 S n e=S.set n e
 | [],n,e=>by simp[Q13]
 | x::S,0,e=>rfl
 | x::S,n+1,e=>by simp only[Q13,List.set_cons_succ,Q0l S n e]
theorem Q38 {x:Nat}: ∀{l:List Nat},x∈l→x∈Q0n l
 | y::l,h=>by
  simp only[Q0n,List.mem_cons,List.mem_filter]
  by_cases e:x=y
  ·exact .inl e
  ·exact .inr ⟨Q38 ((List.mem_cons.1 h).resolve_left e),by simpa using e⟩
theorem Hx {x:Nat}: ∀{l:List Nat},x∈Q0n l→x∈l
 | y::l,h=>by
  simp only[Q0n,List.mem_cons,List.mem_filter] at h⊢
  exact h.imp id fun h=>Hx h.1
theorem Q3s {S:List Ent} {j:Nat}: ∀{l:List Nat} {s:Nat},s∈l→getE S s= .ref j→j∈Q0f S l
 | x::l,s,h,e=>by
  simp only[Q0f,List.mem_append]
  rcases List.mem_cons.1 h with rfl | h
  ·left;rw[e];simp[Q3Q]
  ·right;exact Q3s h e
theorem Rh {S:List Ent} {j:Nat}: ∀{l:List Nat},j∈Q0f S l→ ∃s∈l,getE S s= .ref j
 | x::l,h=>by
  simp only[Q0f,List.mem_append] at h
  rcases h with h | h
  ·refine ⟨x,by simp,?_⟩
   cases a:getE S x with
   | val v=>rw[a] at h;simp[Q3Q] at h
   | ref k=>rw[a] at h;simp[Q3Q] at h;rw[h]
  ·obtain ⟨s,b,e⟩:=Rh h
   exact ⟨s,by simp[b],e⟩
theorem Q18: ∀(a:List Nat) (c u:Nat→Value) (k:(Nat→Value)→Prop),Ei a c k→ ∃b,k b∧ ∀x,(x∈a→b x=u x)∧(x∉a→b x=c x)
 | [],c,u,k,h=>⟨c,h,fun x=>⟨fun h=>by simp at h,fun _=>rfl⟩⟩
 | j::a,c,u,k,h=>by
  obtain ⟨b,g,d⟩:=Q18 a _ u k (h (u j))
  refine ⟨b,g,fun x=>⟨fun hx=>?_,fun hx=>?_⟩⟩
  ·by_cases f:x∈a
   ·exact (d x).1 f
   ·rw[(d x).2 f]
    rcases List.mem_cons.1 hx with rfl | hx
    ·simp
    ·exact absurd hx f
  ·rw[(d x).2 (fun h=>hx (List.mem_cons_of_mem _ h))]
   have:x≠j:=fun e=>hx (by simp[e])
   simp[this]
theorem Q1l {f:He} {u:Nat→Value} {e:Nat→Iv} {w:World} {a:Prop}: ∀{d:List Nat},Ep f u e w a d→(∀j∈d,∀φ,Jk f j=some ([],φ)→φ [] (e j) (u j) w)→a
 | [],h,_=>h
 | j::d,h,b=>by
  simp only[Ep] at h
  split at h
  ·rename_i φ g
   exact Q1l (h (b j (by simp) φ g)) fun k c=>b k (by simp[c])
  ·exact Q1l h fun k c=>b k (by simp[c])
theorem Pt {f:He} {u:Nat→Value} {e:Nat→Iv} {w:World} {a:Prop}: ∀{d:List Nat},Q0m f u e w a d→(∀j∈d,∀R φ,Jk f j=some (R,φ)→φ (R.map u) (e j) (u j) w)→a
 | [],h,_=>h
 | j::d,h,b=>by
  simp only[Q0m] at h
  split at h
  ·rename_i R φ g
   exact Pt (h (b j (by simp) R φ g)) fun k c=>b k (by simp[c])
  ·exact Pt h fun k c=>b k (by simp[c])
theorem Fu {a:He} {i j:Nat} {φ:List Nat×(List Value→Iv→Value→World→Prop)} (h:i≠j):Jk (a++[(i,φ)]) j=Jk a j:=by
 induction a with
 | nil=>simp[Jk,h]
 | cons p a b=>obtain ⟨k,ψ⟩:=p;simp only[List.cons_append,Jk,b]
theorem Lf {a:He} {i:Nat} {φ:List Nat×(List Value→Iv→Value→World→Prop)} (h:Jk a i=none):Jk (a++[(i,φ)]) i=some φ:=by
 induction a with
 | nil=>simp[Jk]
 | cons p a c=>
  obtain ⟨k,ψ⟩:=p
  simp only[Jk] at h
  split at h
  ·cases h
  ·rename_i b;simp only[List.cons_append,Jk,b,if_false];exact c h
def Hc (S:List Ent) (i:Nat) (o:Oper):Ent:=match mv o with | some x=>entOf S x | none=> .ref i
def L3 (S:List Ent):Nat→List Oper→List Ent
 | _,[]=>S
 | i,o::a=>L3 (putE S o.dst (Hc S i o)) (i+1) a
theorem Q3h: ∀(a:List Oper) (S:List Ent) (i k:Nat) (o:Oper),a[k]? =some o→
 L3 S i (a.take (k+1))=putE (L3 S i (a.take k)) o.dst (Hc (L3 S i (a.take k)) (i+k) o)
 | [],_,_,_,_,h=>by simp at h
 | x::a,S,i,0,o,h=>by
  simp only[List.getElem?_cons_zero,Option.some.injEq] at h
  subst h
  simp[L3]
 | x::a,S,i,k+1,o,h=>by
  simp only[List.getElem?_cons_succ] at h
  have:=Q3h a (putE S x.dst (Hc S i x)) (i+1) k o h
  simp only[List.take_succ_cons,L3]
  rw[this,show i+1+k=i+(k+1) from by omega]
def Xn (S:List Ent) (D:List Nat):Prop:= ∀e∈S,∀j,e= .ref j→j∈D
theorem Xn.getE {S:List Ent} {D:List Nat} (h:Xn S D) {s j:Nat} (e:Go.Emb.getE S s= .ref j):j∈D:=by
 rw[Sv] at e
 cases a:S[s]? with
 | none=>rw[a] at e;cases e
 | some x=>rw[a] at e;exact h x (List.mem_of_getElem? a) j e
theorem Xn.putE {S:List Ent} {D:List Nat} (h:Xn S D) (d:Option Nat) {e:Ent} (c: ∀j,e= .ref j→j∈D):Xn (Go.Emb.putE S d e) D:=by
 cases d with
 | none=>exact h
 | some d=>
  intro x a j b
  simp only[Go.Emb.putE,Q0l] at a
  rcases List.mem_or_eq_of_mem_set a with a | rfl
  ·exact h x a j b
  ·exact c j b
theorem Xn.mono {S:List Ent} {D a:List Nat} (h:Xn S D) (d: ∀j∈D,j∈a):Xn S a:=fun e c j b=>d j (h e c j b)
theorem Xn.entOf {S:List Ent} {D:List Nat} (h:Xn S D) (x:Operand) {j:Nat} (e:Go.Emb.entOf S x= .ref j):j∈D:=by
 cases x with
 | tmp t=>exact h.getE e
 | _=>cases e
theorem Q7a {S:List Ent} {D:List Nat} (h:Xn S D) {u a:Nat→Value} (c: ∀j∈D,a j=u j):G4 a S=G4 u S:=by
 unfold G4
 refine List.map_congr_left fun e b=>?_
 cases e with
 | val v=>rfl
 | ref j=>exact c j (h _ b j rfl)
theorem Q0H {P:Program} {ops:List Oper} {l l':List Value} {o:Oper} (c:Qg o.op=true) (h: ∀s∈O5 ops o++E8 o,get l s=get l' s):runOp P ops l o=runOp P ops l' o:=by
 funext w K
 unfold runOp
 rw[Np c fun x f=>by
  cases x with
  | tmp s=>exact h s (List.mem_append_right _ (by simp only[E8,List.mem_filterMap];exact ⟨.tmp s,by simpa using f,rfl⟩))
  | _=>rfl]
 cases a:o.guard with
 | none=>rfl
 | some q=>
  obtain ⟨j,b⟩:=q
  simp only
  cases e:(ops[j]?).bind (·.dst) with
  | none=>rfl
  | some d=>simp only;rw[h d (List.mem_append_left _ (by simp[O5,a,e]))]
theorem Q1u {P:Program} {ops:List Oper} {l:List Value} {o:Oper} {w:World} {K d:Value→World→Prop} (a: ∀v w,K v w→d v w) (h:runOp P ops l o w K):runOp P ops l o w d:=by
 unfold runOp at*
 split at h
 ·exact B5 a h
 ·split at h
  ·exact Tg ((Vd h).imp (fun ⟨c,b⟩=>⟨c,B5 a b⟩) (fun ⟨c,b⟩=>⟨c,a _ _ b⟩))
  ·exact h.elim
theorem Q2b {P:Program} {ops:List Oper} {J7:List Value→World→Prop} {o:Oper} {a:List Oper} {l:List Value} {w:World}
 (h:runOp P ops l o w (fun v w=>Y4 P ops J7 a (put l o.dst v) w)):Y4 P ops J7 (o::a) l w:=by
 simp only[Y4]
 unfold runOp at h
 cases c:o.guard with
 | none=>simp only[c] at h⊢;exact h
 | some q=>
  obtain ⟨j,b⟩:=q
  simp only[c] at h⊢
  split at h
  ·rename_i d e
   first | exact h | (simp only[e];exact h) | (rw[e];exact h)
  ·exact h.elim
structure Whole (P : Program) (r : Bool) (ops : List Oper) (T : World → World → Prop) (B : World → Prop) (J7 : List Value → World → Prop) (tail : List Oper) (Φ : Nat → (Nat → Value) → Iv → World → Prop) (S : List Ent) (i : Nat) (rest : List Oper) (D : List Nat) : Prop where
  stable : ∀ k o, rest[k]? = some o → mv o = none → ∀ u p w w', Φ (i + k) u p w → T w w' → Φ (i + k) u p w'
  loc : ∀ k o, rest[k]? = some o → mv o = none → ∀ u u', (∀ r ∈ (i + k) :: refs ops (L3 S i (rest.take k)) o, u r = u' r) → Φ (i + k) u = Φ (i + k) u'
  run : ∀ k o, rest[k]? = some o → mv o = none → Qg o.op = true → ∀ u iv w, OkI r iv → B w → (∀ j ∈ refs ops (L3 S i (rest.take k)) o, Φ j u (iv j) w) →
    runOp P ops (G4 u (L3 S i (rest.take k))) o w (fun v w' => T w w' ∧ ∀ u', (∀ r ∈ refs ops (L3 S i (rest.take k)) o, u' r = u r) → u' (i + k) = v → Φ (i + k) u' (Lx r w, Lx r w') w')
  last : ∀ u iv w, OkI r iv → B w → (∀ j ∈ D, Φ j u (iv j) w) → (∀ k o, rest[k]? = some o → mv o = none → Φ (i + k) u (iv (i + k)) w) → Y4 P ops J7 tail (G4 u (L3 S i rest)) w
theorem Tm (P:Program) (r:Bool) (ops:List Oper) (T:World→World→Prop) (B:World→Prop) (J7:List Value→World→Prop) (tail:List Oper): ∀(f:List Oper) (i:Nat) (S:List Ent) (m:He) (done:List Nat),
 Xn S done→(∀j,j∈done→j<i∧ ∃φ,Jk m j=some φ)→(∀j φ,Jk m j=some φ→j<i∧ ∀r∈φ.1,r∈done)→chain P r ops T B J7 tail i f S m done→
 ∃Φ:Nat→(Nat→Value)→Iv→World→Prop,(∀j R φ,Jk m j=some (R,φ)→Φ j=fun u p w=>φ (R.map u) p (u j) w)∧Whole P r ops T B J7 tail Φ S i f done
 | [],i,S,m,done,O,W,L,h=>by
  refine ⟨fun j u p w=>match Jk m j with | some (R,φ)=>φ (R.map u) p (u j) w | none=>True,fun j R φ hj=>by simp[hj],⟨by simp,by simp,by simp,?_⟩⟩
  intro u C w z hB M _
  obtain ⟨A,n,g⟩:=Q18 done _ u _ h
  have q:=Pt (Q4F n z w hB) fun j hj R φ Q=>by
   have:=M j hj
   simp only[Q] at this
   rw[(g j).1 hj,show R.map A=R.map u from List.map_congr_left fun r d=>(g r).1 ((L j _ Q).2 r d)];exact this
  rw[Q7a O fun j hj=>(g j).1 hj,Di] at q
  exact q
 | o::f,i,S,m,done,O,W,L,h=>by
  simp only[chain] at h
  cases y:mv o with
  | some x=>
   simp only[y] at h
   have c:Hc S i o=entOf S x:=by simp[Hc,y]
   obtain ⟨Φ,n,g⟩:=Tm P r ops T B J7 tail f (i+1) _ m done (O.putE _ fun j hj=>O.entOf x hj) (fun j hj=>⟨by have:=(W j hj).1;omega,(W j hj).2⟩) (fun j φ hj=>⟨by have:=(L j φ hj).1;omega,(L j φ hj).2⟩) h
   refine ⟨Φ,n,⟨?_,?_,?_,?_⟩⟩
   ·intro k l b a
    cases k with
    | zero=>simp only[List.getElem?_cons_zero,Option.some.injEq] at b;subst b;rw[y] at a;cases a
    | succ k=>have:=g.stable k l (by simpa using b) a;rwa [show i+1+k=i+(k+1) from by omega] at this
   ·intro k l b a u A N
    cases k with
    | zero=>simp only[List.getElem?_cons_zero,Option.some.injEq] at b;subst b;rw[y] at a;cases a
    | succ k=>
     simp only[List.take_succ_cons,L3,c] at N
     have:=g.loc k l (by simpa using b) a u A (by rwa [show i+1+k=i+(k+1) from by omega])
     rwa [show i+1+k=i+(k+1) from by omega] at this
   ·intro k l b a D u C w z hB d
    cases k with
    | zero=>simp only[List.getElem?_cons_zero,Option.some.injEq] at b;subst b;rw[y] at a;cases a
    | succ k=>
     simp only[List.take_succ_cons,L3,c] at d⊢
     have:=g.run k l (by simpa using b) a D u C w z hB d
     rwa [show i+1+k=i+(k+1) from by omega] at this
   ·intro u C w z hB M Y
    simp only[L3,c]
    refine g.last u C w z hB M fun k l b a=>?_
    have:=Y (k+1) l (by simpa using b) a
    rwa [show i+(k+1)=i+1+k from by omega] at this
  | none=>
   have h': ∃(R:List Nat) (φ:List Value→Iv→Value→World→Prop),(∀r∈R,r∈refs ops S o)∧(∀xs p,K9 T (φ xs p))∧
    (Ei (refs ops S o) (fun _=>undef) fun u=>Sn r fun C=> ∀w,B w→Ep m u C w (runOp P ops (G4 u S) o w (fun v w'=>T w w'∧φ (R.map u) (Lx r w,Lx r w') v w')) (refs ops S o))∧
    chain P r ops T B J7 tail (i+1) f (putE S o.dst (.ref i)) (m++[(i,R,φ)]) (done++[i]):=by
    cases U:Q4n o with
    | true=>
     simp only[y,U,Q6j,Q2n] at h
     obtain ⟨φ,n,g,q⟩:=h
     exact ⟨_,fun xs _=>φ xs,fun _ h=>h,fun xs _=>n xs,g,q⟩
    | false=>
     cases hn:Q6R r o with
     | true=>
      simp only[y,U,hn,Q6A,Q2F] at h
      obtain ⟨φ,n,g,q⟩:=h
      cases r with
      | false=>cases hn
      | true=>exact ⟨[],fun _=>φ,by simp,fun _=>n,g,q⟩
     | false=>
      simp only[y,U,hn,Q7M,Q3U] at h
      obtain ⟨φ,n,g,q⟩:=h
      exact ⟨[],fun _ _=>φ,by simp,fun _ _=>n,g,q⟩
   clear h
   obtain ⟨R,φ,Z,ab,V,h⟩:=h'
   have ag: ∀r∈refs ops S o,r∈done:=fun r d=>by
    obtain ⟨s,_,he⟩:=Rh (Hx d)
    exact O.entOf (.tmp s) he
   have c:Hc S i o= .ref i:=by simp[Hc,y]
   have t:Jk m i=none:=by
    cases M:Jk m i with
    | none=>rfl
    | some ψ=>have:=(L i ψ M).1;omega
   obtain ⟨Φ,n,g⟩:=Tm P r ops T B J7 tail f (i+1) _ (m++[(i,R,φ)]) (done++[i])
    ((O.mono fun j hj=>List.mem_append_left _ hj).putE _ fun j hj=>by cases hj;simp)
    (fun j hj=>by
     rcases List.mem_append.1 hj with hj | hj
     ·obtain ⟨q,ψ,J⟩:=W j hj
      exact ⟨by omega,ψ,by rw[Fu (by omega)];exact J⟩
     ·simp at hj;subst hj;exact ⟨by omega,(R,φ),Lf t⟩)
    (fun j ψ hj=>by
     by_cases e:i=j
     ·subst e
      rw[Lf t] at hj;cases hj
      exact ⟨by omega,fun r d=>List.mem_append_left _ (ag r (Z r d))⟩
     ·rw[Fu e] at hj
      obtain ⟨q,J⟩:=L j ψ hj
      exact ⟨by omega,fun r d=>List.mem_append_left _ (J r d)⟩) h
   have H:Φ i=fun u p w=>φ (R.map u) p (u i) w:=n i R φ (Lf t)
   have E: ∀j X ψ,Jk m j=some (X,ψ)→Φ j=fun u p w=>ψ (X.map u) p (u j) w:=fun j X ψ hj=>n j X ψ (by rw[Fu (by have:=(L j _ hj).1;omega)];exact hj)
   refine ⟨Φ,E,⟨?_,?_,?_,?_⟩⟩
   ·intro k l b a
    cases k with
    | zero=>
     intro u p w w' ha hT
     rw[Nat.add_zero,H] at ha⊢
     exact ab _ _ _ _ _ ha hT
    | succ k=>have:=g.stable k l (by simpa using b) a;rwa [show i+1+k=i+(k+1) from by omega] at this
   ·intro k l b a u A N
    cases k with
    | zero=>
     simp only[List.getElem?_cons_zero,Option.some.injEq] at b
     subst b
     simp only[List.take_zero,L3,Nat.add_zero] at N
     rw[Nat.add_zero,H]
     funext p w
     show φ (R.map u) p (u i) w=φ (R.map A) p (A i) w
     rw[show R.map u=R.map A from List.map_congr_left fun r d=>N r (List.mem_cons_of_mem _ (Z r d)),N i (by simp)]
    | succ k=>
     simp only[List.take_succ_cons,L3,c] at N
     have:=g.loc k l (by simpa using b) a u A (by rwa [show i+1+k=i+(k+1) from by omega])
     rwa [show i+1+k=i+(k+1) from by omega] at this
   ·intro k l b a D u C w z hB d
    cases k with
    | zero=>
     simp only[List.getElem?_cons_zero,Option.some.injEq] at b
     subst b
     simp only[List.take_zero,L3,Nat.add_zero] at d⊢
     obtain ⟨A,q,J⟩:=Q18 _ _ u _ V
     have h5:=Q1l (Q4F q z w hB) fun j hj ψ hψ=>by
      have h6:=d j hj
      rw[E j [] ψ hψ] at h6
      rw[(J j).1 hj];exact h6
     rw[Q0H D (l':=G4 u S)] at h5
     ·refine Q1u ?_ h5
      rintro v w' ⟨hT,hf⟩
      refine ⟨hT,fun u2 ad hi=>?_⟩
      rw[H]
      show φ (R.map u2) (Lx r w,Lx r w') (u2 i) w'
      rw[hi,show R.map u2=R.map A from List.map_congr_left fun r d=>by rw[ad r (Z r d),(J r).1 (Z r d)]]
      exact hf
     ·intro s U
      rw[Fx,Fx]
      cases he:getE S s with
      | val v=>rfl
      | ref j=>exact (J j).1 (Q38 (Q3s U he))
    | succ k=>
     simp only[List.take_succ_cons,L3,c] at d⊢
     have:=g.run k l (by simpa using b) a D u C w z hB d
     rwa [show i+1+k=i+(k+1) from by omega] at this
   ·intro u C w z hB M Y
    simp only[L3,c]
    refine g.last u C w z hB (fun j hj=>?_) fun k l b a=>?_
    ·rcases List.mem_append.1 hj with hj | hj
     ·exact M j hj
     ·simp at hj;subst hj
      have:=Y 0 o (by simp) y
      simpa using this
    ·have:=Y (k+1) l (by simpa using b) a
     rwa [show i+(k+1)=i+1+k from by omega] at this
def P0 (os:List Oper) (S0:List Ent) (q:Nat):Ent:=
 match os[q]? with
 | some o=>Hc (L3 S0 0 (os.take q)) q o
 | none=> .val undef
theorem Q6k {os:List Oper} {S0:List Ent} {q:Nat} {o:Oper} (h:os[q]? =some o):L3 S0 0 (os.take (q+1))=putE (L3 S0 0 (os.take q)) o.dst (P0 os S0 q):=by
 rw[Q3h os S0 0 q o h]
 simp[P0,h]
theorem Q5S (S:List Ent) (d:Option Nat) (e:Ent):(putE S d e).length=S.length:=by
 cases d with
 | none=>rfl
 | some d=>simp[putE,Q0l]
theorem Fi (os:List Oper) (S0:List Ent): ∀q,q≤os.length→(L3 S0 0 (os.take q)).length=S0.length
 | 0,_=>by simp[L3]
 | q+1,h=>by rw[Q6k (List.getElem?_eq_getElem (by omega)),Q5S,Fi os S0 q (by omega)]
theorem Hk {os:List Oper} {S0:List Ent} (u:Ql (O6 os)=true) (n: ∀d∈O6 os,d<S0.length): ∀q,q≤os.length→
 (∀p,p<q→ ∀o d,os[p]? =some o→o.dst=some d→(L3 S0 0 (os.take q))[d]? =some (P0 os S0 p))∧
  (∀s,(∀p,p<q→ ∀o,os[p]? =some o→o.dst≠some s)→(L3 S0 0 (os.take q))[s]? =S0[s]?)
 | 0,_=>⟨fun p k=>absurd k (by omega),fun s _=>by simp[L3]⟩
 | q+1,h=>by
  obtain ⟨t,r⟩:=Hk u n q (by omega)
  have g:os[q]? =some os[q]:=List.getElem?_eq_getElem (by omega)
  have j:=Fi os S0 q (by omega)
  rw[Q6k g]
  cases c:os[q].dst with
  | none=>
   refine ⟨fun p k o d b a=>?_,fun s l=>r s fun p k=>l p (by omega)⟩
   by_cases e:p=q
   ·subst e;rw[g] at b;cases b;rw[c] at a;cases a
   ·exact t p (by omega) o d b a
  | some i=>
   have m:i<S0.length:=n i (by simp only[O6,List.mem_filterMap];exact ⟨os[q],List.getElem_mem _,c⟩)
   simp only[putE,Q0l]
   refine ⟨fun p k o d b a=>?_,fun s l=>?_⟩
   ·by_cases e:p=q
    ·subst e;rw[g] at b;cases b;rw[c] at a;cases a
     rw[List.getElem?_set_self (by rw[j];exact m)]
    ·have f:i≠d:=by
      rintro rfl
      exact e (Xl os u p q o os[q] i b g a c)
     rw[List.getElem?_set_ne f]
     exact t p (by omega) o d b a
   ·have f:i≠s:=fun e=>l q (by omega) os[q] g (by rw[c,e])
    rw[List.getElem?_set_ne f]
    exact r s fun p k=>l p (by omega)
def Vw (os:List Oper) (p:Nat):Bool:=
 match os[p]? with
 | some o=>match mv o with
  | some (.tmp s)=> !(O6 os).contains s
  | some _=>true
  | none=>false
 | none=>false
theorem X27 {P:Program} {o:Oper} {x:Operand} (h:mv o=some x) (l:List Value) (w:World) (K:Value→World→Prop):o.guard=none∧V0 P l o w K=K (ev l x) w:=by
 unfold mv at h
 split at h
 ·cases h
 ·rename_i b
  refine ⟨b,?_⟩
  split at h
  ·rename_i y a;cases h;simp only[V0,a]
  ·rename_i y a;cases h;simp only[V0,a]
  ·cases h
theorem Q5s {P:Program} {ops:List Oper} {J7:List Value→World→Prop} {o:Oper} {c a:List Oper} {l l':List Value} {w:World} (p:Qg o.op=true) (n: ∀s∈O5 ops o++E8 o,get l' s=get l s)
 (f: ∀v w,Y4 P ops J7 c (put l o.dst v) w→Y4 P ops J7 a (put l' o.dst v) w) (h:Y4 P ops J7 (o::c) l w):Y4 P ops J7 (o::a) l' w:=by
 have m:V0 P l' o=V0 P l o:=Np p fun x r=>by
  cases x with
  | tmp s=>exact n s (List.mem_append_right _ (by simp only[E8,List.mem_filterMap];exact ⟨.tmp s,by simpa using r,rfl⟩))
  | _=>rfl
 simp only[Y4] at h⊢
 cases e:o.guard with
 | none=>simp only[e] at h⊢;rw[m];exact B5 f h
 | some q=>
  obtain ⟨j,b⟩:=q
  simp only[e] at h⊢
  cases g:(ops[j]?).bind (·.dst) with
  | none=>simp only[g] at h⊢;exact f _ _ h
  | some d=>
   simp only[g] at h⊢
   rw[n d (List.mem_append_left _ (by simp[O5,e,g])),m]
   exact Tg ((Vd h).imp (fun ⟨k,i⟩=>⟨k,B5 f i⟩) (fun ⟨k,i⟩=>⟨k,f _ _ i⟩))
structure At (os : List Oper) (l0 : List Value) (pre : List Nat) (l : List Value) (u : Nat → Value) : Prop where
  len : l.length = l0.length
  done : ∀ p ∈ pre, ∀ o d, os[p]? = some o → o.dst = some d → l[d]? = some ((P0 os (l0.map .val) p).at u)
  rest : ∀ s, (∀ p ∈ pre, ∀ o, os[p]? = some o → o.dst ≠ some s) → l[s]? = l0[s]?
  refs : ∀ p ∈ pre, ∀ r, P0 os (l0.map .val) p = .ref r → r ∈ pre ∧ ∃ o, os[r]? = some o ∧ mv o = none
theorem X2K {P:Program} {r0:Bool} {ops os:List Oper} {T:World→World→Prop} {B:World→Prop} {J7:List Value→World→Prop} {m:Nat} {C:List Value} {Φ:Nat→(Nat→Value)→Iv→World→Prop}
 (bit:Nat→Nat→Bool) (bu: ∀o∈os,Qg o.op=true) (hn:Ql (O6 os)=true) (hd: ∀d∈O6 os,d<C.length)
 (af: ∀p q a b,p<q→os[p]? =some a→os[q]? =some b→(K7 a b||K7 b a)=true→bit p q=true)
 (hg: ∀q o j b,os[q]? =some o→o.guard=some (j,b)→ ∃p,p<q∧os[p]? =ops[j]? ∧bit p q=true)
 (hm:m≤os.length) (al: ∀q,m≤q→q<os.length→ ∀p,p<q→bit p q=true∨(p<m∧Vw os p=true))
 (hT: ∀w w',B w→T w w'→B w') (hM: ∀w w',T w w'→Lx r0 w≤Lx r0 w') (hW:Whole P r0 ops T B J7 (os.drop m) Φ (C.map .val) 0 (os.take m) [])
 (L:List Nat) (H:L.Nodup) (b0:L.length=os.length) (ab: ∀q∈L,q<os.length)
 (hC: ∀c q f,L=c++q::f→ ∀p,bit p q=true→p<os.length→p∈c):
 ∀(f c:List Nat),L=c++f→(∀q∈c,q<m)→ ∀(l:List Value) (u:Nat→Value) (iv:Nat→Iv) (w:World),Rn r0 iv w→At os C c l u→B w→
  (∀r∈c,∀o,os[r]? =some o→mv o=none→Φ r u (iv r) w∧ ∀j∈refs ops (L3 (C.map .val) 0 (os.take r)) o,j∈c)→Y4 P ops J7 (f.filterMap (os[·]?)) l w:=by
 have bd: ∀d∈O6 os,d<(C.map Ent.val).length:=by simpa using hd
 have ax: ∀q,q≤m→(os.take m).take q=os.take q:=fun q hq=>by rw[List.take_take,Nat.min_eq_left hq]
 have U: ∀q,q<m→(os.take m)[q]? =os[q]? :=fun q hq=>by rw[List.getElem?_take_of_lt hq]
 -- when all of the first part is done
 have ct: ∀(c f:List Nat),L=c++f→(∀q∈c,q<m)→(∀q,q<m→q∈c)→ ∀l u iv w,Rn r0 iv w→At os C c l u→B w→
  (∀r∈c,∀o,os[r]? =some o→mv o=none→Φ r u (iv r) w∧ ∀j∈refs ops (L3 (C.map .val) 0 (os.take r)) o,j∈c)→Y4 P ops J7 (f.filterMap (os[·]?)) l w:=by
  intro c f E D an l u iv w hI hA hB hΦ
  have ca: ∀(f c:List Nat),L=c++f→m≤c.length→(∀q,q∈c↔q<c.length)→f.filterMap (os[·]?)=os.drop c.length:=by
   intro f
   induction f with
   | nil=>
    intro c E _ _
    rw[List.append_nil] at E
    rw[←E,b0];simp
   | cons q f ih=>
    intro c E c9 a3
    have cs:q∉c:=by
     rw[E] at H
     intro h
     exact (List.nodup_append.1 H).2.2 q h q (by simp) rfl
    have cu:c.length≤q:=Nat.le_of_not_lt fun h=>cs ((a3 q).2 h)
    have W:=ab q (by rw[E];simp)
    have cw:q=c.length:=by
     refine Nat.le_antisymm (Nat.le_of_not_lt fun h=>?_) cu
     have:=hC c q f E c.length ((al q (by omega) W _ h).resolve_right (by omega)) (by omega)
     have:=(a3 _).1 this
     omega
    subst cw
    rw[List.filterMap_cons,List.getElem?_eq_getElem W]
    simp only
    rw[ih (c++[c.length]) (by rw[E];simp) (by simp;omega) (by intro x;simp only[List.mem_append,a3,List.mem_singleton,List.length_append,List.length_cons,List.length_nil];omega)]
    simp only[List.length_append,List.length_cons,List.length_nil]
    rw[←List.drop_eq_getElem_cons W]
  have bk:c.length=m:=by
   have J:=R8 m c (by rw[E] at H;exact (List.nodup_append.1 H).1) D
   have R:=Up m c an
   omega
  have J:=ca f c E (by omega) (fun q=>by rw[bk];exact ⟨D q,an q⟩)
  rw[J,bk]
  have R:=hW.last u iv w hI.1 hB (by simp) fun k o hk t=>by
   have a5:k<m:=by
    have:=(List.getElem?_eq_some_iff.1 hk).1
    simp at this;omega
   rw[Nat.zero_add]
   rw[U k a5] at hk
   exact (hΦ k (an k a5) o hk t).1
  have h3:l=G4 u (L3 (C.map .val) 0 (os.take m)):=by
   obtain ⟨g1,g2⟩:=Hk hn bd m hm
   apply List.ext_getElem?
   intro s
   rw[G4,List.getElem?_map]
   by_cases hs: ∃p,p<m∧ ∃o,os[p]? =some o∧o.dst=some s
   ·obtain ⟨p,hp,o,i,z⟩:=hs
    rw[hA.done p (an p hp) o s i z,g1 p hp o s i z];rfl
   ·have ae: ∀p,p<m→ ∀o,os[p]? =some o→o.dst≠some s:=fun p hp o i z=>hs ⟨p,hp,o,i,z⟩
    rw[hA.rest s (fun p hp=>ae p (D p hp)),g2 s ae,List.getElem?_map]
    cases C[s]? <;>rfl
  rw[h3];exact R
 -- moves that come late, among the tail
 have cc: ∀(f c:List Nat) (k:Nat),L=c++f→m≤k→k≤os.length→(∀q,m≤q→(q∈c↔q<k))→(∀p∈f,p<m→Vw os p=true)→
  ∀(l lf:List Value) (w:World),l.length=C.length→lf.length=C.length→(∀s,(∀p∈f,p<m→ ∀o,os[p]? =some o→o.dst≠some s)→l[s]? =lf[s]?)→
   (∀p∈f,p<m→ ∀o d x,os[p]? =some o→mv o=some x→o.dst=some d→lf[d]? =some (ev C x))→(∀s,(O6 os).contains s=false→l[s]? =C[s]?)→
   Y4 P ops J7 (os.drop k) lf w→Y4 P ops J7 (f.filterMap (os[·]?)) l w:=by
  intro f
  induction f with
  | nil=>
   intro c k E bb bv ac _ l lf w hl a8 ar _ _ h
   rw[List.append_nil] at E
   have hk:k=os.length:=by
    refine Nat.le_antisymm bv (Nat.le_of_not_lt fun D=>?_)
    have cz:k∉c:=fun e=>by have:=(ac k bb).1 e;omega
    have J:=R8 os.length (k::c) (List.nodup_cons.2 ⟨cz,E▸H⟩) (fun x hx=>by
     rcases List.mem_cons.1 hx with rfl | hx
     ·exact D
     ·exact ab x (by rw[E];exact hx))
    simp at J
    rw[E] at b0;omega
   have:l=lf:=List.ext_getElem? fun s=>ar s (by simp)
   rw[this]
   rw[hk,List.drop_length] at h
   exact h
  | cons q f ih=>
   intro c k E bb bv ac ak l lf w hl a8 ar ay Z h
   have O:q∉c:=by
    rw[E] at H
    intro h
    exact (List.nodup_append.1 H).2.2 q h q (by simp) rfl
   have cp:q∉f:=by
    rw[E] at H
    exact (List.nodup_cons.1 (List.nodup_append.1 H).2.1).1
   have W:=ab q (by rw[E];simp)
   have A:os[q]? =some os[q]:=List.getElem?_eq_getElem W
   have ch:L=(c++[q])++f:=by rw[E];simp
   rw[List.filterMap_cons,A]
   simp only
   by_cases aa:q<m
   ·-- a late move
    have D:=ak q (by simp) aa
    unfold Vw at D
    rw[A] at D
    simp only at D
    cases t:mv os[q] with
    | none=>rw[t] at D;cases D
    | some x=>
     rw[t] at D
     have hx:ev l x=ev C x:=by
      cases x with
      | tmp s=>
       simp only[Bool.not_eq_true'] at D
       simp only[ev,get,List.getD_eq_getElem?_getD,Z s D]
      | _=>rfl
     obtain ⟨ba,az⟩:=X27 (P:=P) t l w (fun v w=>Y4 P ops J7 (f.filterMap (os[·]?)) (put l os[q].dst v) w)
     simp only[Y4,ba]
     rw[az,hx]
     refine ih (c++[q]) k ch bb bv (fun q' aw=>?_) (fun p hp=>ak p (by simp[hp])) _ lf w ?_ a8 (fun s hs=>?_) (fun p hp=>ay p (by simp[hp])) (fun s hs=>?_) h
     ·rw[←ac q' aw];simp only[List.mem_append,List.mem_singleton]
      exact ⟨fun e=>e.resolve_right (by omega), .inl⟩
     ·cases g:os[q].dst<;>simp[put,hl]
     ·cases g:os[q].dst with
      | none=>
       refine ar s fun p hp M o i=>?_
       rcases List.mem_cons.1 hp with rfl | hp
       ·rw[A] at i;cases i;rw[g];simp
       ·exact hs p hp M o i
      | some d=>
       have av:d<C.length:=hd d (by simp only[O6,List.mem_filterMap];exact ⟨os[q],List.getElem_mem _,g⟩)
       simp only[put]
       by_cases e:d=s
       ·subst e
        rw[List.getElem?_set_self (by rw[hl];exact av)]
        exact (ay q (by simp) aa os[q] d x A t g).symm
       ·rw[List.getElem?_set_ne e]
        refine ar s fun p hp M o i=>?_
        rcases List.mem_cons.1 hp with rfl | hp
        ·rw[A] at i;cases i;rw[g];simpa using e
        ·exact hs p hp M o i
     ·cases g:os[q].dst with
      | none=>exact Z s hs
      | some d=>
       have aj:(O6 os).contains d=true:=by
        rw[List.contains_iff_mem];simp only[O6,List.mem_filterMap];exact ⟨os[q],List.getElem_mem _,g⟩
       simp only[put]
       rw[List.getElem?_set_ne (by rintro rfl;rw[hs] at aj;cases aj)]
       exact Z s hs
   ·have aa:m≤q:=by omega
    have c1:q=k:=by
     have J:k≤q:=Nat.le_of_not_lt fun e=>O ((ac q aa).2 e)
     refine Nat.le_antisymm (Nat.le_of_not_lt fun e=>?_) J
     have:=hC c q f E k ((al q aa W k e).resolve_right (by omega)) (by omega)
     have:=(ac k bb).1 this
     omega
    subst c1
    rw[List.drop_eq_getElem_cons W] at h
    have ci: ∀p∈f,p<m→bit p q=true→False:=fun p hp M hb=>by
     have:=hC c q f E p hb (by omega)
     rw[E] at H
     exact (List.nodup_append.1 H).2.2 p this p (by simp[hp]) rfl
    refine Q5s (bu _ (List.getElem_mem _)) (fun s hs=>?_) (fun v w' hv=>?_) h
    ·have:l[s]? =lf[s]? :=ar s fun p hp M o i z=>by
      rcases List.mem_cons.1 hp with rfl | hp
      ·omega
      refine ci p hp M ?_
      rcases List.mem_append.1 hs with hs | hs
      ·unfold O5 at hs
       split at hs
       ·simp at hs
       ·rename_i j b br
        split at hs
        ·rename_i d bz
         simp only[List.mem_singleton] at hs
         subst hs
         obtain ⟨p',ap,b1,hb⟩:=hg q os[q] j b A br
         obtain ⟨o',b2,b5⟩:=Option.bind_eq_some_iff.1 bz
         have:=Xl os hn p' p o' o s (by rw[b1,b2]) i b5 z
         subst this;exact hb
        ·simp at hs
      ·exact af p q o os[q] (by omega) i A (by simp only[K7,z,Bool.or_eq_true];left;left;simpa using hs)
     simp only[get,List.getD_eq_getElem?_getD,this]
    ·refine ih (c++[q]) (q+1) ch (by omega) (by omega) (fun q' aw=>?_) (fun p hp=>ak p (by simp[hp])) _ _ w' ?_ ?_ (fun s hs=>?_) (fun p hp M o d x i a9 z=>?_) (fun s hs=>?_) hv
     ·simp only[List.mem_append,List.mem_singleton,ac q' aw];omega
     ·cases g:os[q].dst<;>simp[put,hl]
     ·cases g:os[q].dst<;>simp[put,a8]
     ·have hb:l[s]? =lf[s]? ∨os[q].dst=some s:=by
       left
       refine ar s fun p hp M o i=>?_
       rcases List.mem_cons.1 hp with rfl | hp
       ·omega
       ·exact hs p hp M o i
      cases g:os[q].dst with
      | none=>
       rcases hb with hb | hb
       ·exact hb
       ·rw[g] at hb;cases hb
      | some d=>
       simp only[put]
       by_cases e:d=s
       ·subst e
        have av:d<C.length:=hd d (by simp only[O6,List.mem_filterMap];exact ⟨os[q],List.getElem_mem _,g⟩)
        rw[List.getElem?_set_self (by rw[hl];exact av),List.getElem?_set_self (by rw[a8];exact av)]
       ·rw[List.getElem?_set_ne e,List.getElem?_set_ne e]
        rcases hb with hb | hb
        ·exact hb
        ·rw[g] at hb;cases hb;exact absurd rfl e
     ·have cd:=ay p (by simp[hp]) M o d x i a9 z
      cases g:os[q].dst with
      | none=>exact cd
      | some d'=>
       have Y:d'≠d:=by
        rintro rfl
        have:=Xl os hn p q o os[q] d' i A z g
        omega
       simp only[put]
       rw[List.getElem?_set_ne Y];exact cd
     ·cases g:os[q].dst with
      | none=>exact Z s hs
      | some d=>
       have aj:(O6 os).contains d=true:=by
        rw[List.contains_iff_mem];simp only[O6,List.mem_filterMap];exact ⟨os[q],List.getElem_mem _,g⟩
       simp only[put]
       rw[List.getElem?_set_ne (by rintro rfl;rw[hs] at aj;cases aj)]
       exact Z s hs
 intro f
 induction f with
 | nil=>
  intro c E D l u iv w hI hA hB hΦ
  refine ct c [] E D ?_ l u iv w hI hA hB hΦ
  intro q hq
  rw[List.append_nil] at E
  refine Classical.byContradiction fun a2=>?_
  have J:=R8 os.length (q::c) (List.nodup_cons.2 ⟨a2,E▸H⟩) (fun k hk=>by
   rcases List.mem_cons.1 hk with rfl | hk
   ·omega
   ·exact ab k (by rw[E];exact hk))
  simp at J
  rw[E] at b0;omega
 | cons q f ih=>
  intro c E D l u iv w hI hA hB hΦ
  have O:q∉c:=by
   rw[E] at H
   intro h
   exact (List.nodup_append.1 H).2.2 q h q (by simp) rfl
  have W:=ab q (by rw[E];simp)
  by_cases aa:m≤q
  ·-- the tail begins
   have am: ∀p,p<m→p∉c→Vw os p=true:=fun p hp bs=>by
    rcases al q aa W p (by omega) with h | h
    ·exact absurd (hC c q f E p h (by omega)) bs
    ·exact h.2
   have bn: ∀p,Vw os p=true→ ∀o,os[p]? =some o→ ∃x,mv o=some x∧ ∀s,x= .tmp s→(O6 os).contains s=false:=by
    intro p hp o i
    unfold Vw at hp
    rw[i] at hp
    simp only at hp
    cases N:mv o with
    | none=>rw[N] at hp;cases hp
    | some x=>
     refine ⟨x,rfl,fun s hs=>?_⟩
     subst hs
     rw[N] at hp;simpa using hp
   obtain ⟨g1,g2⟩:=Hk hn bd m hm
   have bm: ∀s,(O6 os).contains s=false→ ∀(p:Nat) o,os[p]? =some o→o.dst≠some s:=by
    intro s hs p o i z
    have:(O6 os).contains s=true:=by
     rw[List.contains_iff_mem];simp only[O6,List.mem_filterMap]
     exact ⟨o,List.mem_of_getElem? i,z⟩
    rw[hs] at this;cases this
   refine cc (q::f) c m E (Nat.le_refl _) hm (fun q' aw=>⟨fun e=>D q' e,fun e=>absurd aw (by omega)⟩) (fun p hp M=>am p M fun e=>by
    rw[E] at H
    exact (List.nodup_append.1 H).2.2 p e p hp rfl) l (G4 u (L3 (C.map .val) 0 (os.take m))) w hA.len (by simp[G4,Fi os _ m hm]) (fun s hs=>?_) (fun p hp M o d x i a9 z=>?_) (fun s hs=>?_) ?_
   ·rw[G4,List.getElem?_map]
    by_cases aq: ∃p,p<m∧ ∃o,os[p]? =some o∧o.dst=some s
    ·obtain ⟨p,hp,o,i,z⟩:=aq
     by_cases X:p∈c
     ·rw[hA.done p X o s i z,g1 p hp o s i z];rfl
     ·exfalso
      have cj:p∈L:=by
       refine Classical.byContradiction fun a2=>?_
       have J:=R8 os.length (p::L) (List.nodup_cons.2 ⟨a2,H⟩) (fun k hk=>by
        rcases List.mem_cons.1 hk with rfl | hk
        ·omega
        ·exact ab k hk)
       simp at J;omega
      rw[E] at cj
      rcases List.mem_append.1 cj with h | h
      ·exact X h
      ·exact hs p h hp o i z
    ·have ae: ∀p,p<m→ ∀o,os[p]? =some o→o.dst≠some s:=fun p hp o i z=>aq ⟨p,hp,o,i,z⟩
     rw[hA.rest s (fun p hp=>ae p (D p hp)),g2 s ae,List.getElem?_map]
     cases C[s]? <;>rfl
   ·have X:p∉c:=fun e=>by
     rw[E] at H
     exact (List.nodup_append.1 H).2.2 p e p hp rfl
    rw[G4,List.getElem?_map,g1 p M o d i z]
    simp only[Option.map_some,Option.some.injEq]
    have V:P0 os (C.map .val) p=entOf (L3 (C.map .val) 0 (os.take p)) x:=by simp[P0,i,Hc,a9]
    rw[V]
    obtain ⟨x',b8,cr⟩:=bn p (am p M X) o i
    rw[a9] at b8;cases b8
    cases x with
    | tmp s=>
     have hs:=cr s rfl
     obtain ⟨_,k2⟩:=Hk (S0:=C.map .val) hn bd p (by omega)
     simp only[entOf]
     rw[Sv,k2 s (fun p' _ o' b2=>bm s hs p' o' b2),List.getElem?_map]
     simp only[ev,get,List.getD_eq_getElem?_getD]
     cases C[s]? <;>rfl
    | _=>rfl
   ·exact hA.rest s fun p _ o i=>bm s hs p o i
   ·refine hW.last u iv w hI.1 hB (by simp) fun k o hk t=>?_
    have a5:k<m:=by
     have:=(List.getElem?_eq_some_iff.1 hk).1
     simp at this;omega
    rw[Nat.zero_add]
    rw[U k a5] at hk
    refine (hΦ k (Classical.byContradiction fun bs=>?_) o hk t).1
    obtain ⟨x,hx,_⟩:=bn k (am k a5 bs) o hk
    rw[t] at hx;cases hx
  ·have aa:q<m:=by omega
   have A:os[q]? =some os[q]:=List.getElem?_eq_getElem W
   obtain ⟨g1,g2⟩:=Hk (S0:=C.map .val) hn bd q (by omega)
   -- what a slot holds that this operation reads
   have ad: ∀s,(∃p o,os[p]? =some o∧o.dst=some s∧p<q∧bit p q=true)∨s∈E8 os[q]→
    get l s=(getE (L3 (C.map .val) 0 (os.take q)) s).at u∧ ∀r,getE (L3 (C.map .val) 0 (os.take q)) s= .ref r→r∈c∧ ∃o,os[r]? =some o∧mv o=none:=by
    intro s hs
    have ae:(∀p∈c,∀o,os[p]? =some o→o.dst≠some s)→(∀p,p<q→ ∀o,os[p]? =some o→o.dst≠some s)→
     get l s=(getE (L3 (C.map .val) 0 (os.take q)) s).at u∧ ∀r,getE (L3 (C.map .val) 0 (os.take q)) s= .ref r→r∈c∧ ∃o,os[r]? =some o∧mv o=none:=by
     intro J R
     rw[Sv,g2 s R,List.getElem?_map]
     simp only[get,List.getD_eq_getElem?_getD,hA.rest s J]
     cases C[s]? with
     | none=>exact ⟨rfl,fun r hr=>by cases hr⟩
     | some v=>exact ⟨rfl,fun r hr=>by cases hr⟩
    have bg: ∀p o,os[p]? =some o→o.dst=some s→p<q→p∈c→
     get l s=(getE (L3 (C.map .val) 0 (os.take q)) s).at u∧ ∀r,getE (L3 (C.map .val) 0 (os.take q)) s= .ref r→r∈c∧ ∃o,os[r]? =some o∧mv o=none:=by
     intro p o hp i ap X
     rw[Sv,g1 p ap o s hp i]
     simp only[get,List.getD_eq_getElem?_getD,hA.done p X o s hp i,Option.getD_some]
     first | exact ⟨rfl,hA.refs p X⟩ | exact ⟨trivial,hA.refs p X⟩
    rcases hs with ⟨p,o,hp,i,ap,hb⟩ | hs
    ·exact bg p o hp i ap (hC c q f E p hb (by omega))
    ·by_cases aq: ∃(p:Nat) (o:Oper),os[p]? =some o∧o.dst=some s
     ·obtain ⟨p,o,hp,i⟩:=aq
      have c3:=(List.getElem?_eq_some_iff.1 hp).1
      have Z: ∀p' o',os[p']? =some o'→o'.dst=some s→p'=p:=fun p' o' J R=>Xl os hn p' p o' o s J hp R i
      rcases Nat.lt_trichotomy p q with h | h | h
      ·have hb:=af p q o os[q] h hp A (by simp only[K7,i,Bool.or_eq_true];left;left;simpa using hs)
       exact bg p o hp i h (hC c q f E p hb (by omega))
      ·subst h
       exact ae (fun p' ai o' J R=>by rw[Z p' o' J R] at ai;exact O ai) (fun p' ai o' J R=>by rw[Z p' o' J R] at ai;omega)
      ·refine ae (fun p' ai o' J R=>?_) (fun p' ai o' J R=>by rw[Z p' o' J R] at ai;omega)
       have e:=Z p' o' J R
       subst e
       have hb:=af q p' os[q] o' h A J (by simp only[K7,R,Bool.or_eq_true];right;left;simpa using hs)
       obtain ⟨p1,p2,X⟩:=List.append_of_mem ai
       have:=hC p1 p' (p2++q::f) (by rw[E,X];simp) q hb W
       exact O (by rw[X];exact List.mem_append_left _ this)
     ·exact ae (fun p _ o J R=>aq ⟨p,o,J,R⟩) (fun p _ o J R=>aq ⟨p,o,J,R⟩)
   have bx: ∀s∈O5 ops os[q]++E8 os[q],(∃p o,os[p]? =some o∧o.dst=some s∧p<q∧bit p q=true)∨s∈E8 os[q]:=by
    intro s hs
    rcases List.mem_append.1 hs with hs | hs
    ·left
     unfold O5 at hs
     split at hs
     ·simp at hs
     ·rename_i j b br
      split at hs
      ·rename_i d bz
       simp only[List.mem_singleton] at hs
       subst hs
       obtain ⟨p,ap,b1,hb⟩:=hg q os[q] j b A br
       obtain ⟨o,i,z⟩:=Option.bind_eq_some_iff.1 bz
       exact ⟨p,o,by rw[b1,i],z,ap,hb⟩
      ·simp at hs
    ·exact .inr hs
   have a1:=U q aa
   rw[A] at a1
   rw[List.filterMap_cons,A]
   simp only
   -- the state behind it
   have step: ∀(v:Value) (u':Nat→Value) (bc:Nat→Iv) (w':World),Rn r0 bc w'→(∀p∈c,(P0 os (C.map .val) p).at u'=(P0 os (C.map .val) p).at u)→v=(P0 os (C.map .val) q).at u'→
    (∀r,P0 os (C.map .val) q= .ref r→r∈q::c∧ ∃o,os[r]? =some o∧mv o=none)→B w'→(∀r∈q::c,∀o,os[r]? =some o→mv o=none→Φ r u' (bc r) w'∧ ∀j∈refs ops (L3 (C.map .val) 0 (os.take r)) o,j∈q::c)→
    Y4 P ops J7 (f.filterMap (os[·]?)) (put l os[q].dst v) w':=by
    intro v u' bc w' cv hu hv hr c0 ce
    have Q: ∀x,x∈c++[q]↔x∈q::c:=by intro x;simp[or_comm]
    refine ih (c++[q]) (by rw[E];simp) (fun x hx=>by rcases List.mem_cons.1 ((Q x).1 hx) with rfl | hx;exact aa;exact D x hx) _ u' bc w' cv ?_ c0 (fun r hr o i N=>⟨(ce r ((Q r).1 hr) o i N).1,fun j hj=>(Q j).2 ((ce r ((Q r).1 hr) o i N).2 j hj)⟩)
    have a4: ∀p∈c++[q],∀r,P0 os (C.map .val) p= .ref r→r∈c++[q]∧ ∃o,os[r]? =some o∧mv o=none:=by
     intro p hp r bq
     rcases List.mem_cons.1 ((Q p).1 hp) with rfl | hp
     ·exact ⟨(Q r).2 (hr r bq).1,(hr r bq).2⟩
     ·obtain ⟨J,R⟩:=hA.refs p hp r bq
      exact ⟨List.mem_append_left _ J,R⟩
    cases g:os[q].dst with
    | none=>
     refine ⟨hA.len,?_,?_,a4⟩
     ·intro p hp o d i z
      rcases List.mem_cons.1 ((Q p).1 hp) with rfl | hp
      ·rw[A] at i;cases i;rw[g] at z;cases z
      ·rw[hu p hp];exact hA.done p hp o d i z
     ·intro s hs;exact hA.rest s fun p hp=>hs p (List.mem_append_left _ hp)
    | some d0=>
     have av:d0<C.length:=hd d0 (by simp only[O6,List.mem_filterMap];exact ⟨os[q],List.getElem_mem _,g⟩)
     refine ⟨by simp[put,hA.len],?_,?_,a4⟩
     ·intro p hp o d i z
      rcases List.mem_cons.1 ((Q p).1 hp) with rfl | hp2
      ·rw[A] at i;cases i
       rw[g] at z;cases z
       simp only[put]
       rw[List.getElem?_set_self (by rw[hA.len];exact av),hv]
      ·have Y:d0≠d:=by
        rintro rfl
        have:=Xl os hn p q o os[q] d0 i A z g
        subst this;exact O hp2
       simp only[put]
       rw[List.getElem?_set_ne Y,hu p hp2]
       exact hA.done p hp2 o d i z
     ·intro s hs
      have Y:d0≠s:=fun e=>hs q (by simp) os[q] A (by rw[g,e])
      simp only[put]
      rw[List.getElem?_set_ne Y]
      exact hA.rest s fun p hp=>hs p (List.mem_append_left _ hp)
   cases t:mv os[q] with
   | some x=>
    have V:P0 os (C.map .val) q=entOf (L3 (C.map .val) 0 (os.take q)) x:=by simp[P0,A,Hc,t]
    -- a move: what the operand holds
    have hx:ev l x=(entOf (L3 (C.map .val) 0 (os.take q)) x).at u∧ ∀r,entOf (L3 (C.map .val) 0 (os.take q)) x= .ref r→r∈c∧ ∃o,os[r]? =some o∧mv o=none:=by
     cases x with
     | tmp s=>
      have hs:s∈E8 os[q]:=by
       unfold mv at t
       split at t
       ·cases t
       ·simp only[E8,List.mem_filterMap]
        split at t
        ·rename_i y hy;cases t;exact ⟨.tmp s,by rw[hy];simp[Op.operands],rfl⟩
        ·rename_i y hy;cases t;exact ⟨.tmp s,by rw[hy];simp[Op.operands],rfl⟩
        ·cases t
      exact ad s (.inr hs)
     | _=>exact ⟨rfl,fun r hr=>by cases hr⟩
    have ba:os[q].guard=none:=by
     unfold mv at t
     split at t
     ·cases t
     ·assumption
    simp only[Y4,ba]
    have az:V0 P l os[q] w (fun v w=>Y4 P ops J7 (f.filterMap (os[·]?)) (put l os[q].dst v) w)=Y4 P ops J7 (f.filterMap (os[·]?)) (put l os[q].dst (ev l x)) w:=by
     unfold mv at t
     rw[ba] at t
     simp only at t
     split at t
     ·rename_i y hy;cases t;simp only[V0,hy]
     ·rename_i y hy;cases t;simp only[V0,hy]
     ·cases t
    rw[az]
    refine step _ u iv w hI (fun _ _=>rfl) (by rw[V];exact hx.1) (fun r hr=>by
     rw[V] at hr
     obtain ⟨J,R⟩:=hx.2 r hr
     exact ⟨List.mem_cons_of_mem _ J,R⟩) hB (fun r hr o i N=>by
     rcases List.mem_cons.1 hr with rfl | hr
     ·rw[A] at i;cases i;rw[t] at N;cases N
     ·exact ⟨(hΦ r hr o i N).1,fun j hj=>List.mem_cons_of_mem _ ((hΦ r hr o i N).2 j hj)⟩)
   | none=>
    have V:P0 os (C.map .val) q= .ref q:=by simp[P0,A,Hc,t]
    have bi:=hW.run q os[q] a1 t (bu _ (List.getElem_mem _)) u iv w hI.1 hB
    rw[ax q (by omega),Nat.zero_add] at bi
    have cq:=hW.stable
    have bo:=bi (fun j hj=>by
     obtain ⟨s,hs,he⟩:=Rh (Hx hj)
     obtain ⟨J,o,R,h3⟩:=(ad s (bx s hs)).2 j he
     exact (hΦ j J o R h3).1)
    have cb: ∀j∈refs ops (L3 (C.map .val) 0 (os.take q)) os[q],j∈c:=fun j hj=>by
     obtain ⟨s,hs,he⟩:=Rh (Hx hj)
     exact ((ad s (bx s hs)).2 j he).1
    refine Q2b ?_
    rw[Q0H (bu _ (List.getElem_mem _)) (l':=G4 u (L3 (C.map .val) 0 (os.take q))) (fun s hs=>by rw[Fx];exact (ad s (bx s hs)).1)]
    refine Q1u ?_ bo
    intro v w' ⟨bp,hφ⟩
    have Y: ∀r∈c,r≠q:=fun r hr e=>O (e▸hr)
    refine step v (fun n=>if n=q then v else u n) (fun n=>if n=q then (Lx r0 w,Lx r0 w') else iv n) w' (hI.step (hM w w' bp) q) ?_ (by rw[V];simp[Ent.at]) (fun r hr=>by rw[V] at hr;cases hr;exact ⟨by simp,os[q],A,t⟩) (hT w w' hB bp) ?_
    ·intro p hp
     cases he:P0 os (C.map .val) p with
     | val x=>rfl
     | ref r=>
      have:=Y r (hA.refs p hp r he).1
      simp[Ent.at,this]
    ·intro r hr o i N
     rcases List.mem_cons.1 hr with rfl | hr
     ·rw[A] at i;cases i
      refine ⟨?_,fun j hj=>List.mem_cons_of_mem _ (cb j hj)⟩
      simp only[if_true]
      exact hφ _ (fun x hx=>by simp[Y x (cb x hx)]) (by simp)
     ·obtain ⟨f1,f2⟩:=hΦ r hr o i N
      have cl:=D r hr
      have bh:=Y r hr
      have hl:=hW.loc r o (by rw[U r cl];exact i) N (fun n=>if n=q then v else u n) u (fun x hx=>by
       rw[ax r (by omega),Nat.zero_add] at hx
       have:x≠q:=by
        rcases List.mem_cons.1 hx with rfl | hx
        ·exact bh
        ·exact Y x (f2 x hx)
       simp[this])
      have hs:=cq r o (by rw[U r cl];exact i) N
      rw[Nat.zero_add] at hs hl
      refine ⟨?_,fun j hj=>List.mem_cons_of_mem _ (f2 j hj)⟩
      simp only[if_neg bh]
      rw[hl]
      exact hs _ _ _ _ f1 bp
def X1U:Op→Bool
 | .move _ | .assign _ | .fieldAddr .. | .indexAddr .. | .field .. | .index .. | .binOp .. | .unOp .. | .extract .. | .pick .. | .makeFunc .. | .nilCheck _ | .slice .. =>true
 | _=>false
def ready (ops:List Oper) (a:List Nat) (j:Nat):Bool:=(I0 ops j).all (a.contains ·)
def X1D (ops:List Oper) (j:Nat):Bool:=match ops[j]? with | some o=>X1U o.op | none=>false
def Q6F (ops:List Oper):Nat→List Nat→List Nat→List Nat
 | 0,_,a=>a.reverse
 | n+1,b,a=>
  match b.find? (fun j=>X1D ops j&&ready ops a j) with
  | some j=>Q6F ops n (b.erase j) (j::a)
  | none=>match b.find? (ready ops a) with
   | some j=>Q6F ops n (b.erase j) (j::a)
   | none=>a.reverse
def L6 (ops:List Oper):List Nat:=Q6F ops ops.length (List.range ops.length) []
def R0 (ops:List Oper) (a:List Nat) (p q:Nat):Bool:=((Fm ops []).getD (a.getD q 0) 0).testBit (a.getD p 0)
def Y5 (ops:List Oper) (a:List Nat):List Oper:=a.map fun i=>ops.getD i default
def cutA (ops:List Oper) (a:List Nat):Nat→Nat
 | 0=>0
 | j+1=>if (List.range j).all (fun i=>R0 ops a i j||Vw (Y5 ops a) i) then cutA ops a j else j+1
def X2J (ops:List Oper) (a:List Nat) (c n:Nat):Bool:=(List.range n).all fun q=>(List.range q).all fun p=>decide (p<c)||R0 ops a p q
def Lm (ops:List Oper) (a:List Nat) (n:Nat):Nat:=if X2J ops a (cutA ops a n) n then cutA ops a n else n
theorem Q39 (ops:List Oper) (a:List Nat): ∀n,cutA ops a n≤n∧ ∀q,cutA ops a n≤q→q<n→ ∀p,p<q→R0 ops a p q=true∨Vw (Y5 ops a) p=true
 | 0=>⟨Nat.le_refl _,fun q _ h=>by omega⟩
 | j+1=>by
  obtain ⟨g,f⟩:=Q39 ops a j
  simp only[cutA]
  split
  ·rename_i h
   refine ⟨by omega,fun q d b p c=>?_⟩
   by_cases e:q=j
   ·subst e
    simpa using List.all_eq_true.1 h p (by simpa using c)
   ·exact f q d (by omega) p c
  ·exact ⟨Nat.le_refl _,fun q d b=>by omega⟩
theorem Q6S (ops:List Oper) (a:List Nat) (n:Nat):Lm ops a n≤n∧ ∀q,Lm ops a n≤q→q<n→ ∀p,p<q→R0 ops a p q=true∨(p<Lm ops a n∧Vw (Y5 ops a) p=true):=by
 obtain ⟨g,f⟩:=Q39 ops a n
 unfold Lm
 split
 ·rename_i i
  refine ⟨g,fun q e b p d=>?_⟩
  by_cases c:p<cutA ops a n
  ·exact (f q e b p d).imp id fun h=>⟨c,h⟩
  ·left
   have:=List.all_eq_true.1 (List.all_eq_true.1 i q (by simpa using b)) p (by simpa using d)
   simpa [c] using this
 ·exact ⟨Nat.le_refl _,fun q e b=>by omega⟩
def Q3M (ops:List Oper) (a:List Nat):Bool:=
 a.length==ops.length&&(List.range ops.length).all (a.contains ·)&&Ql a&&a.all (fun i=>decide (i<ops.length))&&
  (List.range ops.length).all fun q=>(List.range q).all fun p=> !R0 ops a q p
def Jw (ops:List Oper) (n:Nat):Bool:=
 Jc ops&&Q2K (Fm ops []) ops&&Ql (O6 (Y5 ops (L6 ops)))&&(O6 (Y5 ops (L6 ops))).all (fun d=>decide (d<n))&&
  (G8 .any ops (List.range ops.length)&&G8 .text ops (List.range ops.length)&&G8 .gc ops (Q9h .gc ops ops.length (List.range ops.length) []))&&Q3M ops (L6 ops)
theorem An: ∀{l:List Nat},Ql l=true→l.Nodup
 | [],_=>List.nodup_nil
 | x::l,h=>by
  simp only[Ql,Bool.and_eq_true,Bool.not_eq_true'] at h
  exact List.nodup_cons.2 ⟨by simpa using h.1,An h.2⟩
theorem Q56 {ops:List Oper}: ∀(b:List Oper) (a:List Nat),a.length+b.length=ops.length→(∀k,a.length≤k→ops[k]? =b[k-a.length]?)→
 (∀j k,j<a.length→k∈I0 ops j→(a.getD j 0).testBit k=true)→ ∀j k,j<ops.length→k∈I0 ops j→((Fm b a).getD j 0).testBit k=true
 | [],a,i,_,c=>fun j k p d=>c j k (by simp at i;omega) d
 | o::b,a,i,f,c=>by
  have t:ops[a.length]? =some o:=by rw[f _ (Nat.le_refl _)];simp
  refine Q56 b _ (by simp at i⊢;omega) ?_ ?_
  ·intro k d
   simp only[List.length_append,List.length_cons,List.length_nil] at d⊢
   rw[f k (by omega)]
   obtain ⟨m,q⟩: ∃m,k-a.length=m+1:=⟨k-a.length-1,by omega⟩
   rw[q,List.getElem?_cons_succ]
   congr 1;omega
  ·intro j k p d
   simp only[List.length_append,List.length_cons,List.length_nil] at p
   by_cases g:j<a.length
   ·simp only[List.getD_eq_getElem?_getD,List.getElem?_append_left g]
    simpa only[List.getD_eq_getElem?_getD] using c j k g d
   ·have n:j=a.length:=by omega
    subst n
    simp only[List.getD_eq_getElem?_getD,List.getElem?_append_right (Nat.le_refl _),Nat.sub_self,List.getElem?_cons_zero,Option.getD_some]
    unfold I0 at d
    rw[t] at d
    simp only[Option.map_some,Option.getD_some,List.mem_map] at d
    obtain ⟨e,r,rfl⟩:=d
    have key: ∀(l:List Edge) (s:Nat),(e∈l∨s.testBit e.on=true)→(l.foldl (fun s e=>s ||| 2 ^ e.on ||| (a[e.on]?).getD 0) s).testBit e.on=true:=by
     intro l
     induction l with
     | nil=>intro s h;simpa using h
     | cons x l u=>
      intro s h
      refine u _ ?_
      rcases h with h | h
      ·rcases List.mem_cons.1 h with rfl | h
       ·right;simp
       ·exact .inl h
      ·right;simp[h]
    exact key _ _ (.inl r)
theorem Ef {α β:Type} {f g:α→Option β}: ∀{l:List α},(∀x∈l,f x=g x)→l.filterMap f=l.filterMap g
 | [],_=>rfl
 | x::l,h=>by
  rw[List.filterMap_cons,List.filterMap_cons,h x (by simp),Ef fun y a=>h y (by simp[a])]
structure Arr (ops : List Oper) (ord : List Nat) (L : List Nat) : Prop where
  hpl : ∀ o ∈ Y5 ops ord, Qg o.op = true
  hclash : ∀ p q a b, p < q → (Y5 ops ord)[p]? = some a → (Y5 ops ord)[q]? = some b → (K7 a b || K7 b a) = true → R0 ops ord p q = true
  hg : ∀ q o j b, (Y5 ops ord)[q]? = some o → o.guard = some (j, b) → ∃ p, p < q ∧ (Y5 ops ord)[p]? = ops[j]? ∧ R0 ops ord p q = true
  hn : L.Nodup
  hlt : ∀ q ∈ L, q < (Y5 ops ord).length
  hC : ∀ pre q post, L = pre ++ q :: post → ∀ p, R0 ops ord p q = true → p < (Y5 ops ord).length → p ∈ pre
  hLl : L.length = (Y5 ops ord).length
theorem Bt {ops:Array Oper} {c:List Nat} (X:Jc ops.toList=true) (hc:Q2K (Fm ops.toList []) ops.toList=true) (bb:G8 .any ops.toList (List.range ops.toList.length)=true) (be:G8 .text ops.toList (List.range ops.toList.length)=true) (bc:G8 .gc ops.toList (Q9h .gc ops.toList ops.toList.length (List.range ops.toList.length) [])=true) (J:Q3M ops.toList c=true) (b:Bool) (t:Nat):
 (Region.schedule b ops t).filterMap (ops[·]?)=((Region.schedule b ops t).map (c.idxOf ·)).filterMap ((Y5 ops.toList c)[·]?)∧Arr ops.toList c ((Region.schedule b ops t).map (c.idxOf ·))∧(Y5 ops.toList c).length=ops.toList.length∧(Region.schedule b ops t).Nodup∧ ∀i∈Region.schedule b ops t,i<ops.toList.length∧c.getD (c.idxOf i) 0=i:=by
 simp only[Q3M,Bool.and_eq_true,beq_iff_eq] at J
 obtain ⟨⟨⟨⟨ab,U⟩,ay⟩,O⟩,H⟩:=J
 have Y:=An ay
 have Z:(Y5 ops.toList c).length=ops.toList.length:=by simp[Y5,ab]
 have g: ∀p,p<ops.toList.length→c.getD p 0<ops.toList.length:=by
  intro p W
  simp only[List.getD_eq_getElem?_getD]
  rw[List.getElem?_eq_getElem (by omega)]
  have:=List.all_eq_true.1 O c[p] (List.getElem_mem _)
  simpa using this
 have d: ∀p,p<ops.toList.length→(Y5 ops.toList c)[p]? =ops.toList[c.getD p 0]? :=by
  intro p W
  have n:=g p W
  simp only[List.getD_eq_getElem?_getD] at n
  rw[List.getElem?_eq_getElem (by omega:p<c.length)] at n
  simp only[Option.getD_some] at n
  simp only[Y5,List.getElem?_map,List.getD_eq_getElem?_getD]
  rw[List.getElem?_eq_getElem (by omega:p<c.length)]
  simp only[Option.map_some,Option.getD_some]
  rw[List.getElem?_eq_getElem n]
  simp
 obtain ⟨V,N,B⟩:=Q3F b ops t X (fun m=>by cases m<;>exact ⟨_,by assumption⟩)
 have f:=Q0W b ops t
 generalize Region.schedule b ops t=L0 at V N B f⊢
 have A: ∀i,i<ops.toList.length→i∈c:=fun i s=>by simpa using List.all_eq_true.1 U i (by simpa using s)
 have l: ∀i,i<ops.toList.length→c.idxOf i<ops.toList.length∧c.getD (c.idxOf i) 0=i:=by
  intro i s
  have n:=List.idxOf_lt_length_of_mem (A i s)
  refine ⟨by omega,?_⟩
  simp only[List.getD_eq_getElem?_getD]
  rw[List.getElem?_eq_getElem n]
  simp
 have r: ∀p,p<ops.toList.length→c.idxOf (c.getD p 0)=p:=by
  intro p W
  simp only[List.getD_eq_getElem?_getD]
  rw[List.getElem?_eq_getElem (by omega:p<c.length)]
  simp only[Option.getD_some]
  exact List.Nodup.idxOf_getElem Y p (by omega)
 have ai: ∀p q,p<q→q<ops.toList.length→R0 ops.toList c q p=false:=by
  intro p q R u
  have:=List.all_eq_true.1 (List.all_eq_true.1 H q (by simpa using u)) p (by simpa using R)
  simpa using this
 have an:L0.filterMap (ops[·]?)=(L0.map (c.idxOf ·)).filterMap ((Y5 ops.toList c)[·]?):=by
  rw[List.filterMap_map]
  refine Ef fun i s=>?_
  have:=f i s
  have n:=l i (by simpa using this)
  simp only[Function.comp]
  rw[d _ n.1,n.2]
  simp
 refine ⟨an,⟨?_,?_,?_,?_,?_,?_,by simp[N,ab,Y5]⟩,Z,V,fun i s=>⟨by simpa using f i s,(l i (by simpa using f i s)).2⟩⟩
 ·intro o ho
  simp only[Y5,List.mem_map] at ho
  obtain ⟨i,s,rfl⟩:=ho
  have v:i<ops.toList.length:=by simpa using List.all_eq_true.1 O i s
  simp only[Jc,List.all_eq_true,Bool.and_eq_true] at X
  have:=(X (ops.toList[i],i) (by rw[List.mem_zipIdx_iff_getElem?];simpa using v)).1.1
  rw[List.getD_eq_getElem?_getD,List.getElem?_eq_getElem v]
  exact this
 ·intro p q a b' R ha C E
  have W:p<ops.toList.length:=by have:=(List.getElem?_eq_some_iff.1 ha).1;omega
  have u:q<ops.toList.length:=by have:=(List.getElem?_eq_some_iff.1 C).1;omega
  rw[d p W] at ha
  rw[d q u] at C
  have ad: ∀i i' x x',i<i'→ops.toList[i]? =some x→ops.toList[i']? =some x'→(K7 x x'||K7 x' x)=true→((Fm ops.toList []).getD i' 0).testBit i=true:=by
   intro i i' x x' av hx aq E
   simp only[Q2K,List.all_eq_true] at hc
   have:=hc (x',i') (by rw[List.mem_zipIdx_iff_getElem?];simpa using aq) (x,i) (by rw[List.mem_zipIdx_iff_getElem?];simpa using hx)
   simp only[av,E,decide_true,Bool.not_true,Bool.false_or,Bool.or_self] at this
   exact this
  have aj:c.getD p 0≠c.getD q 0:=by
   intro e
   have:=r p W
   rw[e,r q u] at this
   omega
  rcases Nat.lt_or_gt_of_ne aj with h | h
  ·exact ad _ _ a b' h ha C E
  ·have n:=ad _ _ b' a h C ha (by rw[Bool.or_comm];exact E)
   have w:=ai p q R u
   unfold R0 at w
   rw[n] at w;cases w
 ·intro q o j b' u ar
  have D:q<ops.toList.length:=by have:=(List.getElem?_eq_some_iff.1 u).1;omega
  rw[d q D] at u
  have M:j∈I0 ops.toList (c.getD q 0):=by
   have ah:=X
   simp only[Jc,List.all_eq_true,Bool.and_eq_true] at ah
   have:=(ah (o,c.getD q 0) (by rw[List.mem_zipIdx_iff_getElem?];simpa using u)).2
   rw[ar] at this
   simp only[List.any_eq_true] at this
   obtain ⟨e,a0,az⟩:=this
   unfold I0
   rw[u]
   simp only[Option.map_some,Option.getD_some,List.mem_map]
   exact ⟨e,a0,by simpa using az⟩
  have ax:=Bj X _ (g q D) j M
  have hj:j<ops.toList.length:=by have:=g q D;omega
  have C:=Q56 (ops:=ops.toList) ops.toList [] (by simp) (by simp) (by intro j k hj;simp at hj) _ j (g q D) M
  obtain ⟨n,w⟩:=l j hj
  have L:R0 ops.toList c (c.idxOf j) q=true:=by unfold R0;rw[w];exact C
  refine ⟨c.idxOf j,?_,by rw[d _ n,w],L⟩
  rcases Nat.lt_trichotomy (c.idxOf j) q with h | h | h
  ·exact h
  ·rw[←h,w] at ax;omega
  ·have:=ai q _ h n
   rw[L] at this;cases this
 ·refine List.pairwise_map.2 (V.imp_of_mem ?_)
  intro x y hx hy ap a2
  have n:=(l x (by simpa using f x hx)).2
  have w:=(l y (by simpa using f y hy)).2
  exact ap (by rw[←n,←w,a2])
 ·intro q u
  simp only[List.mem_map] at u
  obtain ⟨i,s,rfl⟩:=u
  have:=(l i (by simpa using f i s)).1
  omega
 ·intro a9 q a7 hL p C W
  rw[List.map_eq_append_iff] at hL
  obtain ⟨ae,ao,ag,aa,z⟩:=hL
  rw[List.map_eq_cons_iff] at z
  obtain ⟨i,Q,hr,s,al⟩:=z
  subst hr s aa
  have v:i<ops.toList.length:=by simpa using f i (by rw[ag];simp)
  obtain ⟨n,w⟩:=l i v
  unfold R0 at C
  rw[w] at C
  have am:p<ops.toList.length:=by omega
  have:=Q4O X B i v (c.getD p 0) ae Q ag C
  rw[List.mem_map]
  exact ⟨c.getD p 0,this,r p am⟩
theorem Q3b {ops:Array Oper} {n:Nat} (a:Jw ops.toList n=true) (b:Bool) (t:Nat): ∃L,(Region.schedule b ops t).filterMap (ops[·]?)=L.filterMap ((Y5 ops.toList (L6 ops.toList))[·]?)∧Arr ops.toList (L6 ops.toList) L∧(Y5 ops.toList (L6 ops.toList)).length=ops.toList.length:=by
 simp only[Jw,Bool.and_eq_true] at a
 obtain ⟨⟨⟨⟨⟨h,i⟩,l⟩,m⟩,⟨e,d⟩,f⟩,c⟩:=a
 obtain ⟨j,g,k,_⟩:=Bt h i e d f c b t
 exact ⟨_,j,g,k⟩
theorem Q6t (P:Program) (r:Bool) (ops:Array Oper) (T:World→World→Prop) (B:World→Prop) (J7:List Value→World→Prop) (i:List Value) (c:Jw ops.toList i.length=true)
 (D: ∀w w',B w→T w w'→B w') (z: ∀w w',T w w'→Lx r w≤Lx r w')
 (h:chain P r ops.toList T B J7 ((Y5 ops.toList (L6 ops.toList)).drop (Lm ops.toList (L6 ops.toList) ops.toList.length)) 0
  ((Y5 ops.toList (L6 ops.toList)).take (Lm ops.toList (L6 ops.toList) ops.toList.length)) (i.map .val) [] [])
 (b:Bool) (t:Nat) (w:World) (J:B w):Y4 P ops.toList J7 ((Region.schedule b ops t).filterMap (ops[·]?)) i w:=by
 obtain ⟨L,l,f,s⟩:=Q3b c b t
 simp only[Jw,Bool.and_eq_true] at c
 obtain ⟨⟨⟨⟨⟨k,U⟩,O⟩,y⟩,⟨N,R⟩,Q⟩,o⟩:=c
 generalize L6 ops.toList=a at*
 obtain ⟨Φ,_,A⟩:=Tm P r ops.toList T B J7 _ _ 0 (i.map .val) [] [] (by intro e k j M;simp only[List.mem_map] at k;obtain ⟨v,_,rfl⟩:=k;cases M) (by simp) (by simp[Jk]) h
 rw[l]
 obtain ⟨n,g⟩:=Q6S ops.toList a ops.toList.length
 exact X2K (os:=Y5 ops.toList a) (m:=Lm ops.toList a ops.toList.length) (T:=T) (B:=B) (Φ:=Φ) (R0 ops.toList a) f.hpl O (fun d u=>by simpa using List.all_eq_true.1 y d u) f.hclash f.hg (by omega)
  (fun q E C p H=>g q E (by omega) p H) D z A L f.hn f.hLl f.hlt f.hC _ [] rfl (by simp) i (fun _=>undef) (fun _=>(0,0)) w .init
  ⟨rfl,by simp,fun _ _=>rfl,by simp⟩ J (by simp)
def Yj {α:Type} (P:Program) (s:Sem α):Prop:= ∀w v w',s.run P w= .ok v w'→w'=w
section
variable {P : Program} {α β : Type}
theorem Zx (a:α):Yj P (Pure.pure a:Sem α):=fun w v w' h=>by simp at h;exact h.2.symm
theorem Q5r (m:String):Yj P (stuck m:Sem α):=fun w v w' h=>by simp at h
theorem K8 {s:Sem α} {f:α→Sem β} (c:Yj P s) (d: ∀a,Yj P (f a)):Yj P (s>>=f):=fun w v w' h=>by
 rw[Sem.run_bind] at h
 cases b:s.run P w with
 | halt x w1=>rw[b] at h;simp[Result.andThen] at h
 | ok a w1=>
  rw[b] at h
  have:=c _ _ _ b
  subst this
  exact d a _ _ _ h
theorem Q21 (a:Addr) (m:Mode):Yj P (load a m):=fun w v w' h=>by
 unfold load at h
 simp only[Sem.run] at h
 split at h
 ·cases h;rfl
 ·split at h
  ·cases h;rfl
  ·cases h
theorem Cz (t:TypeId):Yj P (typeInfo t):=fun w v w' h=>by
 unfold typeInfo at h
 simp only[Sem.run_bind,run_program,Result.andThen_ok] at h
 split at h<;>simp at h
 exact h.2.symm
theorem Q12 (t:TypeId):Yj P (underlying t):=fun w v w' h=>by
 unfold underlying at h
 simp only[Sem.run_bind,run_program,Result.andThen_ok] at h
 split at h<;>simp at h
 exact h.2.symm
theorem Q5x (t:TypeId):Yj P (isAgg t):=by
 unfold isAgg
 refine K8 (Q12 t) fun d=>?_
 split<;>exact Zx _
theorem Q58 (t:TypeId):Yj P (sizeOf t):=K8 (Cz t) fun _=>Zx _
theorem Q0Y (a:Addr): ∀(n i:Nat) (b:Array Value),Yj P (loadCellsFrom a i n b)
 | 0,i,b=>Zx _
 | n+1,i,b=>K8 (Q21 _ _) fun v=>Q0Y a n (i+1) _
theorem Q3z (t:TypeId) (a:Addr):Yj P (loadVar t a):=by
 unfold loadVar
 refine K8 (Q5x t) fun b=>?_
 split
 ·exact K8 (Q58 t) fun n=>K8 (Q0Y a n 0 #[]) fun cs=>Zx _
 ·exact Q21 _ _
theorem Q3X (t:TypeId) (v:Value):Yj P (Instr.loadAt t v):=by
 unfold Instr.loadAt
 refine K8 ?_ fun a=>Q3z t a
 unfold Instr.sureAddr
 split
 ·exact Zx _
 ·exact Q5r _
def Ym (P:Program) (s:Sem α):Prop:= ∀w v w1,s.run P w= .ok v w1→w1=w∧ ∀w',s.run P w'= .ok v w'
theorem Zs (a:α):Ym P (Pure.pure a:Sem α):=fun w v w' h=>by simp at h⊢;exact ⟨h.2.symm,h.1⟩
theorem Wy (m:String):Ym P (stuck m:Sem α):=fun w v w' h=>by simp at h
theorem P3 {s:Sem α} {f:α→Sem β} (d:Ym P s) (i: ∀a,Ym P (f a)):Ym P (s>>=f):=fun w v w' h=>by
 rw[Sem.run_bind] at h
 cases b:s.run P w with
 | halt x w1=>rw[b] at h;simp[Result.andThen] at h
 | ok a w1=>
  rw[b] at h
  obtain ⟨rfl,g⟩:=d _ _ _ b
  obtain ⟨j,e⟩:=i a _ _ _ h
  refine ⟨j,fun c=>?_⟩
  rw[Sem.run_bind,g c]
  exact e c
theorem Im (t:TypeId):Ym P (typeInfo t):=fun w v w' h=>by
 unfold typeInfo at h⊢
 simp only[Sem.run_bind,run_program,Result.andThen_ok] at h⊢
 split at h<;>simp at h
 rename_i i a
 refine ⟨h.2.symm,fun w'=>?_⟩
 simp[a,h.1]
theorem Lq (t:TypeId):Ym P (underlying t):=fun w v w' h=>by
 unfold underlying at h⊢
 simp only[Sem.run_bind,run_program,Result.andThen_ok] at h⊢
 split at h<;>simp at h
 rename_i i a
 refine ⟨h.2.symm,fun w'=>?_⟩
 simp[a,h.1]
theorem Ev (v:Value) (i:Nat):Ym P (Instr.extract v i):=by
 unfold Instr.extract
 split
 ·split
  ·exact Zs _
  ·exact Wy _
 ·exact Wy _
theorem Q89 (v:Value):Ym P (Instr.sureAddr v):=by
 unfold Instr.sureAddr
 split
 ·exact Zs _
 ·exact Wy _
theorem Q2c {s:Sem α} (h: ∀w v w',s.run P w≠ .ok v w'):Ym P s:=fun w v w' e=>absurd e (h w v w')
theorem Q2C {s:Sem α} {f:α→Sem β} (c: ∀a w v w',(f a).run P w≠ .ok v w'): ∀w v w',(s>>=f).run P w≠ .ok v w':=fun w v w' h=>by
 rw[Sem.run_bind] at h
 cases b:s.run P w with
 | halt x w1=>rw[b] at h;simp[Result.andThen] at h
 | ok a w1=>rw[b] at h;exact c a _ _ _ h
theorem Q1X (e:Int×Int×Bool×BoundsCode): ∀w v w',(runtimePanic (.bounds e.1 e.2.1 e.2.2.1 e.2.2.2):Sem α).run P w≠ .ok v w':=by
 unfold runtimePanic
 exact Q2C fun p=>fun w v w' h=>by cases h
theorem Q0T (k:IntKind) (x y:Int) (c:BoundsCode):Ym P (boundsPanic k x y c:Sem α):=Q2c (by
 unfold boundsPanic
 dsimp only
 split
 ·exact Q2C fun b=>Q1X (_,_,_,_)
 ·exact Q2C fun b=>Q1X (_,_,_,_))
theorem Hl (t:TypeId) (x i:Value):Ym P (Instr.indexAt t x i):=by
 unfold Instr.indexAt
 refine P3 ?_ fun q=>?_
 ·unfold asIntOf
  split
  ·exact Zs _
  ·exact Q2c fun w v w' h=>by cases h
  ·exact Wy _
 refine P3 (Lq t) fun d=>?_
 dsimp only
 have key: ∀(z:Option Addr×Nat×TypeId),Ym P (match z with
  | (base,b,elem)=>do
   let __do_lift←underlying t
   have c:Bool:=decide (b≤1)&&match __do_lift with
    | TypeDesc.array b elem=>true
    | x=>false
   match base with
    | some a=>
     if 0≤q.snd∧q.snd< ↑b then do
      let __do_lift←sizeOf elem
      pure (Value.pointer (some (a.add (q.snd.toNat*__do_lift))))
     else
      if c=true then unsupported (Unsupported.noEntry "op/indexAddr.an index out of range at an array of length 0 or 1 (ledger 616)")
      else boundsPanic q.fst q.snd (↑b) BoundsCode.index
    | none=>boundsPanic q.fst q.snd 0 BoundsCode.index):=by
  rintro ⟨base,b,elem⟩
  dsimp only
  refine P3 (Lq t) fun g=>?_
  cases base with
  | none=>exact Q0T _ _ _ _
  | some a=>
   dsimp only
   by_cases f:0≤q.snd∧q.snd< ↑b
   ·rw[if_pos f]
    exact P3 (P3 (Im _) fun _=>Zs _) fun n=>Zs _
   ·rw[if_neg f]
    by_cases e:(decide (b≤1)&&match g with
     | TypeDesc.array b elem=>true
     | x=>false)=true
    ·rw[if_pos e]
     exact Q2c fun w v w' h=>by cases h
    ·rw[if_neg e]
     exact Q0T _ _ _ _
 split
 ·exact P3 (Q89 _) fun a=>P3 (Zs _) key
 ·exact P3 (Zs _) key
 ·exact P3 (Wy _) key
def Th (o:Oper):Bool:=match o.op with | .move _ | .assign _ | .load .. | .extract .. | .indexAddr .. =>true | _=>false
def Q2m (o:Oper):Bool:=match o.op with | .move _ | .assign _ | .extract .. | .indexAddr .. =>true | _=>false
theorem Dl {s:Sem Value} {w:World} {K:Value→World→Prop} (h:op P (sv s) w K): ∃v w',s.run P w= .ok v w'∧K v w':=by
 rw[Xc] at h
 unfold T7 sv at h
 rw[Sem.run_bind] at h
 cases a:s.run P w with
 | halt x w1=>rw[a] at h;exact h.elim
 | ok v w1=>rw[a] at h;exact ⟨v,w1,rfl,h⟩
theorem Dp {s:Sem Value} {v:Value} {w w':World} {K:Value→World→Prop} (h:s.run P w= .ok v w') (k:K v w'):op P (sv s) w K:=by
 rw[Xc]
 unfold T7 sv
 rw[Sem.run_bind,h]
 exact k
theorem Q8n {p:Program} {w w':World} {a k:Addr} {u:TypeId} {b:Bool} {r} (h: ∀(i:Nat) o,w.heap[i]? =some o→w'.heap[i]? =some o) (c:w.seen p a u k b= .ok r):w'.seen p a u k b= .ok r:=by
 cases e:w.heap[a.block]? with
 | some o=>
  have d:=h _ _ e
  unfold World.seen at*
  rw[d]
  rw[e] at c
  exact c
 | none=>
  exfalso
  unfold World.seen at c
  simp only[e,bind,Except.bind,throw,throwThe,MonadExceptOf.throw,pure,Except.pure] at c
  repeat (first | cases c | split at c)
theorem Q9m {p:Program} {w w':World} {a:Addr} {b:Bool} {r} (h: ∀(i:Nat) o,w.heap[i]? =some o→w'.heap[i]? =some o) (c:w.farLoad p a b= .ok r):w'.farLoad p a b= .ok r:=by
 unfold World.farLoad at*
 cases e:w.heap[a.block]? with
 | none=>rw[e] at c;cases c
 | some o=>
  rw[e] at c
  rw[h _ _ e]
  cases o with
  | view d u=>
   simp only at c⊢
   cases f:w.viewLoad p d u a b with
   | error s=>rw[f] at c;cases c
   | ok q=>
    rw[f] at c
    have:w'.viewLoad p d u a b= .ok q:=by
     unfold World.viewLoad at*
     cases g:w.seen p d u a b with
     | error s=>rw[g] at f;cases f
     | ok z=>rw[Q8n h g];rw[g] at f;exact f
    rw[this]
    exact c
  | _=>simp only at c;cases c
def Nn {α:Type} (P:Program) (s:Sem α):Prop:= ∀w v w1,s.run P w= .ok v w1→w1=w∧ ∀w':World,(∀(i:Nat) o,w.heap[i]? =some o→w'.heap[i]? =some o)→s.run P w'= .ok v w'
section
variable {P : Program} {α β : Type}
theorem Nu (a:α):Nn P (Pure.pure a:Sem α):=fun w v w' h=>by simp at h⊢;exact ⟨h.2.symm,fun _ _=>h.1⟩
theorem Q6J (m:String):Nn P (stuck m:Sem α):=fun w v w' h=>by simp at h
theorem Zp {s:Sem α} {f:α→Sem β} (e:Nn P s) (j: ∀a,Nn P (f a)):Nn P (s>>=f):=fun w v w' h=>by
 rw[Sem.run_bind] at h
 cases b:s.run P w with
 | halt x w1=>rw[b] at h;simp[Result.andThen] at h
 | ok a w1=>
  rw[b] at h
  obtain ⟨rfl,i⟩:=e _ _ _ b
  obtain ⟨k,g⟩:=j a _ _ _ h
  refine ⟨k,fun d c=>?_⟩
  rw[Sem.run_bind,i d c]
  exact g d c
theorem Q2T (a:Addr) (m:Mode):Nn P (load a m):=fun w v w1 h=>by
 unfold load at h⊢
 simp only[Sem.run] at h⊢
 cases e:w.cell? a with
 | some x=>
  rw[e] at h
  cases h
  refine ⟨rfl,fun w' d=>?_⟩
  have:w'.cell? a=some v:=by
   unfold World.cell? at*
   cases c:w.heap[a.block]? with
   | none=>rw[c] at e;cases e
   | some o=>rw[c] at e;rw[d _ _ c];exact e
  rw[this]
 | none=>
  rw[e] at h
  simp only at h
  cases b:w.farLoad P a (m== .atomic) with
  | error s=>rw[b] at h;cases h
  | ok q=>
   rw[b] at h
   cases h
   refine ⟨rfl,fun w' d=>?_⟩
   have f:=Q9m d b
   cases g:w'.cell? a with
   | none=>simp only[f]
   | some x=>
    exfalso
    unfold World.farLoad at b
    unfold World.cell? at g
    cases c:w.heap[a.block]? with
    | none=>rw[c] at b;cases b
    | some o=>
     rw[d _ _ c] at g
     rw[c] at b
     cases o<;>first | cases g | (simp only at b;cases b)
theorem Q2Y {s:Sem α} (h:Ym P s):Nn P s:=fun w v w1 e=>⟨(h w v w1 e).1,fun w' _=>(h w v w1 e).2 w'⟩
theorem Q7D (t:TypeId):Nn P (isAgg t):=by
 unfold isAgg
 refine Zp (Q2Y (Lq t)) fun d=>?_
 split<;>exact Nu _
theorem Q28 (a:Addr): ∀(n i:Nat) (b:Array Value),Nn P (loadCellsFrom a i n b)
 | 0,i,b=>Nu _
 | n+1,i,b=>Zp (Q2T _ _) fun v=>Q28 a n (i+1) _
theorem Q5O (t:TypeId) (v:Value):Nn P (Instr.loadAt t v):=by
 unfold Instr.loadAt
 refine Zp ?_ fun a=>?_
 ·unfold Instr.sureAddr
  split
  ·exact Nu _
  ·exact Q6J _
 ·unfold loadVar
  refine Zp (Q7D t) fun b=>?_
  split
  ·exact Zp (Zp (Q2Y (Im t)) fun _=>Nu _) fun n=>Zp (Q28 a n 0 #[]) fun cs=>Nu _
  ·exact Q2T _ _
def Eg (o:Oper):Bool:=match o.op with | .alloc .. =>true | _=>false
theorem Q8v {l:List Value} {o:Oper} {w:World} {K:Value→World→Prop} (h:Th o=true) (c:V0 P l o w K): ∃v,K v w∧ ∀(w':World) b,(∀(i:Nat) o,w.heap[i]? =some o→w'.heap[i]? =some o)→b v w'→V0 P l o w' b:=by
 obtain ⟨d,p,m,pos,n,g⟩:=o
 cases p<;>(first | (simp[Th] at h;done) | skip)<;>simp only[V0] at c⊢
 ·exact ⟨_,c,fun w' b _ a=>a⟩
 ·exact ⟨_,c,fun w' b _ a=>a⟩
 ·obtain ⟨v,w',f,e⟩:=Dl c
  obtain ⟨rfl,j⟩:=Q5O _ _ _ _ _ f
  exact ⟨v,e,fun w' b k a=>Dp (j w' k) a⟩
 ·obtain ⟨v,w',f,e⟩:=Dl c
  obtain ⟨rfl,j⟩:=Hl _ _ _ _ _ _ f
  exact ⟨v,e,fun w' b k a=>Dp (j w') a⟩
 ·obtain ⟨v,w',f,e⟩:=Dl c
  obtain ⟨rfl,j⟩:=Ev _ _ _ _ _ f
  exact ⟨v,e,fun w' b k a=>Dp (j w') a⟩
theorem Q2x {γ δ:Type} {s:Sem γ} {f:γ→Sem δ} {w w':World} {v:δ} (h:(s>>=f).run P w= .ok v w'): ∃a w1,s.run P w= .ok a w1∧(f a).run P w1= .ok v w':=by
 rw[Sem.run_bind] at h
 cases b:s.run P w with
 | halt x w1=>rw[b] at h;simp[Result.andThen] at h
 | ok a w1=>rw[b] at h;exact ⟨a,w1,rfl,h⟩
theorem Q9w {γ:Type} {r:Unsupported}:Yj P (unsupported r:Sem γ):=fun w v w' h=>by simp[unsupported] at h
theorem Q4s {l:List Value} {o:Oper} {w:World} {K:Value→World→Prop} (h:Eg o=true) (k:V0 P l o w K): ∃v w',(∀(i:Nat) o,w.heap[i]? =some o→w'.heap[i]? =some o)∧K v w'∧ ∀b:Value→World→Prop,b v w'→V0 P l o w b:=by
 obtain ⟨d,p,C,pos,E,g⟩:=o
 cases p<;>(first | (simp[Eg] at h;done) | skip)
 simp only[V0] at k⊢
 obtain ⟨v,w',n,u⟩:=Dl k
 refine ⟨v,w',?_,u,fun b t=>Dp n t⟩
 have a:=n
 unfold Instr.alloc zeroValue at a
 obtain ⟨z,w1,y,r⟩:=Q2x a
 have A:w1=w:=K8 (Cz _) (fun i=>by split;exact Zx _;exact Q9w) _ _ _ y
 subst A
 simp only at r
 obtain ⟨c,D,j,q⟩:=Q2x r
 simp only[Sem.run_pure,Result.ok.injEq] at q
 obtain ⟨_,rfl⟩:=q
 unfold newVar newRow at j
 obtain ⟨B,H,e,m⟩:=Q2x j
 simp only[Sem.run_pure,Result.ok.injEq] at m
 obtain ⟨_,rfl⟩:=m
 unfold newObj at e
 simp only[Sem.run,Result.ok.injEq] at e
 obtain ⟨_,rfl⟩:=e
 intro i o f
 have s:=(Array.getElem?_eq_some_iff.1 f).1
 simp only[Array.getElem?_push]
 rw[if_neg (by omega)]
 exact f
end
theorem Q4h {l:List Value} {o:Oper} {w:World} {K:Value→World→Prop} (h:Th o=true) (e:V0 P l o w K): ∃v,K v w∧ ∀c,c v w→V0 P l o w c:=by
 obtain ⟨d,p,i,pos,j,g⟩:=o
 cases p<;>(first | (simp[Th] at h;done) | skip)<;>simp only[V0] at e⊢
 ·exact ⟨_,e,fun c a=>a⟩
 ·exact ⟨_,e,fun c a=>a⟩
 ·obtain ⟨v,w',b,f⟩:=Dl e
  have:=Q3X _ _ _ _ _ b
  subst this
  exact ⟨v,f,fun c a=>Dp b a⟩
 ·obtain ⟨v,w',b,f⟩:=Dl e
  have:=(Hl _ _ _ _ _ _ b).1
  subst this
  exact ⟨v,f,fun c a=>Dp b a⟩
 ·obtain ⟨v,w',b,f⟩:=Dl e
  have:=(Ev _ _ _ _ _ b).1
  subst this
  exact ⟨v,f,fun c a=>Dp b a⟩
theorem Q1r {l:List Value} {o:Oper} {w:World} {K:Value→World→Prop} (h:Q2m o=true) (c:V0 P l o w K): ∃v,K v w∧ ∀w' b,b v w'→V0 P l o w' b:=by
 obtain ⟨d,p,j,pos,k,g⟩:=o
 cases p<;>(first | (simp[Q2m] at h;done) | skip)<;>simp only[V0] at c⊢
 ·exact ⟨_,c,fun w' b a=>a⟩
 ·exact ⟨_,c,fun w' b a=>a⟩
 ·obtain ⟨v,w',f,e⟩:=Dl c
  obtain ⟨rfl,i⟩:=Hl _ _ _ _ _ _ f
  exact ⟨v,e,fun w' b a=>Dp (i w') a⟩
 ·obtain ⟨v,w',f,e⟩:=Dl c
  obtain ⟨rfl,i⟩:=Ev _ _ _ _ _ f
  exact ⟨v,e,fun w' b a=>Dp (i w') a⟩
end
structure Swap (ops : List Oper) (a b : Oper) : Prop where
  pa : Qg a.op = true
  pb : Qg b.op = true
  ga : a.guard = none
  ab : ∀ d, a.dst = some d → d ∉ O5 ops b ++ E8 b
  ba : ∀ d, b.dst = some d → d ∉ O5 ops a ++ E8 a
  dd : ∀ d, a.dst = some d → b.dst ≠ some d
  gb : ∀ j c, b.guard = some (j, c) → ((ops[j]?).bind (·.dst)).isSome = true
  rd : (Th a = true ∧ (Th b = true ∨ Eg b = true) ∧ b.guard = none ∨ Eg a = true ∧ Q2m b = true ∧ b.guard = none) ∨ Q2m a = true
section
variable {P : Program} {ops : List Oper} {J7 : List Value → World → Prop}
theorem Q1o {l:List Value} {d:Option Nat} {v:Value} {s:Nat} (h: ∀e,d=some e→e≠s):get (put l d v) s=get l s:=by
 cases d with
 | none=>rfl
 | some e=>simp only[put,get,List.getD_eq_getElem?_getD,List.getElem?_set_ne (h e rfl)]
theorem Q8Y {l:List Value} {d e:Option Nat} {v u:Value} (h: ∀x,d=some x→e≠some x):put (put l d v) e u=put (put l e u) d v:=by
 cases d with
 | none=>rfl
 | some d=>cases e with
  | none=>rfl
  | some e=>simp only[put];exact List.set_comm _ _ (by intro a;subst a;exact h d rfl rfl)
theorem Q3e {o:Oper} {s:Nat} (a:Operand.tmp s∈o.op.operands):s∈E8 o:=by
 simp only[E8,List.mem_filterMap]
 exact ⟨.tmp s,by simpa using a,rfl⟩
theorem Q5m {a b:Oper} {R:List Oper} {l:List Value} {w:World} (Y:Swap ops a b) (h:Y4 P ops J7 (a::b::R) l w):Y4 P ops J7 (b::a::R) l w:=by
 obtain ⟨pa,Q,O,M,Z,dd,W,N⟩:=Y
 have r: ∀v,V0 P (put l a.dst v) b=V0 P l b:=fun v=>Np Q fun x J=>by
  cases x with
  | tmp s=>exact Q1o fun e o g=>M e o (List.mem_append_right _ (g▸Q3e J))
  | _=>rfl
 have n: ∀v,V0 P (put l b.dst v) a=V0 P l a:=fun v=>Np pa fun x J=>by
  cases x with
  | tmp s=>exact Q1o fun e o g=>Z e o (List.mem_append_right _ (g▸Q3e J))
  | _=>rfl
 have m: ∀v u,put (put l b.dst u) a.dst v=put (put l a.dst v) b.dst u:=fun v u=>(Q8Y dd).symm
 simp only[Y4,O] at h⊢
 cases k:b.guard with
 | none=>
  simp only[k] at h⊢
  rcases N with (⟨z,rb | rb,_⟩ | ⟨z,V,_⟩) | fa
  ·obtain ⟨B,f,i⟩:=Q4h z h
   rw[r] at f
   obtain ⟨A,t,p⟩:=Q4h rb f
   refine p _ ?_
   rw[n]
   exact i _ (by rw[m];exact t)
  ·obtain ⟨B,f,i⟩:=Q8v z h
   rw[r] at f
   obtain ⟨A,X,k,t,p⟩:=Q4s rb f
   refine p _ ?_
   rw[n]
   exact i X _ k (by rw[m];exact t)
  ·obtain ⟨B,wa,k,f,i⟩:=Q4s z h
   rw[r] at f
   obtain ⟨A,t,p⟩:=Q1r V f
   refine p w _ ?_
   rw[n]
   exact i _ (by rw[m];exact t)
  ·obtain ⟨B,f,i⟩:=Q1r fa h
   rw[r] at f
   refine B5 (fun A w' C=>?_) f
   rw[n]
   exact i w' _ (by rw[m];exact C)
 | some q=>
  obtain ⟨j,c⟩:=q
  rcases N with (⟨_,_,y⟩ | ⟨_,_,y⟩) | fa
  ·rw[k] at y;cases y
  ·rw[k] at y;cases y
  obtain ⟨d,L⟩:=Option.isSome_iff_exists.1 (W j c k)
  have D:d∈O5 ops b:=by simp[O5,k,L]
  have U: ∀v,get (put l a.dst v) d=get l d:=fun v=>Q1o fun e o g=>M e o (List.mem_append_left _ (g▸D))
  simp only[k,L] at h⊢
  obtain ⟨B,f,i⟩:=Q1r fa h
  rw[r,U] at f
  refine Tg ((Vd f).imp (fun ⟨H,E⟩=>⟨H,B5 (fun A w' C=>?_) E⟩) (fun ⟨H,E⟩=>⟨H,?_⟩))
  ·rw[n];exact i w' _ (by rw[m];exact C)
  ·rw[n];exact i w _ (by rw[m];exact E)
theorem Q0I {a:Oper} {R k:List Oper} {l:List Value} {w:World} (b: ∀l w,Y4 P ops J7 R l w→Y4 P ops J7 k l w) (h:Y4 P ops J7 (a::R) l w):Y4 P ops J7 (a::k) l w:=by
 simp only[Y4] at h⊢
 cases m:a.guard with
 | none=>simp only[m] at h⊢;exact B5 (fun v w e=>b _ _ e) h
 | some q=>
  obtain ⟨j,c⟩:=q
  simp only[m] at h⊢
  cases i:(ops[j]?).bind (·.dst) with
  | none=>simp only[i] at h⊢;exact b _ _ h
  | some d=>
   simp only[i] at h⊢
   exact Tg ((Vd h).imp (fun ⟨g,f⟩=>⟨g,B5 (fun n w' e=>b _ _ e) f⟩) (fun ⟨g,f⟩=>⟨g,b _ _ f⟩))
theorem Aq {q:Oper} {R:List Oper}: ∀(A:List Oper) {l:List Value} {w:World},(∀a∈A,Swap ops a q)→Y4 P ops J7 (A++q::R) l w→Y4 P ops J7 (q::(A++R)) l w
 | [],_,_,_,h=>h
 | a::A,l,w,c,h=>Q5m (c a (by simp)) (Q0I (R:=A++q::R) (fun _ _ h=>Aq A (fun b d=>c b (by simp[d])) h) h)
theorem Lt: ∀(A:List Oper) {B:List Oper} {l:List Value} {w:World},Y4 P ops J7 (A++B) l w=Y4 P ops (fun l w=>Y4 P ops J7 B l w) A l w
 | [],B,l,w=>rfl
 | a::A,B,l,w=>by
  simp only[List.cons_append,Y4]
  split
  ·congr 1;funext v w;exact Lt A
  ·split
   ·congr 1;funext v w;exact Lt A
   ·exact Lt A
theorem Q6K {A B b:List Oper} {l:List Value} {w:World} (c: ∀l w,Y4 P ops J7 B l w→Y4 P ops J7 b l w): ∀{l:List Value} {w:World},Y4 P ops J7 (A++B) l w→Y4 P ops J7 (A++b) l w:=by
 induction A with
 | nil=>exact fun h=>c _ _ h
 | cons a A d=>exact fun h=>Q0I (fun _ _ h=>d h) h
theorem Q6b (os:List Oper) (bit:Nat→Nat→Bool) (m: ∀p q a b,p<q→os[p]? =some a→os[q]? =some b→bit p q=false→Swap ops a b):
 ∀(n:Nat) (J7:List Value→World→Prop) (L:List Nat) (l:List Value) (w:World),L.Nodup→L.length=n→(∀q∈L,q<n)→n≤os.length→L.Pairwise (fun q p=>p<q→bit p q=false)→
  Y4 P ops J7 (os.take n) l w→Y4 P ops J7 (L.filterMap (os[·]?)) l w
 | 0,J7,L,l,w,u,v,g,y,D,h=>by
  have:L=[]:=List.eq_nil_of_length_eq_zero v
  subst this;exact h
 | n+1,J7,L,l,w,u,v,g,y,D,h=>by
  have N:n∈L:=Classical.byContradiction fun o=>by
   have Q:=R8 n L u fun k H=>by
    have j:=g k H
    have J:k≠n:=fun e=>o (e▸H)
    omega
   omega
  obtain ⟨A,B,rfl⟩:=List.append_of_mem N
  have f:n<os.length:=by omega
  have c:os[n]? =some os[n]:=List.getElem?_eq_getElem f
  have r:=List.nodup_append.1 u
  have z:n∉B:=(List.nodup_cons.1 r.2.1).1
  have E:n∉A:=fun e=>r.2.2 n e n (by simp) rfl
  have V:os.take (n+1)=os.take n++[os[n]]:=(List.take_append_getElem f).symm
  rw[V,Lt] at h
  have t: ∀q∈A++B,q<n:=fun q M=>by
   have Q:q<n+1:=g q (by rcases List.mem_append.1 M with h | h<;>simp[h])
   have j:q≠n:=fun e=>by
    subst e
    rcases List.mem_append.1 M with h | h
    ·exact E h
    ·exact z h
   omega
  have d:(A++B).Sublist (A++n::B):=List.Sublist.append (List.Sublist.refl A) (List.sublist_cons_self n B)
  have j:=Q6b os bit m n _ (A++B) l w (u.sublist d) (by simp at v⊢;omega) t (by omega) (D.sublist d) h
  rw[←Lt] at j
  rw[List.filterMap_append,List.append_assoc] at j
  rw[List.filterMap_append,List.filterMap_cons,c]
  refine Q6K (l:=l) (w:=w) (fun l w J=>?_) j
  have:=Aq (R:=[]) (B.filterMap (os[·]?)) (fun a U=>?_) J
  ·rwa [List.append_nil] at this
  ·obtain ⟨p,i,C⟩:=List.mem_filterMap.1 U
   have s:=t p (List.mem_append_right _ i)
   refine m p n a _ s C c ?_
   have O:=(List.pairwise_append.1 D).2.1
   exact (List.pairwise_cons.1 O).1 p i s
end
def Q2a (ops:List Oper) (a b:Oper):Bool:=
 (match a.guard with | none=>true | some _=>false)&&(match b.guard with | none=>true | some (j,_)=>match (ops[j]?).bind (·.dst) with | some _=>true | none=>false)&&
  (((Th a&&(Th b||Eg b)||Eg a&&Q2m b)&&(match b.guard with | none=>true | some _=>false))||Q2m a)
def Q7i (ops:List Oper) (a:List Nat):Bool:=
 ops.any Q4n&&ops.any Ab&&(List.range ops.length).all fun q=>(List.range q).all fun p=>R0 ops a p q||Q2a ops (ops.getD (a.getD p 0) default) (ops.getD (a.getD q 0) default)
theorem Nd {α:Type} {R:α→α→Prop}: ∀(a b:List α) {L:List α},L=b++a→(∀b q a,L=b++q::a→ ∀p∈a,R q p)→a.Pairwise R
 | [],_,_,_,_=>List.Pairwise.nil
 | q::a,b,L,c,h=>List.pairwise_cons.2 ⟨h b q a c,Nd a (b++[q]) (by rw[c];simp) h⟩
theorem Q2k {P:Program} {ops:Array Oper} {J7:List Value→World→Prop} {l0:List Value} {ord L:List Nat} {bit:Nat→Nat→Bool} (ha:Arr ops.toList ord L) (hosl:(Y5 ops.toList ord).length=ops.toList.length) (hn:Ql (O6 (Y5 ops.toList ord))=true) (hbit: ∀p q,R0 ops.toList ord p q=true→bit p q=true)
 (hsq: ∀p q,p<q→q<ops.toList.length→(bit p q||Q2a ops.toList (ops.toList.getD (ord.getD p 0) default) (ops.toList.getD (ord.getD q 0) default))=true) (hpair:L.Pairwise fun q p=>p<q→bit p q=false) (w:World)
 (h:Y4 P ops.toList J7 (Y5 ops.toList ord) l0 w):Y4 P ops.toList J7 (L.filterMap ((Y5 ops.toList ord)[·]?)) l0 w:=by
 refine Q6b (Y5 ops.toList ord) bit (fun p q a b' hpq hpa hqb hb=>?_) _ J7 L l0 w ha.hn rfl (fun q hq=>by rw[ha.hLl];exact ha.hlt q hq) (by rw[ha.hLl];exact Nat.le_refl _) hpair (by rw[ha.hLl,List.take_length];exact h)
 have hql:q<ops.toList.length:=by have:=(List.getElem?_eq_some_iff.1 hqb).1;omega
 have hpl:p<ops.toList.length:=by omega
 have hget: ∀i o,(Y5 ops.toList ord)[i]? =some o→ops.toList.getD (ord.getD i 0) default=o:=by
  intro i o hi
  unfold Y5 at hi
  rw[List.getElem?_map] at hi
  cases ho:ord[i]? with
  | none=>rw[ho] at hi;cases hi
  | some x=>
   rw[ho] at hi
   simp only[Option.map_some,Option.some.injEq] at hi
   rw[List.getD_eq_getElem?_getD (l:=ord),ho];exact hi
 have hnc:(K7 a b'||K7 b' a)=false:=by
  cases hx:K7 a b'||K7 b' a with
  | false=>rfl
  | true=>rw[hbit p q (ha.hclash p q a b' hpq hpa hqb hx)] at hb;cases hb
 rw[Bool.or_eq_false_iff] at hnc
 have hs:=hsq p q hpq hql
 rw[hb,Bool.false_or,hget p a hpa,hget q b' hqb] at hs
 simp only[Q2a,Bool.and_eq_true,Bool.or_eq_true] at hs
 obtain ⟨⟨g1,g2⟩,g3⟩:=hs
 have hga:a.guard=none:=by
  cases hx:a.guard with
  | none=>rfl
  | some _=>rw[hx] at g1;cases g1
 have c1: ∀d,a.dst=some d→d∉E8 b'∧b'.dst≠some d:=fun d hd=>by
  have:=hnc.1
  unfold K7 at this
  rw[hd] at this
  simp only[Bool.or_eq_false_iff] at this
  exact ⟨fun hm=>by simp[hm] at this,fun hm=>by simp[hm] at this⟩
 have c2: ∀d,b'.dst=some d→d∉E8 a:=fun d hd=>by
  have:=hnc.2
  unfold K7 at this
  rw[hd] at this
  simp only[Bool.or_eq_false_iff] at this
  exact fun hm=>by simp[hm] at this
 refine ⟨ha.hpl a (List.mem_of_getElem? hpa),ha.hpl b' (List.mem_of_getElem? hqb),hga,fun d hd'=>?_,fun d hd'=>?_,fun d hd'=>(c1 d hd').2,fun j c hbg=>?_,?_⟩
 ·rw[List.mem_append,not_or]
  refine ⟨fun hm=>?_,(c1 d hd').1⟩
  unfold O5 at hm
  cases hbg:b'.guard with
  | none=>rw[hbg] at hm;simp at hm
  | some q0=>
   obtain ⟨j,c⟩:=q0
   obtain ⟨p',hp',hpj,hbt⟩:=ha.hg q b' j c hqb hbg
   rw[hbg] at hm
   simp only at hm
   cases hjd:ops.toList[j]?.map (·.dst) with
   | none=>
    cases hj:ops.toList[j]? with
    | none=>rw[hj] at hm;simp at hm
    | some oj=>rw[hj] at hjd;cases hjd
   | some dj=>
    cases hj:ops.toList[j]? with
    | none=>rw[hj] at hjd;cases hjd
    | some oj=>
     rw[hj] at hm hpj
     simp only[Option.bind_some] at hm
     cases hdj:oj.dst with
     | none=>rw[hdj] at hm;simp at hm
     | some d2=>
      rw[hdj] at hm
      simp only[List.mem_singleton] at hm
      subst hm
      have:=Xl (Y5 ops.toList ord) hn p' p oj a d hpj hpa hdj hd'
      subst this
      rw[hbit _ _ hbt] at hb;cases hb
 ·rw[List.mem_append,not_or]
  exact ⟨fun hm=>by simp[O5,hga] at hm,c2 d hd'⟩
 ·rw[hbg] at g2
  simp only at g2
  cases hx:(ops.toList[j]?).bind (·.dst) with
  | none=>rw[hx] at g2;cases g2
  | some _=>rfl
 ·rcases g3 with ⟨g3,g5⟩ | g3
  ·have hn:b'.guard=none:=by
    cases hx:b'.guard with
    | none=>rfl
    | some _=>rw[hx] at g5;cases g5
   exact .inl (g3.imp (fun g=>⟨g.1,g.2,hn⟩) fun g=>⟨g.1,g.2,hn⟩)
  ·exact .inr g3
theorem X1T (P:Program) (ops:Array Oper) (J7:List Value→World→Prop) (n:List Value) (a:Jw ops.toList n.length=true) (d:Q7i ops.toList (L6 ops.toList)=true)
 (b:Bool) (t:Nat) (w:World) (h:Y4 P ops.toList J7 (Y5 ops.toList (L6 ops.toList)) n w):Y4 P ops.toList J7 ((Region.schedule b ops t).filterMap (ops[·]?)) n w:=by
 obtain ⟨L,k,i,f⟩:=Q3b a b t
 simp only[Jw,Bool.and_eq_true] at a
 obtain ⟨⟨⟨⟨⟨C,D⟩,y⟩,E⟩,⟨v,A⟩,z⟩,o⟩:=a
 generalize L6 ops.toList=g at*
 rw[k]
 refine Q2k i f y (bit:=R0 ops.toList g) (fun _ _ h=>h) (fun p q e l=>?_) ?_ w h
 ·simp only[Q7i,Bool.and_eq_true] at d
  exact List.all_eq_true.1 (List.all_eq_true.1 d.2 q (by simpa using l)) p (by simpa using e)
 ·refine Nd L [] (L:=L) rfl fun j q c m p s e=>?_
  cases B:R0 ops.toList g p q with
  | false=>rfl
  | true=>
   have u:=i.hC j q c m p B (i.hlt p (by rw[m];simp[s]))
   have r:=i.hn
   rw[m] at r
   exact absurd rfl ((List.nodup_append.1 r).2.2 p u p (by simp[s]))
def X2a (b:List Nat) (a c:Nat):List Nat:=((b.erase a).takeWhile (· !=c))++a::((b.erase a).dropWhile (· !=c))
def Q5g (ops:List Oper) (d b:List Nat) (a c:Nat):Bool:=
 Q3M ops b&&Ql (O6 (Y5 ops b))&&
  ((List.range ops.length).all fun q=>(List.range q).all fun p=>(R0 ops d p q||(d.getD p 0==c&&d.getD q 0==a))||Q2a ops (ops.getD (d.getD p 0) default) (ops.getD (d.getD q 0) default))&&
  ((List.range ops.length).all fun q=>(List.range q).all fun p=>(R0 ops b p q||(b.getD p 0==a&&b.getD q 0==c))||Q2a ops (ops.getD (b.getD p 0) default) (ops.getD (b.getD q 0) default))
def Q7y (ops:List Oper):Option (List Nat):=
 match ops.any Q4n&&ops.any Ab&&ops.any Eg with
 | true=>match ops.findIdx Eg !=ops.findIdx Ab&&Q5g ops (L6 ops) (X2a (L6 ops) (ops.findIdx Eg) (ops.findIdx Ab)) (ops.findIdx Eg) (ops.findIdx Ab) with
  | true=>some (X2a (L6 ops) (ops.findIdx Eg) (ops.findIdx Ab))
  | false=>none
 | false=>none
theorem X0p {ops:Array Oper} {a g:List Nat} {x y:Nat} (U:g.Nodup) (v: ∀i∈g,i<ops.toList.length∧a.getD (a.idxOf i) 0=i) (o:Arr ops.toList a (g.map (a.idxOf ·))) (u: ∀e s b,g≠e++y::(s++x::b)):
 (g.map (a.idxOf ·)).Pairwise fun q p=>p<q→(R0 ops.toList a p q||(a.getD p 0==x&&a.getD q 0==y))=false:=by
 refine Nd _ [] (L:=g.map (a.idxOf ·)) rfl fun e q b c p l H=>?_
 rw[Bool.or_eq_false_iff]
 constructor
 ·cases R:R0 ops.toList a p q with
  | false=>rfl
  | true=>
   have h:=o.hC e q b c p R (o.hlt p (by rw[c];simp[l]))
   have f:=o.hn
   rw[c] at f
   exact absurd rfl ((List.nodup_append.1 f).2.2 p h p (by simp[l]))
 ·rw[Bool.and_eq_false_iff]
  refine Classical.byContradiction fun d=>?_
  rw[not_or] at d
  obtain ⟨h,f⟩:=d
  have h:a.getD p 0=x:=by simpa using h
  have f:a.getD q 0=y:=by simpa using f
  rw[List.map_eq_append_iff] at c
  obtain ⟨j,t,B,_,w⟩:=c
  rw[List.map_eq_cons_iff] at w
  obtain ⟨i,m,N,O,n⟩:=w
  rw[←n,List.mem_map] at l
  obtain ⟨k,D,r⟩:=l
  obtain ⟨E,M,J⟩:=List.append_of_mem D
  subst N B J
  have z:=(v i (by simp)).2
  have A:=(v k (by simp)).2
  rw[O] at z
  rw[r] at A
  have C:i=y:=by rw[←z];exact f
  have Q:k=x:=by rw[←A];exact h
  subst C Q
  exact u j E M rfl
theorem X0C (P:Program) (ops:Array Oper) (J7:List Value→World→Prop) (D:List Value) (n:Jw ops.toList D.length=true) {d:List Nat} {a c:Nat} (aa:a≠c) (u:Q5g ops.toList (L6 ops.toList) d a c=true)
 (b:Bool) (t:Nat) (w:World) (Z:Y4 P ops.toList J7 (Y5 ops.toList (L6 ops.toList)) D w) (Y:Y4 P ops.toList J7 (Y5 ops.toList d) D w):Y4 P ops.toList J7 ((Region.schedule b ops t).filterMap (ops[·]?)) D w:=by
 simp only[Jw,Bool.and_eq_true] at n
 obtain ⟨⟨⟨⟨⟨U,V⟩,hn⟩,hd⟩,⟨z,B⟩,A⟩,r⟩:=n
 simp only[Q5g,Bool.and_eq_true] at u
 obtain ⟨⟨⟨l,H⟩,M⟩,O⟩:=u
 by_cases v: ∃g i f,Region.schedule b ops t=g++a::(i++c::f)
 ·obtain ⟨J,C,N,s,Q⟩:=Bt U V z B A l b t
  rw[J]
  refine Q2k C N H (bit:=fun p q=>R0 ops.toList d p q||(d.getD p 0==a&&d.getD q 0==c)) (fun p q h=>by rw[h];rfl) (fun p q k j=>?_) (X0p s Q C fun g i f e=>?_) w Y
  ·exact List.all_eq_true.1 (List.all_eq_true.1 O q (by simpa using j)) p (by simpa using k)
  ·obtain ⟨W,R,E,e'⟩:=v
   have o: ∀{L p m q:List Nat} {x y:Nat},L=p++x::(m++y::q)→L[p.length]? =some x∧L[p.length+1+m.length]? =some y∧p.length+1+m.length<L.length:=by
    rintro L p m q x y rfl
    refine ⟨by simp,?_,by simp;omega⟩
    rw[List.getElem?_append_right (by omega),show p.length+1+m.length-p.length=m.length+1 by omega,List.getElem?_cons_succ]
    simp
   obtain ⟨g1,g2,g3⟩:=o e
   obtain ⟨X,g5,g6⟩:=o e'
   have k1:=(List.getElem?_inj (by omega) s).1 (g1.trans g5.symm)
   have k2:=(List.getElem?_inj (by omega) s).1 (g2.trans X.symm)
   omega
 ·obtain ⟨J,C,N,s,Q⟩:=Bt U V z B A r b t
  rw[J]
  refine Q2k C N hn (bit:=fun p q=>R0 ops.toList (L6 ops.toList) p q||((L6 ops.toList).getD p 0==c&&(L6 ops.toList).getD q 0==a)) (fun p q h=>by rw[h];rfl) (fun p q k j=>?_) (X0p s Q C fun g i f e=>v ⟨g,i,f,e⟩) w Z
  exact List.all_eq_true.1 (List.all_eq_true.1 M q (by simpa using j)) p (by simpa using k)
theorem X1Z (P:Program) (ops:Array Oper) (J7:List Value→World→Prop) (d:List Value) (e:Jw ops.toList d.length=true) {a:List Nat} (c:Q7y ops.toList=some a)
 (b:Bool) (t:Nat) (w:World) (h:Y4 P ops.toList J7 (Y5 ops.toList (L6 ops.toList)) d w∧Y4 P ops.toList J7 (Y5 ops.toList a) d w):Y4 P ops.toList J7 ((Region.schedule b ops t).filterMap (ops[·]?)) d w:=by
 unfold Q7y at c
 split at c
 ·split at c
  ·rename_i f
   cases c
   rw[Bool.and_eq_true] at f
   exact X0C P ops J7 d e (by simpa using f.1) f.2 b t w h.1 h.2
  ·cases c
 ·cases c
theorem X04: ∃f:World→(World→Prop)→Prop,f=fun w A=>A w.drew:=⟨_,rfl⟩
noncomputable def sq:World→(World→Prop)→Prop:=Classical.choose X04
theorem X02:sq=fun w A=>A w.drew:=Classical.choose_spec X04
def Q3S:List Ent→Nat→Ent→(List Ent→Prop)→Prop
 | [],_,_,k=>k []
 | _::l,0,e,k=>k (e::l)
 | x::l,n+1,e,k=>Q3S l n e (fun l'=>k (x::l'))
def Q1H (S:List Ent) (d:Option Nat) (e:Ent) (k:List Ent→Prop):Prop:=
 match d with
 | some d=>Q3S S d e k
 | none=>k S
def Q73:List Ent→Nat→(Ent→Prop)→Prop
 | [],_,k=>k (.val undef)
 | x::_,0,k=>k x
 | _::l,n+1,k=>Q73 l n k
def Q7Y (S:List Ent) (x:Operand) (k:Ent→Prop):Prop:=
 match x with
 | .tmp t=>Q73 S t k
 | .const v=>k (.val v)
 | .global g=>k (.val (.pointer (some ⟨g,0,none⟩)))
 | .func f=>k (.val (.func (.func f) #[] #[]))
def Q0d (u:Nat→Value):List Ent→(List Value→Prop)→Prop
 | [],k=>k []
 | .val v::S,k=>Q0d u S (fun l=>k (v::l))
 | .ref j::S,k=>Q0d u S (fun l=>k (u j::l))
def Q4o:List Value→(List Ent→Prop)→Prop
 | [],k=>k []
 | v::l,k=>Q4o l (fun S=>k (.val v::S))
theorem Q4A: ∀(S:List Ent) (n:Nat) (e:Ent) (k:List Ent→Prop),Q3S S n e k=k (Q13 S n e)
 | [],_,_,_=>rfl
 | _::_,0,_,_=>rfl
 | _::l,n+1,e,k=>by simp only[Q3S,Q13,Q4A l n e]
theorem Q16 (S:List Ent) (d:Option Nat) (e:Ent) (k:List Ent→Prop):Q1H S d e k=k (putE S d e):=by
 cases d with
 | none=>rfl
 | some d=>exact Q4A S d e k
theorem Q5e: ∀(S:List Ent) (n:Nat) (k:Ent→Prop),Q73 S n k=k (getE S n)
 | [],_,_=>rfl
 | _::_,0,_=>rfl
 | _::l,n+1,k=>Q5e l n k
theorem Q84 (S:List Ent) (x:Operand) (k:Ent→Prop):Q7Y S x k=k (entOf S x):=by
 cases x with
 | tmp t=>exact Q5e S t k
 | _=>rfl
theorem Q1q (u:Nat→Value): ∀(S:List Ent) (k:List Value→Prop),Q0d u S k=k (G4 u S)
 | [],_=>rfl
 | .val v::S,k=>by simp only[Q0d,Q1q u S];rfl
 | .ref j::S,k=>by simp only[Q0d,Q1q u S];rfl
theorem Q2t: ∀(l:List Value) (k:List Ent→Prop),Q4o l k=k (l.map .val)
 | [],_=>rfl
 | v::l,k=>by simp only[Q4o,Q2t l];rfl
noncomputable def Wm (P:Program) (r:Bool) (ops:List Oper) (T:World→World→Prop) (B:World→Prop) (J7:List Value→World→Prop) (tail:List Oper):Nat→List Oper→List Ent→He→List Nat→Prop
 | _,[],S,b,done=>Ei done (fun _=>undef) fun u=>Sn r fun c=> ∀w,B w→Q0m b u c w (Q0d u S fun l=>F6 P ops J7 tail l w) done
 | i,o::a,S,b,done=>
  match mv o with
  | some x=>Q7Y S x fun e=>Q1H S o.dst e fun S=>Wm P r ops T B J7 tail (i+1) a S b done
  | none=>match Q4n o with
   | true=>Q1a T (fun φ=>Ei (refs ops S o) (fun _=>undef) fun u=>Sn r fun c=> ∀w,B w→Ep b u c w (runOp P ops (G4 u S) o w (dk T (φ ((refs ops S o).map u)) w)) (refs ops S o))
    (fun φ=>Q1H S o.dst (.ref i) fun d=>Wm P r ops T B J7 tail (i+1) a d (b++[(i,refs ops S o,fun xs (_:Iv)=>φ xs)]) (done++[i]))
   | false=>match Q6R r o with
    | true=>Q2B T (fun φ=>Ei (refs ops S o) (fun _=>undef) fun u=>Sn r fun c=> ∀w,B w→Ep b u c w (runOp P ops (G4 u S) o w (dkR T φ w)) (refs ops S o))
     (fun φ=>Q1H S o.dst (.ref i) fun d=>Wm P r ops T B J7 tail (i+1) a d (b++[(i,[],fun (_:List Value)=>φ)]) (done++[i]))
    | false=>Q7 T (fun φ=>Ei (refs ops S o) (fun _=>undef) fun u=>Sn r fun c=> ∀w,B w→Ep b u c w (runOp P ops (G4 u S) o w (dk T φ w)) (refs ops S o))
     (fun φ=>Q1H S o.dst (.ref i) fun d=>Wm P r ops T B J7 tail (i+1) a d (b++[(i,[],fun (_:List Value) (_:Iv)=>φ)]) (done++[i]))
theorem Oj (P:Program) (r:Bool) (ops:List Oper) (T:World→World→Prop) (B:World→Prop) (J7:List Value→World→Prop) (tail:List Oper): ∀(a:List Oper) (i:Nat) (S:List Ent) (b:He) (done:List Nat),
 Wm P r ops T B J7 tail i a S b done=chain P r ops T B J7 tail i a S b done
 | [],i,S,b,done=>by simp only[Wm,chain,Q1q]
 | o::a,i,S,b,done=>by
  simp only[Wm,chain]
  split
  ·rw[Q84,Q16,Oj]
  ·split
   ·congr 1
    funext φ
    rw[Q16,Oj]
   ·split<;>
    ·congr 1
     funext φ
     rw[Q16,Oj]
def X2r (ops:List Oper):Bool:=ops.any fun o=>(match o.op with | .build .. =>true | _=>false)&&decide (2≤((E8 o).filter fun s=>ops.any fun c=>Ab c&&c.dst==some s).length)
noncomputable def Q80 (P:Program) (ops:List Oper) (J7:List Value→World→Prop) (l:List Value) (w:World):Prop:=
 drR w fun T B=>Q4o l fun S=>Wm P true ops T B J7 ((Y5 ops (L6 ops)).drop (Lm ops (L6 ops) ops.length)) 0 ((Y5 ops (L6 ops)).take (Lm ops (L6 ops) ops.length)) S [] []
noncomputable def X0f (P:Program) (ops:List Oper) (J7:List Value→World→Prop) (l:List Value) (w:World):Prop:=
 dr w fun T B=>Q4o l fun S=>Wm P false ops T B J7 ((Y5 ops (L6 ops)).drop (Lm ops (L6 ops) ops.length)) 0 ((Y5 ops (L6 ops)).take (Lm ops (L6 ops) ops.length)) S [] []
def Q0b (a b:List Nat):Bool:=a.all (b.contains ·)&&b.all (a.contains ·)
theorem Ex {a b:List Nat} (h:Q0b a b=true) (i:Nat):a.contains i=b.contains i:=by
 simp only[Q0b,Bool.and_eq_true,List.all_eq_true] at h
 rw[Bool.eq_iff_iff]
 constructor
 ·intro c;exact h.1 i (by simpa using c)
 ·intro c;exact h.2 i (by simpa using c)
abbrev V4:=List (Option (List Nat×List Nat))
def V4.slots (a:V4):List (Option (List Nat)):=a.map (·.map (·.1))
theorem V4.slots_get (a:V4) (k:Nat):a.slots.getD k none=(a.getD k none).map (·.1):=by
 simp only[V4.slots,List.getD_eq_getElem?_getD,List.getElem?_map]
 cases a[k]? <;>rfl
noncomputable def Um (P:Program) (b:V4) (a:List (Option (List Nat))):Nat→Code→Oo→List Value→World→Prop
 | _, .skip,Q,l,w=>Q .normal l w
 | _, .label _,Q,l,w=>Q .normal l w
 | _, .exit id,Q,l,w=>Q (.exit id) l w
 | _, .ret,Q,l,w=>Q .ret l w
 | _, .region _ ops false,Q,l,w=>F6 P ops.toList (fun l w=>Q .normal l w) ops.toList l w
 | _, .region _ ops true,Q,l,w=>match Jw ops.toList l.length with
  | true=>match Q7i ops.toList (L6 ops.toList) with
   | true=>sq w fun w=>F6 P ops.toList (fun l w=>Q .normal l w) (Y5 ops.toList (L6 ops.toList)) l w
   | false=>match Q7y ops.toList with
    | some g=>sq w fun w=>F6 P ops.toList (fun l w=>Q .normal l w) (Y5 ops.toList (L6 ops.toList)) l w∧F6 P ops.toList (fun l w=>Q .normal l w) (Y5 ops.toList g) l w
    | none=>match X2r ops.toList with
     | true=>Q80 P ops.toList (fun l w=>Q .normal l w) l w
     | false=>X0f P ops.toList (fun l w=>Q .normal l w) l w
  | false=>False
 | k, .seq x y,Q,l,w=>match b.getD k none with
  | none=>Um P b a (k+1) x (thn (fun l w=>Um P b a (k+1+K5 x) y Q l w) Q) l w
  | some (f,h)=>match Q0b h (L1 a (k+1) x) with
   | true=>jn w (fun J w=>Um P b a (k+1) x (thn (fun l' w'=>J (Lw l' f) w') Q) l w)
    (fun z d w=>Co f h z d 0 l fun l=>Um P b a (k+1+K5 x) y Q l w)
   | false=>False
 | k, .cond c x y,Q,l,w=>X1 (ev l c) (Um P b a k x Q l w) (Um P b a (k+K5 x) y Q l w)
 | k, .block id c,Q,l,w=>Um P b a k c (Q25 id Q) l w
 | k, .loop c,Q,l,w=>match b.getD k none with
  | none=>False
  | some (f,h)=>match Q0b h (L1 a (k+1) c) with
   | true=>lp (Lw l f) w (fun e x d w=>Co f h x d 0 l fun l=>Um P b a (k+1) c (thn (fun l' w'=>e (Lw l' f) w') Q) l w)
   | false=>False
 | _,_,_,_,_=>False
theorem Tq {next a:List Value→World→Prop} {Q b:Oo} (c: ∀l w,next l w→a l w) (d: ∀e l w,Q e l w→b e l w): ∀e l w,thn next Q e l w→thn a b e l w:=by
 intro e l w h;cases e<;>first | exact c _ _ h | exact d _ _ _ h
theorem Q9Z (P:Program) (r:V4) (c:Code): ∀(k:Nat) (Q j:Oo) (l:List Value) (w:World),(∀e l w,Q e l w→j e l w)→
 Um P r r.slots k c Q l w→Mk P r.slots k c j l w:=by
 induction c with
 | skip=>intro k Q j l w g h;exact g _ _ _ h
 | label n=>intro k Q j l w g h;exact g _ _ _ h
 | exit id=>intro k Q j l w g h;exact g _ _ _ h
 | ret=>intro k Q j l w g h;exact g _ _ _ h
 | goto n=>intro k Q j l w g h;exact h.elim
 | refuse s=>intro k Q j l w g h;exact h.elim
 | scope c=>intro k Q j l w g h;exact h.elim
 | rangeFunc f p a b=>intro k Q j l w g h;exact h.elim
 | region id ops A=>
  intro k Q j l w g h
  cases A with
  | true=>
   simp only[Um] at h
   split at h
   ·rename_i m
    intro t
    have v:Y4 P ops.toList (fun l w=>Q .normal l w) ((Region.schedule (P.follows .mixedOrders) ops t).filterMap (ops[·]?)) l w.drew:=by
     split at h
     ·rename_i M
      simp only[X02,Di] at h
      exact X1T P ops _ l m M _ t _ h
     ·split at h
      ·rename_i Y L
       simp only[X02,Di] at h
       exact X1Z P ops _ l m L _ t _ h
      ·split at h
       ·simp only[Q80,Q8H,Q4t,Q2t,Oj] at h
        obtain ⟨T,B,R,O,hM,h⟩:=h
        exact Q6t P true ops T B _ l m O hM h (P.follows .mixedOrders) t w.drew R
       ·simp only[X0f,X0y,Q71,Q2t,Oj] at h
        obtain ⟨T,B,R,O,h⟩:=h
        exact Q6t P false ops T B _ l m O (fun _ _ _=>Nat.le_refl _) h (P.follows .mixedOrders) t w.drew R
    refine Zr P _ _ _ (O6 ops.toList) l _ _ _ ?_ (K0.refl _ _) (fun l w X _=>g _ _ _ X) v
    intro o D d v
    simp only[List.mem_filterMap] at D
    obtain ⟨i,_,hi⟩:=D
    simp only[O6,List.contains_eq_mem,List.mem_filterMap,decide_eq_true_eq]
    exact ⟨o,by simpa using Array.mem_of_getElem? hi,v⟩
   ·exact h.elim
  | false=>
   simp only[Um] at h
   rw[Di] at h
   refine Zr P _ _ _ (O6 ops.toList) l _ _ _ ?_ (K0.refl _ _) (fun l w X _=>g _ _ _ X) h
   intro o D d v
   simp only[O6,List.contains_eq_mem,List.mem_filterMap,decide_eq_true_eq]
   exact ⟨o,D,v⟩
 | seq x y u q=>
  intro k Q j l w g h
  simp only[Um,Mk] at h⊢
  rw[V4.slots_get]
  split at h
  ·rename_i C
   simp only[C,Option.map_none]
   exact u _ _ _ _ _ (Tq (fun l w h=>q _ _ _ _ _ g h) g) h
  ·rename_i Z wr C
   simp only[C,Option.map_some]
   split at h
   ·rename_i W
    obtain ⟨J,h1,L⟩:=Q4Y h
    refine Zz J (u _ _ _ _ _ (Tq (fun l w h=>h) g) h1) fun z d w hz=>?_
    have h3:=L z d w hz
    rw[Q33,Re _ _ _ (Ex W)] at h3
    exact q _ _ _ _ _ g h3
   ·exact h.elim
 | cond c x y u q=>
  intro k Q j l w g h
  exact Q2W (u k _ _ _ _ g) (q _ _ _ _ _ g) h
 | block id c N=>
  intro k Q j l w g h
  refine N k _ _ _ _ ?_ h
  intro e l' w' E
  cases e with
  | exit ad=>simp only[Q25] at E⊢;split<;>rename_i V<;>simp only[V,if_true,if_false] at E<;>exact g _ _ _ E
  | _=>exact g _ _ _ E
 | loop c N=>
  intro k Q j l w g h
  simp only[Um,Mk] at h⊢
  split at h
  ·exact h.elim
  ·rename_i Z wr C
   have H:(r.slots.getD k none).getD []=Z:=by rw[V4.slots_get,C];rfl
   split at h
   ·rename_i W
    subst H
    refine Q3r (fun U x d w hb=>?_) h
    rw[Q33,Re _ _ _ (Ex W)] at hb
    exact N _ _ _ _ _ (Tq (fun l w h=>h) g) hb
   ·exact h.elim
def Q20 (P:Program) (t:TypeId) (a:Value) (w:World) (K:Value→Prop):Prop:= ∃v,(do loadVar t (←asAddr a):Sem Value).run P w= .ok v w∧K v
theorem Q1B: ∃f:Program→TypeId→Value→World→(Value→Prop)→Prop,f=Q20:=⟨_,rfl⟩
noncomputable def J8:Program→TypeId→Value→World→(Value→Prop)→Prop:=Classical.choose Q1B
theorem Q1S:J8=Q20:=Classical.choose_spec Q1B
noncomputable def Q4d (P:Program) (l:List Value) (K:List Value→World→Prop):List ResultVar→List Value→World→Prop
 | [],b,w=>K b.reverse w
 | .tmp t::c,b,w=>Q4d P l K c (get l t::b) w
 | .cell a t::c,b,w=>J8 P t (get l a) w fun v=>Q4d P l K c (v::b) w
def Q1N:List Value→Value
 | [v]=>v
 | vs=> .tuple vs.toArray
noncomputable def results (P:Program) (a:List ResultVar) (K:Value→World→Prop) (l:List Value) (w:World):Prop:=
 Q4d P l (fun vs w=>K (Q1N vs) w) a [] w
noncomputable def Q7l (P:Program) (fn:Func) (K:Value→World→Prop):Oo
 | .normal,l,w | .ret,l,w=>results P fn.results.toList K l w
 | _,_,_=>False
def Q95 (K:Value→World→Prop) (e:Ending) (w:World):Prop:=match e with | .returned v=>K v w | _=>False
theorem Q42 (a:Array Value) (t:Nat):a.getD t undef=get a.toList t:=by
 simp[get,List.getD_eq_getElem?_getD]
theorem Q8o (vs:List Value):(if h:vs.toArray.size=1 then vs.toArray[0] else Value.tuple vs.toArray)=Q1N vs:=by
 match vs with
 | []=>rfl
 | [v]=>rfl
 | _::_::_=>rfl
theorem Q1c (P:Program) (l:List Value) (K:List Value→World→Prop) (f:ResultVar→Sem Value)
 (d: ∀t,f (.tmp t)=Pure.pure (get l t)) (c: ∀a t,f (.cell a t)=(do loadVar t (←asAddr (get l a)))): ∀(e:List ResultVar) (b:List Value) (w:World),Q4d P l K e b w→
 ∃vs,(e.mapM f).run P w= .ok vs w∧K (b.reverse++vs) w
 | [],b,w,h=>⟨[],by simp,by rw[List.append_nil];exact h⟩
 | .tmp t::e,b,w,h=>by
  obtain ⟨vs,i,g⟩:=Q1c P l K f d c e _ w h
  refine ⟨get l t::vs,?_,by simpa using g⟩
  rw[List.mapM_cons,d]
  simp[i]
 | .cell a t::e,b,w,h=>by
  simp only[Q4d,Q1S] at h
  obtain ⟨v,j,h⟩:=h
  obtain ⟨vs,i,g⟩:=Q1c P l K f d c e _ w h
  refine ⟨v::vs,?_,by simpa using g⟩
  rw[List.mapM_cons,c,Sem.run_bind,j]
  simp[i]
def X2c (a:Array Value):ResultVar→Sem Value
 | .tmp t=>Pure.pure (a.getD t undef)
 | .cell b t=>do loadVar t (←asAddr (a.getD b undef))
theorem Q5i (fn:Func) (a:Array Value):Go.results fn a=(do
 let vs←fn.results.mapM (X2c a)
 Pure.pure (if h:vs.size=1 then vs[0] else .tuple vs)):=by
 unfold Go.results
 congr 1
theorem Q0P (P:Program) (fn:Func) (K:Value→World→Prop) (a:Array Value) (w:World) (h:results P fn.results.toList K a.toList w):
 ∃v,(Go.results fn a).run P w= .ok v w∧K v w:=by
 rw[Q5i,Array.mapM_eq_mapM_toList]
 obtain ⟨vs,c,b⟩:=Q1c P a.toList (fun vs w=>K (Q1N vs) w) (X2c a) (fun t=>by rw[←Q42];rfl) (fun d t=>by rw[←Q42];rfl) fn.results.toList [] w h
 refine ⟨Q1N vs,?_,by simpa using b⟩
 rw[Sem.run_bind,Sem.run_map,c]
 simp only[Result.andThen_ok,Sem.run_pure,Q8o]
def Ti (fn:Func) (a:List Value):List Value:=a++List.replicate (fn.ntmps-a.length) undef
theorem Q4j {P:Program} {f:FuncId} {fn:Func} {c:Code} {b:List Value} {w:World} {K:Value→World→Prop} (d:List (Option (List Nat)))
 (j:P.funcs[f]? =some fn) (k:fn.body=some c) (h:Mk P d 0 c (Q7l P fn K) (Ti fn b) w):Calls P f b.toArray w (Q95 K):=by
 refine calls_of_wp j k (wp_mono (Q7N P d c 0 (Q7l P fn K) _ w rfl ?_) ?_)
 ·have:(b.toArray++Array.replicate (fn.ntmps-b.toArray.size) undef).toList=Ti fn b:=by simp[Ti]
  simp only[this];exact h
 ·intro e a w ⟨i,g⟩
  cases e with
  | normal=>exact ⟨i,Q0P P fn K _ _ g⟩
  | ret=>exact ⟨i,Q0P P fn K _ _ g⟩
  | _=>exact g.elim
theorem Us {P:Program} {f:FuncId} {fn:Func} {a:List Value} {w:World} {K:Value→World→Prop}
 (i:P.funcs[f]? =some fn) (d:fn.body.isSome=true) (g:(fn.name== "runtime.NumGoroutine")=false) (h:Calls P f a.toArray w (Q95 K)):Q0 P f a w K:=by
 have k:(callFunc f a.toArray).run P w= .ok (.enter f a.toArray) w:=by
  unfold callFunc
  simp only[Sem.run_bind,run_program,Result.andThen_ok,i,g,Bool.false_eq_true,if_false]
  cases b:fn.body with
  | none=>rw[b] at d;cases d
  | some c=>simp
 unfold Q0
 rw[Xc]
 unfold T7
 rw[k]
 refine h.mono fun e w' j=>?_
 cases e<;>exact j
theorem Q2I {P:Program} {f:FuncId} {fn:Func} {a:List Value} {w:World} {K:Value→World→Prop}
 (i:P.funcs[f]? =some fn) (d:fn.body.isSome=true) (g:(fn.name== "runtime.NumGoroutine")=false) (h:Q0 P f a w K):Calls P f a.toArray w (Q95 K):=by
 have k:(callFunc f a.toArray).run P w= .ok (.enter f a.toArray) w:=by
  unfold callFunc
  simp only[Sem.run_bind,run_program,Result.andThen_ok,i,g,Bool.false_eq_true,if_false]
  cases b:fn.body with
  | none=>rw[b] at d;cases d
  | some c=>simp
 unfold Q0 at h
 rw[Xc] at h
 unfold T7 at h
 rw[k] at h
 refine Calls.mono h fun e w' j=>?_
 cases e<;>exact j
theorem X1c {P:Program} {f:FuncId} {fn:Func} {b:List Value} {w:World} {K:Value→World→Prop} (a:V4)
 (d:P.funcs[f]? =some fn) (g:fn.body.isSome=true) (i:(fn.name== "runtime.NumGoroutine")=false)
 (h:Um P a a.slots 0 (fn.body.getD .skip) (Q7l P fn K) (Ti fn b) w):Q0 P f b w K:=by
 refine Us d g i ?_
 obtain ⟨c,e⟩:=Option.isSome_iff_exists.1 g
 rw[e] at h
 exact Q4j a.slots d e (Q9Z P a c 0 _ _ _ _ (fun _ _ _ h=>h) h)
theorem Q9 {P:Program} {f:FuncId} {fn:Func} {a:List Value} {w:World} {K:Value→World→Prop} {g:Prop} (b:V4)
 (d:P.funcs[f]? =some fn) (i:fn.body.isSome=true) (c:(fn.name== "runtime.NumGoroutine")=false)
 (e:g=Um P b b.slots 0 (fn.body.getD .skip) (Q7l P fn K) (Ti fn a) w) (h:g):Q0 P f a w K:=
 X1c b d i c (e▸h)
theorem Y8 {P:Program} {f:FuncId} {first caps:List Value} {a:List Value} {w:World} {K:Value→World→Prop} (h:Q0 P f (first++a++caps) w K):Z2 P (.func (.func f) first.toArray caps.toArray) a w K:=by
 simpa [Z2,Q0,Deferred.ofValue,invoke,pure_bind,List.append_toArray] using h
end Go.Emb

namespace Go.Proofs.YtfppjenblllfaaaGreatDoor
noncomputable abbrev P : Program := Tryz.prog
namespace F
abbrev bC : Nat := 3
abbrev aA : Nat := 10
abbrev ae : Nat := 11
abbrev aP : Nat := 12
abbrev bu : Nat := 13
abbrev b6 : Nat := 14
abbrev a8 : Nat := 15
abbrev c6 : Nat := 16
abbrev b7 : Nat := 18
abbrev cO : Nat := 19
abbrev x : Nat := 20
abbrev cH : Nat := 25
abbrev ax : Nat := 26
abbrev bv : Nat := 27
abbrev bK : Nat := 28
abbrev aF : Nat := 29
abbrev aG : Nat := 30
abbrev aH : Nat := 31
abbrev a2 : Nat := 32
abbrev ay : Nat := 33
abbrev aY : Nat := 34
abbrev b : Nat := 35
abbrev cr : Nat := 36
abbrev am : Nat := 37
abbrev bn : Nat := 38
abbrev a3 : Nat := 39
abbrev af : Nat := 40
abbrev k : Nat := 41
abbrev cs : Nat := 44
abbrev cd : Nat := 45
abbrev ce : Nat := 46
abbrev aZ : Nat := 47
abbrev o : Nat := 48
abbrev b8 : Nat := 49
abbrev b9 : Nat := 50
abbrev aU : Nat := 51
abbrev ba : Nat := 52
abbrev bb : Nat := 53
abbrev c : Nat := 54
abbrev b0 : Nat := 55
abbrev ag : Nat := 56
abbrev aQ : Nat := 57
abbrev aV : Nat := 58
abbrev ac : Nat := 59
abbrev h : Nat := 60
abbrev r : Nat := 61
abbrev n : Nat := 62
abbrev bw : Nat := 63
abbrev aT : Nat := 64
abbrev ch : Nat := 65
abbrev ca : Nat := 66
abbrev ct : Nat := 67
abbrev ci : Nat := 68
abbrev cI : Nat := 69
abbrev bx : Nat := 70
abbrev a4 : Nat := 71
abbrev aB : Nat := 72
abbrev cj : Nat := 73
abbrev cJ : Nat := 74
abbrev c7 : Nat := 75
abbrev cu : Nat := 76
abbrev ck : Nat := 77
abbrev cl : Nat := 78
abbrev cb : Nat := 79
abbrev cB : Nat := 80
abbrev cv : Nat := 81
abbrev cC : Nat := 82
abbrev cm : Nat := 83
abbrev cn : Nat := 84
abbrev cc : Nat := 85
abbrev bc : Nat := 86
abbrev cP : Nat := 87
abbrev bS : Nat := 88
abbrev ai : Nat := 89
abbrev cK : Nat := 90
abbrev c8 : Nat := 91
abbrev ah : Nat := 92
abbrev cw : Nat := 94
abbrev cf : Nat := 95
abbrev a9 : Nat := 96
abbrev bL : Nat := 97
abbrev aW : Nat := 98
abbrev v : Nat := 99
abbrev bM : Nat := 100
abbrev d : Nat := 101
abbrev w : Nat := 102
abbrev aC : Nat := 103
abbrev bd : Nat := 104
abbrev aj : Nat := 105
abbrev ak : Nat := 106
abbrev aO : Nat := 107
abbrev a : Nat := 108
abbrev aD : Nat := 109
abbrev bT : Nat := 110
abbrev b1 : Nat := 111
abbrev bo : Nat := 112
abbrev be : Nat := 113
abbrev bf : Nat := 114
abbrev bg : Nat := 115
abbrev aI : Nat := 116
abbrev b2 : Nat := 117
abbrev cD : Nat := 118
abbrev bh : Nat := 119
abbrev i : Nat := 120
abbrev aJ : Nat := 121
abbrev cM : Nat := 122
abbrev bI : Nat := 123
abbrev c9 : Nat := 125
abbrev a6 : Nat := 126
abbrev cx : Nat := 130
abbrev bp : Nat := 132
abbrev aw : Nat := 135
abbrev bq : Nat := 138
abbrev bi : Nat := 139
abbrev bJ : Nat := 140
abbrev bU : Nat := 141
abbrev ad : Nat := 142
abbrev bZ : Nat := 143
abbrev c0 : Nat := 144
abbrev a5 : Nat := 145
abbrev aK : Nat := 146
abbrev c1 : Nat := 147
abbrev az : Nat := 148
abbrev c2 : Nat := 149
abbrev ao : Nat := 150
abbrev c3 : Nat := 151
abbrev ap : Nat := 152
abbrev bm : Nat := 153
abbrev bz : Nat := 154
abbrev al : Nat := 155
abbrev aX : Nat := 156
abbrev aa : Nat := 157
abbrev ab : Nat := 158
abbrev u : Nat := 159
abbrev bN : Nat := 160
abbrev j : Nat := 161
abbrev b3 : Nat := 162
abbrev bV : Nat := 163
abbrev g : Nat := 164
abbrev cL : Nat := 165
abbrev aL : Nat := 166
abbrev p : Nat := 167
abbrev co : Nat := 168
abbrev aM : Nat := 169
abbrev e : Nat := 170
abbrev t : Nat := 171
abbrev y : Nat := 172
abbrev z : Nat := 173
abbrev aR : Nat := 174
abbrev aE : Nat := 175
abbrev br : Nat := 176
abbrev an : Nat := 177
abbrev cg : Nat := 178
abbrev bW : Nat := 179
abbrev a7 : Nat := 183
abbrev bO : Nat := 184
abbrev cp : Nat := 185
abbrev bP : Nat := 186
abbrev aq : Nat := 187
abbrev bX : Nat := 188
abbrev c4 : Nat := 189
abbrev f : Nat := 190
abbrev bQ : Nat := 191
abbrev bD : Nat := 192
abbrev bE : Nat := 193
abbrev bA : Nat := 194
abbrev b4 : Nat := 195
abbrev ar : Nat := 196
abbrev b5 : Nat := 197
abbrev cy : Nat := 198
abbrev au : Nat := 199
abbrev cQ : Nat := 203
abbrev aN : Nat := 204
abbrev aS : Nat := 205
abbrev bR : Nat := 206
abbrev cz : Nat := 207
abbrev cR : Nat := 211
abbrev c5 : Nat := 212
abbrev l : Nat := 213
abbrev bF : Nat := 214
abbrev bY : Nat := 215
abbrev cE : Nat := 216
abbrev m : Nat := 217
abbrev bG : Nat := 218
abbrev bj : Nat := 221
abbrev bs : Nat := 222
abbrev av : Nat := 223
abbrev a0 : Nat := 224
abbrev cF : Nat := 225
abbrev bB : Nat := 226
abbrev cq : Nat := 227
abbrev cG : Nat := 228
abbrev a1 : Nat := 229
abbrev bk : Nat := 232
abbrev bl : Nat := 233
abbrev cA : Nat := 234
abbrev bH : Nat := 235
abbrev s : Nat := 236
abbrev cN : Nat := 237
abbrev bt : Nat := 240
abbrev q : Nat := 242
end F
namespace T
abbrev x : Nat := 0
abbrev al : Nat := 2
abbrev e : Nat := 3
abbrev m : Nat := 4
abbrev w : Nat := 5
abbrev b : Nat := 9
abbrev ao : Nat := 12
abbrev af : Nat := 21
abbrev c : Nat := 22
abbrev f : Nat := 24
abbrev r : Nat := 25
abbrev h : Nat := 26
abbrev s : Nat := 31
abbrev l : Nat := 37
abbrev o : Nat := 38
abbrev d : Nat := 40
abbrev n : Nat := 42
abbrev ak : Nat := 43
abbrev y : Nat := 48
abbrev a0 : Nat := 51
abbrev t : Nat := 68
abbrev j : Nat := 71
abbrev v : Nat := 76
abbrev u : Nat := 78
abbrev i : Nat := 79
abbrev g : Nat := 80
abbrev a : Nat := 82
abbrev k : Nat := 89
abbrev a1 : Nat := 92
abbrev z : Nat := 94
abbrev ah : Nat := 104
abbrev a4 : Nat := 107
abbrev ag : Nat := 116
abbrev ai : Nat := 121
abbrev q : Nat := 124
abbrev a2 : Nat := 127
abbrev a7 : Nat := 128
abbrev a5 : Nat := 133
abbrev a3 : Nat := 152
abbrev a9 : Nat := 155
abbrev p : Nat := 159
abbrev aa : Nat := 180
abbrev ab : Nat := 183
abbrev am : Nat := 186
abbrev ad : Nat := 188
abbrev ap : Nat := 199
abbrev an : Nat := 200
abbrev ac : Nat := 202
abbrev ae : Nat := 203
abbrev a6 : Nat := 206
abbrev a8 : Nat := 207
abbrev aj : Nat := 214
abbrev aq : Nat := 217
abbrev ar : Nat := 220
end T
namespace G
abbrev b : Nat := 0
abbrev e : Nat := 1
abbrev d : Nat := 2
abbrev c : Nat := 3
abbrev a : Nat := 4
end G
end Go.Proofs.YtfppjenblllfaaaGreatDoor

set_option maxRecDepth 100000
namespace Go.Proofs.YtfppjenblllfaaaGreatDoor
open Go.Emb
def Yx (e g:Value) (w:World) (K:Value→World→Prop):Prop:= nilCheck P e w fun h w=>fieldAddr P T.u h 1 w fun b w=>Q2 P T.v b w fun d w=>lookup P T.v d g true w fun a w=>ext P a 0 w fun f w=>ext P a 1 w fun c w=>K c w
theorem Og {a b:Value} {w:World} {K:Value→World→Prop} (h:Yx a b w K):Q0 P F.k [a,b] w K:=Q9 (List.replicate 3 none) Tryz.func41 rfl (by decide) (by kernel_rfl) h
def Q5h:V4:=[none,none,none,none,some ([1,10],[1,3,10,11,12,13,14,15,16,17,18]),none,none,none,none,none]
def Q03 (w:World) (K:Value→World→Prop):Prop:= N4 P T.a [(0,(.string ⟨#[79,98,106,101,99,116]⟩))] w fun k w=>N4 P T.k [(0,(.string ⟨#[119,104,97,116]⟩)),(1,(.string ⟨#[116,101,120,116]⟩))] w fun i w=>buildSlice P T.i 1 [(0,i)] w fun j w=>N4 P T.a [(0,(.string ⟨#[70,97,117,108,116]⟩)),(1,(.string ⟨#[79,98,106,101,99,116]⟩)),(6,j)] w fun n w=>buildSlice P T.h 2 [(0,k),(1,n)] w fun m w=>Q2 P T.ag (.pointer (some ⟨G.b,0,none⟩)) w fun l w=>lp (α:=Value×Value) (m,(.int .i64 0)) w fun a b o w=>Q3 P .lss T.e (.tmp 10) (.const (.int .i64 6)) b.2 (.int .i64 6) w fun h w=>X1 h (E5 P T.ag l b.2 w fun d w=>N4 P T.a [(0,d),(1,(.string ⟨#[70,97,117,108,116]⟩)),(5,(.bool true))] w fun e w=>buildSlice P T.h 1 [(0,e)] w fun g w=>X5 P .append [T.h,T.h] T.h [false,false] [b.1,g] w fun f w=>Q3 P .add T.e (.tmp 10) (.const (.int .i64 1)) b.2 (.int .i64 1) w fun c w=>a (f,c) w) (K b.1 w)
theorem Q4v {w:World} {K:Value→World→Prop} (h:Q03 w K):Q0 P F.cs [] w K:=Q9 Q5h Tryz.func44 rfl (by decide) (by kernel_rfl) h
def Q50:V4:=[none,none,none,some ([8],[2,4,8,9,10,11,12,13,14,15,16,17,18,19,20,21,22,23,24,25,26,27,28,29,30,31,32,33]),none,none,none,none,none,none,none]
def Ac (Y:Value) (w:World) (K:Value→World→Prop):Prop:= box P T.a Y w fun b w=>fieldAddr P T.a b 7 w fun X w=>Q2 P T.g X w fun W w=>X5 P .len [T.g] T.e [false] [W] w fun t7 w=>lp (α:=Value) (.int .i64 0) w fun h D d_ w=>Q3 P .lss T.e (.tmp 8) (.tmp 7) D t7 w fun Z w=>X1 Z (indexAddr P T.g W D w fun l w=>Q2 P T.d l w fun E w=>W4 P T.d w fun a w=>Z0 P T.d a E w fun _u w=>fieldAddr P T.d a 1 w fun u w=>Q2 P T.c u w fun M w=>X5 P .len [T.c] T.e [false] [M] w fun r w=>Q3 P .gtr T.e (.tmp 14) (.const (.int .i64 32)) r (.int .i64 32) w fun f w=>Q1 f false w (fieldAddr P T.d a 6) fun N w=>Q1 f false w (Q2 P T.o N) fun q w=>Q1 f false w (X5 P .len [T.o] T.e [false] [q]) fun o w=>Q1 f false w (Q3 P .gtr T.e (.tmp 19) (.const (.int .i64 32)) o (.int .i64 32)) fun R w=>pick P f (.bool true) R w fun e w=>Q1 e false w (fieldAddr P T.d a 5) fun V w=>Q1 e false w (Q2 P T.l V) fun J w=>Q1 e false w (X5 P .len [T.l] T.e [false] [J]) fun n w=>Q1 e false w (Q3 P .gtr T.e (.tmp 25) (.const (.int .i64 200)) n (.int .i64 200)) fun k w=>pick P e (.bool true) k w fun g w=>Q1 g false w (fieldAddr P T.d a 4) fun L w=>Q1 g false w (Q2 P T.e L) fun y w=>Q1 g false w (Q3 P .gtr T.e (.tmp 30) (.const (.int .i64 64)) y (.int .i64 64)) fun m w=>pick P g (.bool true) m w fun A w=>X1 A (K (.bool true) w) (Q3 P .add T.e (.tmp 8) (.const (.int .i64 1)) D (.int .i64 1) w fun H w=>h H w)) (fieldAddr P T.a b 2 w fun t w=>Q2 P T.c t w fun C w=>X5 P .len [T.c] T.e [false] [C] w fun z w=>Q3 P .gtr T.e (.tmp 36) (.const (.int .i64 32)) z (.int .i64 32) w fun d w=>Q1 d false w (fieldAddr P T.a b 6) fun p w=>Q1 d false w (Q2 P T.i p) fun B w=>Q1 d false w (X5 P .len [T.i] T.e [false] [B]) fun j w=>Q1 d false w (Q3 P .gtr T.e (.tmp 41) (.const (.int .i64 32)) j (.int .i64 32)) fun U w=>pick P d (.bool true) U w fun c w=>Q1 c false w (fieldAddr P T.a b 7) fun s w=>Q1 c false w (Q2 P T.g s) fun O w=>Q1 c false w (X5 P .len [T.g] T.e [false] [O]) fun v w=>Q1 c false w (Q3 P .gtr T.e (.tmp 47) (.const (.int .i64 32)) v (.int .i64 32)) fun i w=>pick P c (.bool true) i w fun Q w=>K Q w)
theorem Q48 {a:Value} {w:World} {K:Value→World→Prop} (h:Ac a w K):Q0 P F.cw [a] w K:=Q9 Q50 Tryz.func94 rfl (by decide) (by kernel_rfl) h
def Q76:V4:=[none,none,none,some ([],[4,6,9,10,11,12,13,14,15]),none,none,none,none,none,none]
def Q1D (g h:Value) (w:World) (K:Value→World→Prop):Prop:= rng P T.b g w fun i w=>lp (α:=Unit) () w fun a k j w=>J7 P i true T.x w fun f w=>ext P f 0 w fun b w=>X1 b (ext P f 2 w fun e w=>Z2 P h [e] w fun d w=>Z8 P .not d w fun c w=>X1 c (K (.bool false) w) (a () w)) (K (.bool true) w)
theorem Q6W {a b:Value} {w:World} {K:Value→World→Prop} (h:Q1D a b w K):Q0 P F.cp [a,b] w K:=Q9 Q76 Tryz.func185 rfl (by decide) (by kernel_rfl) h
def Ao (b:Value) (w:World) (K:Value→World→Prop):Prop:= Q3 P .geq T.af (.tmp 3) (.const (.int .i32 65)) b (.int .i32 65) w fun a w=>Q1 a true w (fun w J=>J b w) fun c w=>Q1 a true w (Q3 P .leq T.af (.tmp 6) (.const (.int .i32 90)) c (.int .i32 90)) fun e w=>pick P a e (.bool false) w fun d w=>K d w
theorem Q45 {a:Value} {w:World} {K:Value→World→Prop} (h:Ao a w K):Q0 P F.bU [a] w K:=Q9 (List.replicate 2 none) Tryz.func141 rfl (by decide) (by kernel_rfl) h
def Q06 (b:Value) (w:World) (K:Value→World→Prop):Prop:= Q3 P .geq T.af (.tmp 3) (.const (.int .i32 97)) b (.int .i32 97) w fun a w=>Q1 a true w (fun w J=>J b w) fun c w=>Q1 a true w (Q3 P .leq T.af (.tmp 6) (.const (.int .i32 122)) c (.int .i32 122)) fun e w=>pick P a e (.bool false) w fun d w=>K d w
theorem Q3T {a:Value} {w:World} {K:Value→World→Prop} (h:Q06 a w K):Q0 P F.bW [a] w K:=Q9 (List.replicate 2 none) Tryz.func179 rfl (by decide) (by kernel_rfl) h
def Il (c:Value) (w:World) (K:Value→World→Prop):Prop:= Q0 P F.bU [c] w fun h w=>Q1 h false w (fun w J=>J c w) fun k w=>Q1 h false w (Q0 P F.bW [k]) fun l w=>pick P h (.bool true) l w fun b w=>Q1 b false w (fun w J=>J c w) fun d w=>Q1 b false w (Q3 P .geq T.af (.tmp 10) (.const (.int .i32 48)) d (.int .i32 48)) fun j w=>Q1 b false w (fun w J=>J j w) fun a w=>Q1 a true w (fun w J=>J c w) fun g w=>Q1 a true w (Q3 P .leq T.af (.tmp 13) (.const (.int .i32 57)) g (.int .i32 57)) fun f w=>Q1 b false w (pick P a f (.bool false)) fun e w=>pick P b (.bool true) e w fun i w=>K i w
theorem Q3B {a:Value} {w:World} {K:Value→World→Prop} (h:Il a w K):Q0 P F.bP [a] w K:=Q9 (List.replicate 2 none) Tryz.func186 rfl (by decide) (by kernel_rfl) h
def Q0O (c:Value) (w:World) (K:Value→World→Prop):Prop:= Q3 P .eql T.b (.tmp 3) (.const (.string ⟨#[]⟩)) c (.string ⟨#[]⟩) w fun d w=>Q1 d false w (fun w J=>J c w) fun p w=>Q1 d false w (X5 P .len [T.b] T.e [false] [p]) fun o w=>Q1 d false w (Q3 P .gtr T.e (.tmp 7) (.const (.int .i64 32)) o (.int .i64 32)) fun n w=>pick P d (.bool true) n w fun b w=>Q1 b false w (fun w J=>J c w) fun k w=>Q1 b false w (E5 P T.b k (.int .i64 0)) fun i w=>Q1 b false w (Q3 P .geq T.w (.tmp 12) (.const (.int .u8 48)) i (.int .u8 48)) fun l w=>Q1 b false w (fun w J=>J l w) fun a w=>Q1 a true w (fun w J=>J c w) fun j w=>Q1 a true w (E5 P T.b j (.int .i64 0)) fun g w=>Q1 a true w (Q3 P .leq T.w (.tmp 16) (.const (.int .u8 57)) g (.int .u8 57)) fun m w=>Q1 b false w (pick P a m (.bool false)) fun f w=>pick P b (.bool true) f w fun e w=>X1 e (K (.bool false) w) (Q0 P F.cp [c,(.func (.func F.bP) #[] #[])] w fun h w=>K h w)
theorem Q5V {a:Value} {w:World} {K:Value→World→Prop} (h:Q0O a w K):Q0 P F.bJ [a] w K:=Q9 (List.replicate 5 none) Tryz.func140 rfl (by decide) (by kernel_rfl) h
def Tl (c:Value) (w:World) (K:Value→World→Prop):Prop:= Q0 P F.bJ [c] w fun a w=>Q1 a true w (fun w J=>J c w) fun d w=>Q1 a true w (E5 P T.b d (.int .i64 0)) fun g w=>Q1 a true w (conv P T.w T.af g) fun f w=>Q1 a true w (Q0 P F.bU [f]) fun e w=>pick P a e (.bool false) w fun b w=>K b w
theorem Q4w {a:Value} {w:World} {K:Value→World→Prop} (h:Tl a w K):Q0 P F.ah [a] w K:=Q9 (List.replicate 2 none) Tryz.func92 rfl (by decide) (by kernel_rfl) h
def Qr:V4:=[none,none,none,some ([8],[4,5,8,9,10,11,12,13,14,15,16,17,18]),none,none,none,none,none,none,none]
def H9 (g h:Value) (w:World) (K:Value→World→Prop):Prop:= X5 P .len [T.g] T.e [false] [g] w fun j w=>lp (α:=Value) (.int .i64 0) w fun a b k w=>Q3 P .lss T.e (.tmp 8) (.tmp 7) b j w fun i w=>X1 i (indexAddr P T.g g b w fun e w=>Q2 P T.d e w fun d w=>Z2 P h [d] w fun f w=>X1 f (K b w) (Q3 P .add T.e (.tmp 8) (.const (.int .i64 1)) b (.int .i64 1) w fun c w=>a c w)) (K (.int .i64 (-1)) w)
theorem Qq {a b:Value} {w:World} {K:Value→World→Prop} (h:H9 a b w K):Q0 P F.g [a,b] w K:=Q9 Qr Tryz.func164 rfl (by decide) (by kernel_rfl) h
def E1 (a b:Value) (w:World) (K:Value→World→Prop):Prop:= Q0 P F.g [a,b] w fun d w=>Q3 P .geq T.e (.tmp 7) (.const (.int .i64 0)) d (.int .i64 0) w fun c w=>K c w
theorem K6 {a b:Value} {w:World} {K:Value→World→Prop} (h:E1 a b w K):Q0 P F.a [a,b] w K:=Q9 (List.replicate 2 none) Tryz.func108 rfl (by decide) (by kernel_rfl) h
def Wi:V4:=[none,none,none,some ([8],[4,5,8,9,10,11,12,13,14,15,16,17,18]),none,none,none,none,none,none,none]
def I9 (g h:Value) (w:World) (K:Value→World→Prop):Prop:= X5 P .len [T.c] T.e [false] [g] w fun j w=>lp (α:=Value) (.int .i64 0) w fun a b k w=>Q3 P .lss T.e (.tmp 8) (.tmp 7) b j w fun i w=>X1 i (indexAddr P T.c g b w fun e w=>Q2 P T.b e w fun d w=>Q3 P .eql T.b (.tmp 11) (.tmp 15) h d w fun f w=>X1 f (K b w) (Q3 P .add T.e (.tmp 8) (.const (.int .i64 1)) b (.int .i64 1) w fun c w=>a c w)) (K (.int .i64 (-1)) w)
theorem Lo {a b:Value} {w:World} {K:Value→World→Prop} (h:I9 a b w K):Q0 P F.aq [a,b] w K:=Q9 Wi Tryz.func187 rfl (by decide) (by kernel_rfl) h
def G6 (a b:Value) (w:World) (K:Value→World→Prop):Prop:= Q0 P F.aq [a,b] w fun d w=>Q3 P .geq T.e (.tmp 7) (.const (.int .i64 0)) d (.int .i64 0) w fun c w=>K c w
theorem Jt {a b:Value} {w:World} {K:Value→World→Prop} (h:G6 a b w K):Q0 P F.ad [a,b] w K:=Q9 (List.replicate 2 none) Tryz.func142 rfl (by decide) (by kernel_rfl) h
def Rm (c:Value) (w:World) (K:Value→World→Prop):Prop:= box P T.d c w fun a w=>fieldAddr P T.d a 3 w fun b w=>Q2 P T.m b w fun d w=>K d w
theorem Q24 {a:Value} {w:World} {K:Value→World→Prop} (h:Rm a w K):Q0 P F.bZ [a] w K:=Q9 (List.replicate 2 none) Tryz.func143 rfl (by decide) (by kernel_rfl) h
def Rv (d:Value) (w:World) (K:Value→World→Prop):Prop:= box P T.d d w fun a w=>fieldAddr P T.d a 3 w fun b w=>Q2 P T.m b w fun e w=>Z8 P .not e w fun c w=>K c w
theorem Q1G {a:Value} {w:World} {K:Value→World→Prop} (h:Rv a w K):Q0 P F.c0 [a] w K:=Q9 (List.replicate 2 none) Tryz.func144 rfl (by decide) (by kernel_rfl) h
def Jn:V4:=[none,none,none,some ([8],[4,5,8,9,10,11,12,13,14,15,16,17,18]),none,none,none,none,none,none,none]
def G2 (g h:Value) (w:World) (K:Value→World→Prop):Prop:= X5 P .len [T.c] T.e [false] [g] w fun j w=>lp (α:=Value) (.int .i64 0) w fun a b k w=>Q3 P .lss T.e (.tmp 8) (.tmp 7) b j w fun i w=>X1 i (indexAddr P T.c g b w fun e w=>Q2 P T.b e w fun d w=>Z2 P h [d] w fun f w=>X1 f (K b w) (Q3 P .add T.e (.tmp 8) (.const (.int .i64 1)) b (.int .i64 1) w fun c w=>a c w)) (K (.int .i64 (-1)) w)
theorem Jm {a b:Value} {w:World} {K:Value→World→Prop} (h:G2 a b w K):Q0 P F.u [a,b] w K:=Q9 Jn Tryz.func159 rfl (by decide) (by kernel_rfl) h
def B4 (a b:Value) (w:World) (K:Value→World→Prop):Prop:= Q0 P F.u [a,b] w fun d w=>Q3 P .geq T.e (.tmp 7) (.const (.int .i64 0)) d (.int .i64 0) w fun c w=>K c w
theorem Yn {a b:Value} {w:World} {K:Value→World→Prop} (h:B4 a b w K):Q0 P F.d [a,b] w K:=Q9 (List.replicate 2 none) Tryz.func101 rfl (by decide) (by kernel_rfl) h
def Ug (a b:Value) (w:World) (K:Value→World→Prop):Prop:= Q2 P T.y b w fun d w=>Z2 P d [a] w fun c w=>Z8 P .not c w fun e w=>K e w
theorem Sp {a b:Value} {w:World} {K:Value→World→Prop} (h:Ug a b w K):Q0 P F.bX [a,b] w K:=Q9 (List.replicate 2 none) Tryz.func188 rfl (by decide) (by kernel_rfl) h
def Li (b c:Value) (w:World) (K:Value→World→Prop):Prop:= box P T.y c w fun a w=>M7 P (.func F.bX) [] [a] w fun d w=>Q0 P F.d [b,d] w fun f w=>Z8 P .not f w fun e w=>K e w
theorem Gf {a b:Value} {w:World} {K:Value→World→Prop} (h:Li a b w K):Q0 P F.a5 [a,b] w K:=Q9 (List.replicate 2 none) Tryz.func145 rfl (by decide) (by kernel_rfl) h
def Vn (o j n:Value) (w:World) (K:Value→World→Prop):Prop:= dr w fun a b=>Q7 a (fun d=> ∀w,b w→Q2 P T.a5 j w (dk a d w)) fun d=>Q7 a (fun f=> ∀c w,b w→d c w→Z2 P c [o] w (dk a f w)) fun f=>Q7 a (fun h=> ∀w,b w→Q2 P T.a5 j w (dk a h w)) fun h=>Q7 a (fun g=> ∀w,b w→Q2 P T.b n w (dk a g w)) fun g=>∀c m l k w,b w→d c w→f m w→h l w→g k w→ Z2 P l [k] w fun e w=>Q3 P .eql T.b (.tmp 7) (.tmp 10) m e w fun i w=>K i w
theorem Sy {b c a:Value} {w:World} {K:Value→World→Prop} (h:Vn b c a w K):Q0 P F.c4 [b,c,a] w K:=Q9 (List.replicate 2 none) Tryz.func189 rfl (by decide) (by kernel_rfl) h
def Ko:V4:=[none,none,none,some ([9],[4,5,6,9,10,11,12,13,14,15,16,17,18,19]),none,none,none,none,none,none,none]
def Mg (i m:Value) (w:World) (K:Value→World→Prop):Prop:= box P T.a5 m w fun a w=>X5 P .len [T.c] T.e [false] [i] w fun n w=>lp (α:=Value) (.int .i64 0) w fun c d o w=>Q3 P .lss T.e (.tmp 9) (.tmp 8) d n w fun f w=>X1 f (indexAddr P T.c i d w fun g w=>Q2 P T.b g w fun j w=>W4 P T.b w fun b w=>Z0 P T.b b j w fun _u w=>H7 P T.c i none (some d) none w fun l w=>M7 P (.func F.c4) [] [a,b] w fun k w=>Q0 P F.d [l,k] w fun e w=>X1 e (K (.bool false) w) (Q3 P .add T.e (.tmp 9) (.const (.int .i64 1)) d (.int .i64 1) w fun h w=>c h w)) (K (.bool true) w)
theorem Kx {a b:Value} {w:World} {K:Value→World→Prop} (h:Mg a b w K):Q0 P F.aK [a,b] w K:=Q9 Ko Tryz.func146 rfl (by decide) (by kernel_rfl) h
def Q1J (a:Value) (w:World) (K:Value→World→Prop):Prop:= K a w
theorem Q1M {a:Value} {w:World} {K:Value→World→Prop} (h:Q1J a w K):Q0 P F.c1 [a] w K:=Q9 (List.replicate 2 none) Tryz.func147 rfl (by decide) (by kernel_rfl) h
def Xf:V4:=[none,none,none,some ([8],[4,5,8,9,10,11,12,13,14,15,16,17,18]),none,none,none,none,none,none,none]
def R7 (g h:Value) (w:World) (K:Value→World→Prop):Prop:= X5 P .len [T.i] T.e [false] [g] w fun j w=>lp (α:=Value) (.int .i64 0) w fun a b k w=>Q3 P .lss T.e (.tmp 8) (.tmp 7) b j w fun i w=>X1 i (indexAddr P T.i g b w fun e w=>Q2 P T.k e w fun d w=>Z2 P h [d] w fun f w=>X1 f (K b w) (Q3 P .add T.e (.tmp 8) (.const (.int .i64 1)) b (.int .i64 1) w fun c w=>a c w)) (K (.int .i64 (-1)) w)
theorem Qw {a b:Value} {w:World} {K:Value→World→Prop} (h:R7 a b w K):Q0 P F.j [a,b] w K:=Q9 Xf Tryz.func161 rfl (by decide) (by kernel_rfl) h
def H5 (a b:Value) (w:World) (K:Value→World→Prop):Prop:= Q0 P F.j [a,b] w fun d w=>Q3 P .geq T.e (.tmp 7) (.const (.int .i64 0)) d (.int .i64 0) w fun c w=>K c w
theorem T5 {a b:Value} {w:World} {K:Value→World→Prop} (h:H5 a b w K):Q0 P F.f [a,b] w K:=Q9 (List.replicate 2 none) Tryz.func190 rfl (by decide) (by kernel_rfl) h
def Yq (q m r:Value) (w:World) (K:Value→World→Prop):Prop:= box P T.k q w fun b w=>dr w fun a c=>Q7 a (fun g=> ∀w,c w→Q2 P T.a3 m w (dk a g w)) fun g=>Q7 a (fun e=> ∀w,c w→Q2 P T.k b w (dk a e w)) fun e=>Q7 a (fun l=> ∀d f w,c w→g d w→e f w→Z2 P d [f] w (dk a l w)) fun l=>Q7 a (fun i=> ∀w,c w→Q2 P T.a3 m w (dk a i w)) fun i=>Q7 a (fun k=> ∀w,c w→Q2 P T.k r w (dk a k w)) fun k=>∀d f p n o w,c w→g d w→e f w→l p w→i n w→k o w→ Z2 P n [o] w fun h w=>Q3 P .eql T.b (.tmp 7) (.tmp 10) p h w fun j w=>K j w
theorem Dw {b c a:Value} {w:World} {K:Value→World→Prop} (h:Yq b c a w K):Q0 P F.bQ [b,c,a] w K:=Q9 (List.replicate 2 none) Tryz.func191 rfl (by decide) (by kernel_rfl) h
def Ry:V4:=[none,none,none,some ([9],[4,5,6,9,10,11,12,13,14,15,16,17,18,19]),none,none,none,none,none,none,none]
def Uf (i m:Value) (w:World) (K:Value→World→Prop):Prop:= box P T.a3 m w fun a w=>X5 P .len [T.i] T.e [false] [i] w fun n w=>lp (α:=Value) (.int .i64 0) w fun c d o w=>Q3 P .lss T.e (.tmp 9) (.tmp 8) d n w fun f w=>X1 f (indexAddr P T.i i d w fun g w=>Q2 P T.k g w fun j w=>W4 P T.k w fun b w=>Z0 P T.k b j w fun _u w=>H7 P T.i i none (some d) none w fun l w=>M7 P (.func F.bQ) [] [a,b] w fun k w=>Q0 P F.f [l,k] w fun e w=>X1 e (K (.bool false) w) (Q3 P .add T.e (.tmp 9) (.const (.int .i64 1)) d (.int .i64 1) w fun h w=>c h w)) (K (.bool true) w)
theorem Sr {a b:Value} {w:World} {K:Value→World→Prop} (h:Uf a b w K):Q0 P F.az [a,b] w K:=Q9 Ry Tryz.func148 rfl (by decide) (by kernel_rfl) h
def Rt (c:Value) (w:World) (K:Value→World→Prop):Prop:= box P T.k c w fun a w=>fieldAddr P T.k a 0 w fun b w=>Q2 P T.b b w fun d w=>K d w
theorem Q26 {a:Value} {w:World} {K:Value→World→Prop} (h:Rt a w K):Q0 P F.c2 [a] w K:=Q9 (List.replicate 2 none) Tryz.func149 rfl (by decide) (by kernel_rfl) h
def Yd (q m r:Value) (w:World) (K:Value→World→Prop):Prop:= box P T.d q w fun b w=>dr w fun a c=>Q7 a (fun g=> ∀w,c w→Q2 P T.a2 m w (dk a g w)) fun g=>Q7 a (fun e=> ∀w,c w→Q2 P T.d b w (dk a e w)) fun e=>Q7 a (fun l=> ∀d f w,c w→g d w→e f w→Z2 P d [f] w (dk a l w)) fun l=>Q7 a (fun i=> ∀w,c w→Q2 P T.a2 m w (dk a i w)) fun i=>Q7 a (fun k=> ∀w,c w→Q2 P T.d r w (dk a k w)) fun k=>∀d f p n o w,c w→g d w→e f w→l p w→i n w→k o w→ Z2 P n [o] w fun h w=>Q3 P .eql T.b (.tmp 7) (.tmp 10) p h w fun j w=>K j w
theorem Oy {b c a:Value} {w:World} {K:Value→World→Prop} (h:Yd b c a w K):Q0 P F.bD [b,c,a] w K:=Q9 (List.replicate 2 none) Tryz.func192 rfl (by decide) (by kernel_rfl) h
def Hr:V4:=[none,none,none,some ([9],[4,5,6,9,10,11,12,13,14,15,16,17,18,19]),none,none,none,none,none,none,none]
def Jj (i m:Value) (w:World) (K:Value→World→Prop):Prop:= box P T.a2 m w fun a w=>X5 P .len [T.g] T.e [false] [i] w fun n w=>lp (α:=Value) (.int .i64 0) w fun c d o w=>Q3 P .lss T.e (.tmp 9) (.tmp 8) d n w fun f w=>X1 f (indexAddr P T.g i d w fun g w=>Q2 P T.d g w fun j w=>W4 P T.d w fun b w=>Z0 P T.d b j w fun _u w=>H7 P T.g i none (some d) none w fun l w=>M7 P (.func F.bD) [] [a,b] w fun k w=>Q0 P F.a [l,k] w fun e w=>X1 e (K (.bool false) w) (Q3 P .add T.e (.tmp 9) (.const (.int .i64 1)) d (.int .i64 1) w fun h w=>c h w)) (K (.bool true) w)
theorem Hq {a b:Value} {w:World} {K:Value→World→Prop} (h:Jj a b w K):Q0 P F.ao [a,b] w K:=Q9 Hr Tryz.func150 rfl (by decide) (by kernel_rfl) h
def Rp (c:Value) (w:World) (K:Value→World→Prop):Prop:= box P T.d c w fun a w=>fieldAddr P T.d a 0 w fun b w=>Q2 P T.b b w fun d w=>K d w
theorem Q1R {a:Value} {w:World} {K:Value→World→Prop} (h:Rp a w K):Q0 P F.c3 [a] w K:=Q9 (List.replicate 2 none) Tryz.func151 rfl (by decide) (by kernel_rfl) h
def Yg (c e:Value) (w:World) (K:Value→World→Prop):Prop:= box P T.k c w fun a w=>Q2 P T.a9 e w fun f w=>Q2 P T.k a w fun b w=>Z2 P f [b] w fun d w=>Z8 P .not d w fun g w=>K g w
theorem De {a b:Value} {w:World} {K:Value→World→Prop} (h:Yg a b w K):Q0 P F.bE [a,b] w K:=Q9 (List.replicate 2 none) Tryz.func193 rfl (by decide) (by kernel_rfl) h
def Jh (b c:Value) (w:World) (K:Value→World→Prop):Prop:= box P T.a9 c w fun a w=>M7 P (.func F.bE) [] [a] w fun d w=>Q0 P F.f [b,d] w fun f w=>Z8 P .not f w fun e w=>K e w
theorem Hs {a b:Value} {w:World} {K:Value→World→Prop} (h:Jh a b w K):Q0 P F.ap [a,b] w K:=Q9 (List.replicate 2 none) Tryz.func152 rfl (by decide) (by kernel_rfl) h
def Av (c:Value) (w:World) (K:Value→World→Prop):Prop:= Q3 P .eql T.b (.tmp 3) (.const (.string ⟨#[105,110,116]⟩)) c (.string ⟨#[105,110,116]⟩) w fun d w=>Q1 d false w (fun w J=>J c w) fun g w=>Q1 d false w (Q3 P .eql T.b (.tmp 6) (.const (.string ⟨#[98,111,111,108]⟩)) g (.string ⟨#[98,111,111,108]⟩)) fun h w=>pick P d (.bool true) h w fun f w=>Q1 f false w (fun w J=>J c w) fun a w=>Q1 f false w (Q3 P .eql T.b (.tmp 10) (.const (.string ⟨#[116,101,120,116]⟩)) a (.string ⟨#[116,101,120,116]⟩)) fun e w=>pick P f (.bool true) e w fun b w=>K b w
theorem Q4J {a:Value} {w:World} {K:Value→World→Prop} (h:Av a w K):Q0 P F.af [a] w K:=Q9 (List.replicate 2 none) Tryz.func40 rfl (by decide) (by kernel_rfl) h
def Ji (f j:Value) (w:World) (K:Value→World→Prop):Prop:= X5 P .len [T.b] T.e [false] [f] w fun n w=>X5 P .len [T.b] T.e [false] [j] w fun o w=>Q3 P .geq T.e (.tmp 6) (.tmp 8) n o w fun a w=>Q1 a true w (fun w J=>J f w) fun m w=>Q1 a true w (fun w J=>J f w) fun d w=>Q1 a true w (X5 P .len [T.b] T.e [false] [d]) fun h w=>Q1 a true w (fun w J=>J j w) fun g w=>Q1 a true w (X5 P .len [T.b] T.e [false] [g]) fun e w=>Q1 a true w (Q3 P .sub T.e (.tmp 13) (.tmp 15) h e) fun l w=>Q1 a true w (H7 P T.b m (some l) none none) fun i w=>Q1 a true w (fun w J=>J j w) fun c w=>Q1 a true w (Q3 P .eql T.b (.tmp 17) (.tmp 18) i c) fun b w=>pick P a b (.bool false) w fun k w=>K k w
theorem Hv {a b:Value} {w:World} {K:Value→World→Prop} (h:Ji a b w K):Q0 P F.a7 [a,b] w K:=Q9 (List.replicate 2 none) Tryz.func183 rfl (by decide) (by kernel_rfl) h
def Mv (a b:Value) (w:World) (K:Value→World→Prop):Prop:= Q0 P F.a7 [a,b] w fun c w=>K c w
theorem Pc {a b:Value} {w:World} {K:Value→World→Prop} (h:Mv a b w K):Q0 P F.bq [a,b] w K:=Q9 (List.replicate 2 none) Tryz.func138 rfl (by decide) (by kernel_rfl) h
def Yy (a f:Value) (w:World) (K:Value→World→Prop):Prop:= Q0 P F.a7 [a,f] w fun g w=>X1 g (X5 P .len [T.b] T.e [false] [a] w fun b w=>X5 P .len [T.b] T.e [false] [f] w fun c w=>Q3 P .sub T.e (.tmp 10) (.tmp 12) b c w fun e w=>H7 P T.b a none (some e) none w fun d w=>K d w) (K a w)
theorem Ho {a b:Value} {w:World} {K:Value→World→Prop} (h:Yy a b w K):Q0 P F.bO [a,b] w K:=Q9 (List.replicate 5 none) Tryz.func184 rfl (by decide) (by kernel_rfl) h
def Wp (a b:Value) (w:World) (K:Value→World→Prop):Prop:= Q0 P F.bO [a,b] w fun c w=>K c w
theorem Bn {a b:Value} {w:World} {K:Value→World→Prop} (h:Wp a b w K):Q0 P F.bi [a,b] w K:=Q9 (List.replicate 2 none) Tryz.func139 rfl (by decide) (by kernel_rfl) h
def Q5R:V4:=[none,none,none,some ([0,4],[0,4,5,6,7,8,9,10]),none,none,none]
def Q0J (d:Value) (w:World) (K:Value→World→Prop):Prop:= lp (α:=Value×Value) (d,(.int .i64 0)) w fun a b g w=>Q0 P F.bq [b.1,(.string ⟨#[91,93]⟩)] w fun e w=>X1 e (Q0 P F.bi [b.1,(.string ⟨#[91,93]⟩)] w fun f w=>Q3 P .add T.e (.tmp 9) (.const (.int .i64 1)) b.2 (.int .i64 1) w fun c w=>a (f,c) w) (K (.tuple #[b.1,b.2]) w)
theorem Q5Z {a:Value} {w:World} {K:Value→World→Prop} (h:Q0J a w K):Q0 P F.c8 [a] w K:=Q9 Q5R Tryz.func91 rfl (by decide) (by kernel_rfl) h
def Pj (k:Value) (w:World) (K:Value→World→Prop):Prop:= Q0 P F.c8 [k] w fun j w=>ext P j 0 w fun i w=>ext P j 1 w fun l w=>Q3 P .leq T.e (.tmp 10) (.const (.int .i64 3)) l (.int .i64 3) w fun a w=>Q1 a true w (fun w J=>J i w) fun f w=>Q1 a true w (Q0 P F.af [f]) fun e w=>Q1 a true w (fun w J=>J e w) fun b w=>Q1 b false w (fun w J=>J i w) fun h w=>Q1 b false w (Q0 P F.ah [h]) fun g w=>Q1 a true w (pick P b (.bool true) g) fun d w=>pick P a d (.bool false) w fun c w=>K c w
theorem Q4q {a:Value} {w:World} {K:Value→World→Prop} (h:Pj a w K):Q0 P F.a3 [a] w K:=Q9 (List.replicate 3 none) Tryz.func39 rfl (by decide) (by kernel_rfl) h
def Ce (b:Value) (w:World) (K:Value→World→Prop):Prop:= Q0 P F.bJ [b] w fun a w=>Q1 a true w (fun w J=>J b w) fun c w=>Q1 a true w (Q0 P F.ah [c]) fun f w=>Q1 a true w (Z8 P .not f) fun e w=>pick P a e (.bool false) w fun d w=>K d w
theorem Q2p {a:Value} {w:World} {K:Value→World→Prop} (h:Ce a w K):Q0 P F.bz [a] w K:=Q9 (List.replicate 2 none) Tryz.func154 rfl (by decide) (by kernel_rfl) h
def Rd (e:Value) (w:World) (K:Value→World→Prop):Prop:= box P T.k e w fun a w=>fieldAddr P T.k a 0 w fun d w=>Q2 P T.b d w fun f w=>Q0 P F.bz [f] w fun b w=>Q1 b true w (fieldAddr P T.k a 1) fun i w=>Q1 b true w (Q2 P T.b i) fun h w=>Q1 b true w (Q0 P F.a3 [h]) fun g w=>pick P b g (.bool false) w fun c w=>K c w
theorem Q1t {a:Value} {w:World} {K:Value→World→Prop} (h:Rd a w K):Q0 P F.bm [a] w K:=Q9 (List.replicate 2 none) Tryz.func153 rfl (by decide) (by kernel_rfl) h
def Xq (c e:Value) (w:World) (K:Value→World→Prop):Prop:= box P T.d c w fun a w=>Q2 P T.a7 e w fun f w=>Q2 P T.d a w fun b w=>Z2 P f [b] w fun d w=>Z8 P .not d w fun g w=>K g w
theorem Oq {a b:Value} {w:World} {K:Value→World→Prop} (h:Xq a b w K):Q0 P F.bA [a,b] w K:=Q9 (List.replicate 2 none) Tryz.func194 rfl (by decide) (by kernel_rfl) h
def Zl (b c:Value) (w:World) (K:Value→World→Prop):Prop:= box P T.a7 c w fun a w=>M7 P (.func F.bA) [] [a] w fun d w=>Q0 P F.a [b,d] w fun f w=>Z8 P .not f w fun e w=>K e w
theorem Hn {a b:Value} {w:World} {K:Value→World→Prop} (h:Zl a b w K):Q0 P F.al [a,b] w K:=Q9 (List.replicate 2 none) Tryz.func155 rfl (by decide) (by kernel_rfl) h
def Ea (E A:Value) (w:World) (K:Value→World→Prop):Prop:= box P T.p E w fun a w=>fieldAddr P T.p a 0 w fun C w=>Q2 P T.e C w fun B w=>Q3 P .geq T.e (.tmp 5) (.const (.int .i64 0)) B (.int .i64 0) w fun f w=>Q1 f true w (fieldAddr P T.p a 1) fun D w=>Q1 f true w (Q2 P T.e D) fun H w=>Q1 f true w (fieldAddr P T.p a 0) fun h w=>Q1 f true w (Q2 P T.e h) fun t w=>Q1 f true w (Q3 P .gtr T.e (.tmp 9) (.tmp 11) H t) fun o w=>pick P f o (.bool false) w fun c w=>Q1 c true w (fieldAddr P T.p a 1) fun p w=>Q1 c true w (Q2 P T.e p) fun k w=>Q1 c true w (Q2 P T.e A) fun y w=>Q1 c true w (Q3 P .leq T.e (.tmp 16) (.tmp 17) k y) fun j w=>pick P c j (.bool false) w fun d w=>Q1 d true w (fieldAddr P T.p a 2) fun n w=>Q1 d true w (Q2 P T.e n) fun m w=>Q1 d true w (Q3 P .geq T.e (.tmp 22) (.const (.int .i64 0)) m (.int .i64 0)) fun z w=>pick P d z (.bool false) w fun b w=>Q1 b true w (fieldAddr P T.p a 2) fun g w=>Q1 b true w (Q2 P T.e g) fun i w=>Q1 b true w (Q2 P T.e A) fun q w=>Q1 b true w (Q3 P .lss T.e (.tmp 27) (.tmp 28) i q) fun v w=>pick P b v (.bool false) w fun e w=>Q1 e true w (fieldAddr P T.p a 3) fun r w=>Q1 e true w (Q2 P T.b r) fun u w=>Q1 e true w (Q0 P F.ah [u]) fun l w=>pick P e l (.bool false) w fun s w=>K s w
theorem Q1n {a b:Value} {w:World} {K:Value→World→Prop} (h:Ea a b w K):Q0 P F.b4 [a,b] w K:=Q9 (List.replicate 2 none) Tryz.func195 rfl (by decide) (by kernel_rfl) h
def Qz:V4:=[none,none,none,some ([8],[4,5,8,9,10,11,12,13,14,15,16,17,18]),none,none,none,none,none,none,none]
def R9 (g h:Value) (w:World) (K:Value→World→Prop):Prop:= X5 P .len [T.l] T.e [false] [g] w fun j w=>lp (α:=Value) (.int .i64 0) w fun a b k w=>Q3 P .lss T.e (.tmp 8) (.tmp 7) b j w fun i w=>X1 i (indexAddr P T.l g b w fun e w=>Q2 P T.n e w fun d w=>Z2 P h [d] w fun f w=>X1 f (K b w) (Q3 P .add T.e (.tmp 8) (.const (.int .i64 1)) b (.int .i64 1) w fun c w=>a c w)) (K (.int .i64 (-1)) w)
theorem Qx {a b:Value} {w:World} {K:Value→World→Prop} (h:R9 a b w K):Q0 P F.a0 [a,b] w K:=Q9 Qz Tryz.func224 rfl (by decide) (by kernel_rfl) h
def H6 (a b:Value) (w:World) (K:Value→World→Prop):Prop:= Q0 P F.a0 [a,b] w fun d w=>Q3 P .geq T.e (.tmp 7) (.const (.int .i64 0)) d (.int .i64 0) w fun c w=>K c w
theorem T4 {a b:Value} {w:World} {K:Value→World→Prop} (h:H6 a b w K):Q0 P F.l [a,b] w K:=Q9 (List.replicate 2 none) Tryz.func213 rfl (by decide) (by kernel_rfl) h
def Yh (c e:Value) (w:World) (K:Value→World→Prop):Prop:= box P T.n c w fun a w=>Q2 P T.ab e w fun f w=>Q2 P T.n a w fun b w=>Z2 P f [b] w fun d w=>Z8 P .not d w fun g w=>K g w
theorem Dj {a b:Value} {w:World} {K:Value→World→Prop} (h:Yh a b w K):Q0 P F.bF [a,b] w K:=Q9 (List.replicate 2 none) Tryz.func214 rfl (by decide) (by kernel_rfl) h
def Jd (b c:Value) (w:World) (K:Value→World→Prop):Prop:= box P T.ab c w fun a w=>M7 P (.func F.bF) [] [a] w fun d w=>Q0 P F.l [b,d] w fun f w=>Z8 P .not f w fun e w=>K e w
theorem Hu {a b:Value} {w:World} {K:Value→World→Prop} (h:Jd a b w K):Q0 P F.ar [a,b] w K:=Q9 (List.replicate 2 none) Tryz.func196 rfl (by decide) (by kernel_rfl) h
def Zf:V4:=[none,none,none,some ([8],[4,5,8,9,10,11,12,13,14,15,16,17,18]),none,none,none,none,none,none,none]
def B8 (g h:Value) (w:World) (K:Value→World→Prop):Prop:= X5 P .len [T.aj] T.e [false] [g] w fun j w=>lp (α:=Value) (.int .i64 0) w fun a b k w=>Q3 P .lss T.e (.tmp 8) (.tmp 7) b j w fun i w=>X1 i (indexAddr P T.aj g b w fun e w=>Q2 P T.a6 e w fun d w=>Z2 P h [d] w fun f w=>X1 f (K b w) (Q3 P .add T.e (.tmp 8) (.const (.int .i64 1)) b (.int .i64 1) w fun c w=>a c w)) (K (.int .i64 (-1)) w)
theorem Zn {a b:Value} {w:World} {K:Value→World→Prop} (h:B8 a b w K):Q0 P F.s [a,b] w K:=Q9 Zf Tryz.func236 rfl (by decide) (by kernel_rfl) h
def Ij (c d:Value) (w:World) (K:Value→World→Prop):Prop:= box P T.a6 c w fun a w=>fieldAddr P T.a6 a 0 w fun f w=>Q2 P T.b f w fun b w=>Q2 P T.b d w fun e w=>Q3 P .eql T.b (.tmp 5) (.tmp 6) b e w fun g w=>K g w
theorem Q3A {a b:Value} {w:World} {K:Value→World→Prop} (h:Ij a b w K):Q0 P F.cN [a,b] w K:=Q9 (List.replicate 2 none) Tryz.func237 rfl (by decide) (by kernel_rfl) h
def Q0K (d:Value) (w:World) (K:Value→World→Prop):Prop:= box P T.b d w fun a w=>H7 P T.a8 (.pointer (some ⟨G.a,0,none⟩)) none none none w fun b w=>M7 P (.func F.cN) [] [a] w fun e w=>Q0 P F.s [b,e] w fun c w=>K c w
theorem Q5G {a:Value} {w:World} {K:Value→World→Prop} (h:Q0K a w K):Q0 P F.cF [a] w K:=Q9 (List.replicate 2 none) Tryz.func225 rfl (by decide) (by kernel_rfl) h
def Po (p:Value) (w:World) (K:Value→World→Prop):Prop:= Q0 P F.cF [p] w fun o w=>Q3 P .lss T.e (.tmp 8) (.const (.int .i64 0)) o (.int .i64 0) w fun q w=>X1 q (K (.tuple #[(.bool false),(.bool false),(.bool false)]) w) (dr w fun a l=>Q7 a (fun b=> ∀w,l w→indexAddr P T.a8 (.pointer (some ⟨G.a,0,none⟩)) o w (dk a b w)) fun b=>Q7 a (fun i=> ∀h w,l w→b h w→fieldAddr P T.a6 h 1 w (dk a i w)) fun i=>Q7 a (fun c=> ∀w,l w→indexAddr P T.a8 (.pointer (some ⟨G.a,0,none⟩)) o w (dk a c w)) fun c=>Q7 a (fun d=> ∀f w,l w→c f w→fieldAddr P T.a6 f 2 w (dk a d w)) fun d=>Q7 a (fun j=> ∀g w,l w→i g w→Q2 P T.m g w (dk a j w)) fun j=>Q7 a (fun k=> ∀e w,l w→d e w→Q2 P T.m e w (dk a k w)) fun k=>∀h g f e m n w,l w→b h w→i g w→c f w→d e w→j m w→k n w→ K (.tuple #[m,n,(.bool true)]) w)
theorem Q4S {a:Value} {w:World} {K:Value→World→Prop} (h:Po a w K):Q0 P F.bY [a] w K:=Q9 (List.replicate 6 none) Tryz.func215 rfl (by decide) (by kernel_rfl) h
def Jl (a b:Value) (w:World) (K:Value→World→Prop):Prop:= Q0 P F.bH [a,b] w fun c w=>K c w
theorem Ht {a b:Value} {w:World} {K:Value→World→Prop} (h:Jl a b w K):Q0 P F.av [a,b] w K:=Q9 (List.replicate 2 none) Tryz.func223 rfl (by decide) (by kernel_rfl) h
def Ki:V4:=[none,none,none,none,none,none,none,none,none,none,none,none,none,none,none,none,none,some ([8,10],[4,8,10,11,12,13,57,58,59,60,61,62,63,64,65,66,67,68,69,70,71,72,73,74,75,76,77,78,79,80,81,82,83,84,85,86,87,88,89,90,91,92,93,94,95,96,97,98,99,100,101,102,103,104,105,106,107,108,109,110,111,112,113,114,115,116,117,118,119,120,121,122,123,124,125,126,127,128,129,130,131,132,133,134,135,136,137,138,139,140,141,142]),none,none,some ([8],[4,8,11,60,61,62,63,64,65,66,67,68,69,70,71,72,73,74,75,76,77]),none,none,none,none,none,none,none,none,none,none,none,none,none,none,none,none,none,none,none,none,none,none,none]
def Mu (h k:Value) (w:World) (K:Value→World→Prop):Prop:= X5 P .len [T.b] T.e [false] [k] w fun e w=>Q3 P .eql T.e (.tmp 17) (.const (.int .i64 0)) e (.int .i64 0) w fun m w=>Q1 m false w (fun w J=>J k w) fun ao w=>Q1 m false w (fun w J=>J h w) fun a2 w=>Q1 m false w (Q3 P .eql T.b (.tmp 20) (.tmp 21) ao a2) fun ah w=>pick P m (.bool true) ah w fun bf w=>X1 bf (K (.int .i64 0) w) (Q3 P .eql T.e (.tmp 25) (.const (.int .i64 1)) e (.int .i64 1) w fun aa w=>X1 aa (E5 P T.b k (.int .i64 0) w fun al w=>Q0 P F.av [h,al] w fun a5 w=>K a5 w) (X5 P .len [T.b] T.e [false] [h] w fun ag w=>Q3 P .geq T.e (.tmp 32) (.tmp 34) e ag w fun aj w=>X1 aj (K (.int .i64 (-1)) w) (Q2 P T.e (.pointer (some ⟨G.c,0,none⟩)) w fun az w=>Q3 P .leq T.e (.tmp 37) (.tmp 38) e az w fun l w=>Q1 l true w (fun w J=>J h w) fun ar w=>Q1 l true w (X5 P .len [T.b] T.e [false] [ar]) fun ap w=>Q1 l true w (Q3 P .leq T.e (.tmp 42) (.const (.int .i64 64)) ap (.int .i64 64)) fun av w=>pick P l av (.bool false) w fun aq w=>X1 aq (Q0 P F.c5 [h,k] w fun a6 w=>K a6 w) (E5 P T.b k (.int .i64 0) w fun C w=>E5 P T.b k (.int .i64 1) w fun am w=>X5 P .len [T.b] T.e [false] [h] w fun ax w=>Q3 P .sub T.e (.tmp 53) (.tmp 54) ax e w fun ba w=>Q3 P .add T.e (.tmp 55) (.const (.int .i64 1)) ba (.int .i64 1) w fun q w=>lp (α:=Value×Value) ((.int .i64 0),(.int .i64 0)) w fun i g d_ w=>Q3 P .lss T.e (.tmp 57) (.tmp 58) g.1 q w fun ay w=>X1 ay (jn (α:=Value) w (fun Z w=>E5 P T.b h g.1 w fun bc w=>Q3 P .neq T.w (.tmp 62) (.tmp 63) bc C w fun bb w=>X1 bb (Q3 P .add T.e (.tmp 66) (.const (.int .i64 1)) g.1 (.int .i64 1) w fun af w=>H7 P T.b h (some af) (some q) none w fun ac w=>Q0 P F.av [ac,C] w fun A w=>Q3 P .lss T.e (.tmp 72) (.const (.int .i64 0)) A (.int .i64 0) w fun a4 w=>X1 a4 (K (.int .i64 (-1)) w) (Q3 P .add T.e (.tmp 75) (.const (.int .i64 1)) A (.int .i64 1) w fun a3 w=>Q3 P .add T.e (.tmp 74) (.tmp 76) g.1 a3 w fun a7 w=>Z a7 w)) (Z g.1 w)) fun j d_ w=>Q3 P .add T.e (.tmp 79) (.const (.int .i64 1)) j (.int .i64 1) w fun an w=>E5 P T.b h an w fun ad w=>Q3 P .eql T.w (.tmp 81) (.tmp 82) ad am w fun b w=>Q1 b true w (fun w J=>J h w) fun a9 w=>Q1 b true w (fun w J=>J j w) fun ai w=>Q1 b true w (fun w J=>J j w) fun ae w=>Q1 b true w (fun w J=>J e w) fun a8 w=>Q1 b true w (Q3 P .add T.e (.tmp 87) (.tmp 88) ae a8) fun be w=>Q1 b true w (H7 P T.b a9 (some ai) (some be) none) fun ab w=>Q1 b true w (fun w J=>J k w) fun aw w=>Q1 b true w (Q3 P .eql T.b (.tmp 90) (.tmp 91) ab aw) fun ak w=>pick P b ak (.bool false) w fun bd w=>X1 bd (K j w) (Q3 P .add T.e (.tmp 95) (.const (.int .i64 1)) j (.int .i64 1) w fun d w=>Q3 P .add T.e (.tmp 97) (.const (.int .i64 1)) g.2 (.int .i64 1) w fun p w=>Q2 P T.e (.pointer (some ⟨G.c,0,none⟩)) w fun X w=>Q3 P .leq T.e (.tmp 99) (.tmp 100) e X w fun c w=>Q1 c true w (fun w J=>J p w) fun E w=>Q1 c true w (fun w J=>J d w) fun W w=>Q1 c true w (Q0 P F.cR [W]) fun u w=>Q1 c true w (Q3 P .gtr T.e (.tmp 103) (.tmp 105) E u) fun z w=>pick P c z (.bool false) w fun N w=>X1 N (H7 P T.b h (some d) none none w fun s w=>Q0 P F.c5 [s,k] w fun o w=>Q3 P .geq T.e (.tmp 113) (.const (.int .i64 0)) o (.int .i64 0) w fun Y w=>X1 Y (Q3 P .add T.e (.tmp 115) (.tmp 116) o d w fun Q w=>K Q w) (K (.int .i64 (-1)) w)) (Q2 P T.e (.pointer (some ⟨G.c,0,none⟩)) w fun y w=>Q3 P .gtr T.e (.tmp 118) (.tmp 119) e y w fun a w=>Q1 a true w (fun w J=>J p w) fun v w=>Q1 a true w (fun w J=>J d w) fun D w=>Q1 a true w (Q3 P .shr T.e (.tmp 123) (.const (.int .u64 4)) D (.int .u64 4)) fun V w=>Q1 a true w (Q3 P .add T.e (.const (.int .i64 4)) (.tmp 124) (.int .i64 4) V) fun M w=>Q1 a true w (Q3 P .geq T.e (.tmp 122) (.tmp 125) v M) fun R w=>pick P a R (.bool false) w fun f w=>Q1 f true w (fun w J=>J d w) fun L w=>Q1 f true w (fun w J=>J q w) fun t w=>Q1 f true w (Q3 P .lss T.e (.tmp 129) (.tmp 130) L t) fun U w=>pick P f U (.bool false) w fun H w=>X1 H (H7 P T.b h (some d) none none w fun O w=>Q0 P F.cA [O,k] w fun n w=>Q3 P .lss T.e (.tmp 138) (.const (.int .i64 0)) n (.int .i64 0) w fun B w=>X1 B (K (.int .i64 (-1)) w) (Q3 P .add T.e (.tmp 140) (.tmp 141) d n w fun r w=>K r w)) (i (d,p) w)))) (K (.int .i64 (-1)) w)))))
theorem Kb {a b:Value} {w:World} {K:Value→World→Prop} (h:Mu a b w K):Q0 P F.bs [a,b] w K:=Q9 Ki Tryz.func222 rfl (by decide) (by kernel_rfl) h
def Ov (l n:Value) (w:World) (K:Value→World→Prop):Prop:= Q0 P F.bs [l,n] w fun f w=>Q3 P .geq T.e (.tmp 11) (.const (.int .i64 0)) f (.int .i64 0) w fun m w=>X1 m (dr w fun e i=>Q7 e (fun g=> ∀w,i w→H7 P T.b l none (some f) none w (dk e g w)) fun g=>Q7 e (fun b=> ∀w,i w→X5 P .len [T.b] T.e [false] [n] w (dk e b w)) fun b=>Q7 e (fun c=> ∀a w,i w→b a w→Q3 P .add T.e (.tmp 17) (.tmp 19) f a w (dk e c w)) fun c=>Q7 e (fun h=> ∀d w,i w→c d w→H7 P T.b l (some d) none none w (dk e h w)) fun h=>∀j a d k w,i w→g j w→b a w→c d w→h k w→ K (.tuple #[j,k,(.bool true)]) w) (K (.tuple #[l,(.string ⟨#[]⟩),(.bool false)]) w)
theorem Q0y {a b:Value} {w:World} {K:Value→World→Prop} (h:Ov a b w K):Q0 P F.cz [a,b] w K:=Q9 (List.replicate 6 none) Tryz.func207 rfl (by decide) (by kernel_rfl) h
def Ii (e f:Value) (w:World) (K:Value→World→Prop):Prop:= Q0 P F.cz [e,f] w fun c w=>ext P c 0 w fun a w=>ext P c 1 w fun d w=>ext P c 2 w fun b w=>K (.tuple #[a,d,b]) w
theorem Q3x {a b:Value} {w:World} {K:Value→World→Prop} (h:Ii a b w K):Q0 P F.cg [a,b] w K:=Q9 (List.replicate 2 none) Tryz.func178 rfl (by decide) (by kernel_rfl) h
def Pp (t:Value) (w:World) (K:Value→World→Prop):Prop:= Q0 P F.cg [t,(.string ⟨#[46]⟩)] w fun d w=>ext P d 0 w fun f w=>ext P d 1 w fun e w=>ext P d 2 w fun q w=>Z8 P .not q w fun b w=>Q1 b false w (fun w J=>J f w) fun r w=>Q1 b false w (Q0 P F.ah [r]) fun j w=>Q1 b false w (Z8 P .not j) fun i w=>pick P b (.bool true) i w fun c w=>Q1 c false w (fun w J=>J e w) fun k w=>Q1 c false w (Q0 P F.bJ [k]) fun s w=>Q1 c false w (Z8 P .not s) fun o w=>pick P c (.bool true) o w fun a w=>Q1 a false w (fun w J=>J e w) fun h w=>Q1 a false w (E5 P T.b h (.int .i64 0)) fun m w=>Q1 a false w (conv P T.w T.af m) fun p w=>Q1 a false w (Q0 P F.bW [p]) fun l w=>Q1 a false w (Z8 P .not l) fun g w=>pick P a (.bool true) g w fun n w=>X1 n (K (.tuple #[(.string ⟨#[]⟩),(.string ⟨#[]⟩),(.int .i64 30)]) w) (K (.tuple #[f,e,(.int .i64 0)]) w)
theorem Q53 {a:Value} {w:World} {K:Value→World→Prop} (h:Pp a w K):Q0 P F.cx [a] w K:=Q9 (List.replicate 6 none) Tryz.func130 rfl (by decide) (by kernel_rfl) h
end Go.Proofs.YtfppjenblllfaaaGreatDoor

set_option maxRecDepth 100000
namespace Go.Proofs.YtfppjenblllfaaaGreatDoor
open Go.Emb
def Q0E (c:Value) (w:World) (K:Value→World→Prop):Prop:= Q0 P F.c8 [c] w fun d w=>ext P d 0 w fun f w=>ext P d 1 w fun e w=>Q0 P F.a3 [c] w fun b w=>Z8 P .not b w fun a w=>X1 a (K (.int .i64 0) w) (K e w)
theorem Q5T {a:Value} {w:World} {K:Value→World→Prop} (h:Q0E a w K):Q0 P F.cG [a] w K:=Q9 (List.replicate 6 none) Tryz.func228 rfl (by decide) (by kernel_rfl) h
def Q5K:V4:=[none,none,none,none,none,none,none,some ([27],[27,28,29]),none,none,none,none,none,none]
def Q0R (g b:Value) (w:World) (K:Value→World→Prop):Prop:= Q3 P .eql T.b (.tmp 8) (.const (.string ⟨#[119,111,114,100]⟩)) g (.string ⟨#[119,111,114,100]⟩) w fun k w=>X1 k (X5 P .len [T.b] T.e [false] [b] w fun u w=>Q3 P .leq T.e (.tmp 12) (.const (.int .i64 64)) u (.int .i64 64) w fun f w=>Q1 f true w (fun w J=>J b w) fun v w=>Q1 f true w (Q0 P F.bB [v]) fun q w=>pick P f q (.bool false) w fun d w=>Q1 d true w (fun w J=>J b w) fun n w=>Q1 d true w (Q0 P F.cq [n,(.string ⟨#[10]⟩)]) fun E w=>Q1 d true w (Z8 P .not E) fun t w=>pick P d t (.bool false) w fun s w=>K s w) (Q3 P .eql T.b (.tmp 8) (.const (.string ⟨#[110,101,119]⟩)) g (.string ⟨#[110,101,119]⟩) w fun B w=>X1 B (Q0 P F.ah [b] w fun j w=>K j w) (jn (α:=Value) w (fun L w=>Q3 P .eql T.b (.tmp 8) (.const (.string ⟨#[105,115]⟩)) g (.string ⟨#[105,115]⟩) w fun h w=>X1 h (L h w) (Q3 P .eql T.b (.tmp 8) (.const (.string ⟨#[99,97,115,116]⟩)) g (.string ⟨#[99,97,115,116]⟩) w fun C w=>L C w)) fun M Q w=>X1 M (Q0 P F.a3 [b] w fun a w=>Q1 a true w (fun w J=>J b w) fun A w=>Q1 a true w (Q0 P F.af [A]) fun r w=>Q1 a true w (Z8 P .not r) fun z w=>pick P a z (.bool false) w fun y w=>K y w) (Q3 P .eql T.b (.tmp 8) (.const (.string ⟨#[97,114,114,97,121]⟩)) g (.string ⟨#[97,114,114,97,121]⟩) w fun o w=>X1 o (Q0 P F.a3 [b] w fun c w=>Q1 c true w (fun w J=>J b w) fun H w=>Q1 c true w (Q0 P F.cG [H]) fun l w=>Q1 c true w (Q3 P .lss T.e (.tmp 43) (.const (.int .i64 3)) l (.int .i64 3)) fun i w=>pick P c i (.bool false) w fun p w=>K p w) (Q0 P F.cx [b] w fun e w=>ext P e 0 w fun O w=>ext P e 1 w fun N w=>ext P e 2 w fun D w=>Q3 P .eql T.s (.tmp 52) (.const (.int .i64 0)) D (.int .i64 0) w fun m w=>K m w))))
theorem Q5H {a b:Value} {w:World} {K:Value→World→Prop} (h:Q0R a b w K):Q0 P F.cE [a,b] w K:=Q9 Q5K Tryz.func216 rfl (by decide) (by kernel_rfl) h
def Q3V:V4:=[none,none,none,none,none,some ([16],[16,17,18,19,20,21,22,23,24,25,26,27,28,29,30,31,32,33,34,35,36,37,38,39]),none,none,none,none]
def Tp (B:Value) (w:World) (K:Value→World→Prop):Prop:= box P T.n B w fun a w=>fieldAddr P T.n a 0 w fun C w=>Q2 P T.b C w fun A w=>Q0 P F.bY [A] w fun u w=>ext P u 0 w fun g w=>ext P u 1 w fun b w=>ext P u 2 w fun p w=>Z8 P .not p w fun q w=>X1 q (K (.int .i64 40) w) (jn (α:=Value) w (fun k w=>Z8 P .not g w fun d w=>Q1 d true w (fieldAddr P T.n a 1) fun z w=>Q1 d true w (Q2 P T.al z) fun o w=>Q1 d true w (Q3 P .neq T.al (.tmp 21) (.const (.int .i64 0)) o (.int .i64 0)) fun n w=>pick P d n (.bool false) w fun f w=>X1 f (k f w) (Z8 P .not b w fun c w=>Q1 c true w (fieldAddr P T.n a 2) fun h w=>Q1 c true w (Q2 P T.b h) fun s w=>Q1 c true w (Q3 P .neq T.b (.tmp 28) (.const (.string ⟨#[]⟩)) s (.string ⟨#[]⟩)) fun y w=>pick P c y (.bool false) w fun e w=>X1 e (k e w) (Q1 b true w (fieldAddr P T.n a 0) fun v w=>Q1 b true w (Q2 P T.b v) fun m w=>Q1 b true w (fieldAddr P T.n a 2) fun t w=>Q1 b true w (Q2 P T.b t) fun r w=>Q1 b true w (Q0 P F.cE [m,r]) fun l w=>Q1 b true w (Z8 P .not l) fun j w=>pick P b j (.bool false) w fun i w=>k i w))) fun D E w=>X1 D (K (.int .i64 41) w) (K (.int .i64 0) w))
theorem Q4l {a:Value} {w:World} {K:Value→World→Prop} (h:Tp a w K):Q0 P F.cy [a] w K:=Q9 Q3V Tryz.func198 rfl (by decide) (by kernel_rfl) h
def Hb (d:Value) (w:World) (K:Value→World→Prop):Prop:= box P T.n d w fun a w=>Q2 P T.n a w fun b w=>Q0 P F.cy [b] w fun e w=>Q3 P .eql T.s (.tmp 4) (.const (.int .i64 0)) e (.int .i64 0) w fun c w=>K c w
theorem Q17 {a:Value} {w:World} {K:Value→World→Prop} (h:Hb a w K):Q0 P F.b5 [a] w K:=Q9 (List.replicate 2 none) Tryz.func197 rfl (by decide) (by kernel_rfl) h
def Xk:V4:=[none,none,none,some ([8],[4,5,8,9,10,11,12,13,14,15,16,17,18]),none,none,none,none,none,none,none]
def C1 (g h:Value) (w:World) (K:Value→World→Prop):Prop:= X5 P .len [T.o] T.e [false] [g] w fun j w=>lp (α:=Value) (.int .i64 0) w fun a b k w=>Q3 P .lss T.e (.tmp 8) (.tmp 7) b j w fun i w=>X1 i (indexAddr P T.o g b w fun e w=>Q2 P T.p e w fun d w=>Z2 P h [d] w fun f w=>X1 f (K b w) (Q3 P .add T.e (.tmp 8) (.const (.int .i64 1)) b (.int .i64 1) w fun c w=>a c w)) (K (.int .i64 (-1)) w)
theorem Xg {a b:Value} {w:World} {K:Value→World→Prop} (h:C1 a b w K):Q0 P F.a1 [a,b] w K:=Q9 Xk Tryz.func229 rfl (by decide) (by kernel_rfl) h
def H4 (a b:Value) (w:World) (K:Value→World→Prop):Prop:= Q0 P F.a1 [a,b] w fun d w=>Q3 P .geq T.e (.tmp 7) (.const (.int .i64 0)) d (.int .i64 0) w fun c w=>K c w
theorem T6 {a b:Value} {w:World} {K:Value→World→Prop} (h:H4 a b w K):Q0 P F.m [a,b] w K:=Q9 (List.replicate 2 none) Tryz.func217 rfl (by decide) (by kernel_rfl) h
def Yc (c e:Value) (w:World) (K:Value→World→Prop):Prop:= box P T.p c w fun a w=>Q2 P T.aa e w fun f w=>Q2 P T.p a w fun b w=>Z2 P f [b] w fun d w=>Z8 P .not d w fun g w=>K g w
theorem Dc {a b:Value} {w:World} {K:Value→World→Prop} (h:Yc a b w K):Q0 P F.bG [a,b] w K:=Q9 (List.replicate 2 none) Tryz.func218 rfl (by decide) (by kernel_rfl) h
def Jf (b c:Value) (w:World) (K:Value→World→Prop):Prop:= box P T.aa c w fun a w=>M7 P (.func F.bG) [] [a] w fun d w=>Q0 P F.m [b,d] w fun f w=>Z8 P .not f w fun e w=>K e w
theorem Hp {a b:Value} {w:World} {K:Value→World→Prop} (h:Jf a b w K):Q0 P F.au [a,b] w K:=Q9 (List.replicate 2 none) Tryz.func199 rfl (by decide) (by kernel_rfl) h
def Cj (a0:Value) (w:World) (K:Value→World→Prop):Prop:= box P T.d a0 w fun b w=>fieldAddr P T.d b 0 w fun t5 w=>Q2 P T.b t5 w fun t6 w=>Q0 P F.bz [t6] w fun t7 w=>Z8 P .not t7 w fun i w=>Q1 i false w (fieldAddr P T.d b 1) fun m w=>Q1 i false w (Q2 P T.c m) fun aa w=>Q1 i false w (Q0 P F.a5 [aa,(.func (.func F.a3) #[] #[])]) fun O w=>Q1 i false w (Z8 P .not O) fun af w=>pick P i (.bool true) af w fun c w=>Q1 c false w (fieldAddr P T.d b 2) fun D w=>Q1 c false w (Q2 P T.b D) fun ag w=>Q1 c false w (Q3 P .neq T.b (.tmp 17) (.const (.string ⟨#[]⟩)) ag (.string ⟨#[]⟩)) fun u w=>Q1 c false w (fun w J=>J u w) fun d w=>Q1 d true w (fieldAddr P T.d b 2) fun aj w=>Q1 d true w (Q2 P T.b aj) fun N w=>Q1 d true w (Q0 P F.a3 [N]) fun L w=>Q1 d true w (Z8 P .not L) fun am w=>Q1 c false w (pick P d am (.bool false)) fun ad w=>pick P c (.bool true) ad w fun q w=>X1 q (K (.bool false) w) (fieldAddr P T.d b 3 w fun l w=>Q2 P T.m l w fun r w=>X1 r (fieldAddr P T.d b 4 w fun R w=>Q2 P T.e R w fun ae w=>Q3 P .eql T.e (.tmp 29) (.const (.int .i64 0)) ae (.int .i64 0) w fun e w=>Q1 e true w (fieldAddr P T.d b 5) fun U w=>Q1 e true w (Q2 P T.l U) fun ac w=>Q1 e true w (X5 P .len [T.l] T.e [false] [ac]) fun H w=>Q1 e true w (Q3 P .eql T.e (.tmp 34) (.const (.int .i64 0)) H (.int .i64 0)) fun W w=>pick P e W (.bool false) w fun f w=>Q1 f true w (fieldAddr P T.d b 6) fun v w=>Q1 f true w (Q2 P T.o v) fun y w=>Q1 f true w (X5 P .len [T.o] T.e [false] [y]) fun V w=>Q1 f true w (Q3 P .eql T.e (.tmp 40) (.const (.int .i64 0)) V (.int .i64 0)) fun j w=>pick P f j (.bool false) w fun al w=>K al w) (fieldAddr P T.d b 5 w fun n w=>Q2 P T.l n w fun k w=>X5 P .len [T.l] T.e [false] [k] w fun B w=>W4 P T.e w fun z w=>Z0 P T.e z B w fun _u w=>M7 P (.func F.b4) [] [z] w fun ah w=>Q2 P T.e z w fun Q w=>Q3 P .gtr T.e (.tmp 47) (.const (.int .i64 0)) Q (.int .i64 0) w fun a w=>Q1 a true w (fieldAddr P T.d b 4) fun M w=>Q1 a true w (Q2 P T.e M) fun ai w=>Q1 a true w (fieldAddr P T.d b 1) fun X w=>Q1 a true w (Q2 P T.c X) fun o w=>Q1 a true w (X5 P .len [T.c] T.e [false] [o]) fun Z w=>Q1 a true w (Q3 P .gtr T.e (.tmp 51) (.tmp 54) ai Z) fun Y w=>pick P a Y (.bool false) w fun h w=>Q1 h true w (fieldAddr P T.d b 5) fun C w=>Q1 h true w (Q2 P T.l C) fun p w=>Q1 h true w (Q0 P F.ar [p,(.func (.func F.b5) #[] #[])]) fun t w=>pick P h t (.bool false) w fun g w=>Q1 g true w (fieldAddr P T.d b 6) fun ak w=>Q1 g true w (Q2 P T.o ak) fun ab w=>Q1 g true w (fun w J=>J ah w) fun E w=>Q1 g true w (Q0 P F.au [ab,E]) fun s w=>pick P g s (.bool false) w fun A w=>K A w))
theorem Q2l {a:Value} {w:World} {K:Value→World→Prop} (h:Cj a w K):Q0 P F.aX [a] w K:=Q9 (List.replicate 10 none) Tryz.func156 rfl (by decide) (by kernel_rfl) h
def Ie (a0:Value) (w:World) (K:Value→World→Prop):Prop:= box P T.a a0 w fun b w=>fieldAddr P T.a b 0 w fun t7 w=>Q2 P T.b t7 w fun t8 w=>fieldAddr P T.a b 1 w fun t9 w=>Q2 P T.b t9 w fun y w=>buildSlice P T.c 2 [(0,t8),(1,y)] w fun ae w=>fieldAddr P T.a b 2 w fun X w=>Q2 P T.c X w fun ag w=>X5 P .append [T.c,T.c] T.c [false,false] [ae,ag] w fun p w=>dr w fun o u=>Q7 o (fun l=> ∀w,u w→H7 P T.c p (some (.int .i64 1)) none none w (dk o l w)) fun l=>Q7 o (fun j=> ∀w,u w→fieldAddr P T.a b 0 w (dk o j w)) fun j=>Q7 o (fun m=> ∀i w,u w→j i w→Q2 P T.b i w (dk o m w)) fun m=>∀t i s w,u w→l t w→j i w→m s w→ Q0 P F.ad [t,s] w fun av w=>fieldAddr P T.a b 7 w fun ak w=>Q2 P T.g ak w fun az w=>Q0 P F.a [az,(.func (.func F.bZ) #[] #[])] w fun U w=>fieldAddr P T.a b 7 w fun bd w=>Q2 P T.g bd w fun ba w=>Q0 P F.a [ba,(.func (.func F.c0) #[] #[])] w fun A w=>Q0 P F.a5 [p,(.func (.func F.ah) #[] #[])] w fun a4 w=>Z8 P .not a4 w fun r w=>Q1 r false w (fun w J=>J av w) fun z w=>pick P r (.bool true) z w fun c w=>Q1 c false w (fieldAddr P T.a b 2) fun R w=>Q1 c false w (Q2 P T.c R) fun aa w=>Q1 c false w (Q0 P F.aK [aa,(.func (.func F.c1) #[] #[])]) fun Y w=>Q1 c false w (Z8 P .not Y) fun ay w=>pick P c (.bool true) ay w fun aw w=>X1 aw (K (.bool false) w) (fieldAddr P T.a b 3 w fun a5 w=>Q2 P T.m a5 w fun a w=>Q1 a true w (fieldAddr P T.a b 4) fun am w=>Q1 a true w (Q2 P T.m am) fun al w=>Q1 a true w (Z8 P .not al) fun O w=>Q1 a true w (fun w J=>J O w) fun h w=>Q1 h false w (fieldAddr P T.a b 1) fun a2 w=>Q1 h false w (Q2 P T.b a2) fun v w=>Q1 h false w (Q3 P .neq T.b (.tmp 48) (.const (.string ⟨#[79,98,106,101,99,116]⟩)) v (.string ⟨#[79,98,106,101,99,116]⟩)) fun ah w=>Q1 a true w (pick P h (.bool true) ah) fun V w=>Q1 a true w (fun w J=>J V w) fun e w=>Q1 e false w (fieldAddr P T.a b 6) fun ab w=>Q1 e false w (Q2 P T.i ab) fun ao w=>Q1 e false w (X5 P .len [T.i] T.e [false] [ao]) fun a9 w=>Q1 e false w (Q3 P .gtr T.e (.tmp 54) (.const (.int .i64 0)) a9 (.int .i64 0)) fun a8 w=>Q1 a true w (pick P e (.bool true) a8) fun ar w=>Q1 a true w (fun w J=>J ar w) fun q w=>Q1 q false w (fun w J=>J A w) fun Q w=>Q1 a true w (pick P q (.bool true) Q) fun ap w=>pick P a ap (.bool false) w fun D w=>X1 D (K (.bool false) w) (fieldAddr P T.a b 4 w fun bb w=>Q2 P T.m bb w fun n w=>Q1 n true w (fieldAddr P T.a b 5) fun ax w=>Q1 n true w (Q2 P T.m ax) fun B w=>pick P n B (.bool false) w fun g w=>Q1 g false w (fun w J=>J U w) fun M w=>Q1 g false w (fun w J=>J M w) fun f w=>Q1 f true w (fieldAddr P T.a b 4) fun ac w=>Q1 f true w (Q2 P T.m ac) fun aq w=>Q1 f true w (Z8 P .not aq) fun a1 w=>Q1 g false w (pick P f a1 (.bool false)) fun H w=>pick P g (.bool true) H w fun C w=>X1 C (K (.bool false) w) (fieldAddr P T.a b 6 w fun a3 w=>Q2 P T.i a3 w fun E w=>Q0 P F.az [E,(.func (.func F.c2) #[] #[])] w fun L w=>Z8 P .not L w fun d w=>Q1 d false w (fieldAddr P T.a b 7) fun aj w=>Q1 d false w (Q2 P T.g aj) fun af w=>Q1 d false w (Q0 P F.ao [af,(.func (.func F.c3) #[] #[])]) fun ai w=>Q1 d false w (Z8 P .not ai) fun a7 w=>pick P d (.bool true) a7 w fun W w=>X1 W (K (.bool false) w) (fieldAddr P T.a b 6 w fun N w=>Q2 P T.i N w fun a6 w=>Q0 P F.ap [a6,(.func (.func F.bm) #[] #[])] w fun k w=>Q1 k true w (fieldAddr P T.a b 7) fun an w=>Q1 k true w (Q2 P T.g an) fun ad w=>Q1 k true w (Q0 P F.al [ad,(.func (.func F.aX) #[] #[])]) fun bc w=>pick P k bc (.bool false) w fun Z w=>K Z w))))
theorem Q3H {a:Value} {w:World} {K:Value→World→Prop} (h:Ie a w K):Q0 P F.cf [a] w K:=Q9 (List.replicate 15 none) Tryz.func95 rfl (by decide) (by kernel_rfl) h
def Ig (c:Value) (w:World) (K:Value→World→Prop):Prop:= box P T.a c w fun a w=>Q2 P T.a a w fun d w=>Q0 P F.cw [d] w fun b w=>X1 b (K (.int .i64 51) w) (Q2 P T.a a w fun g w=>Q0 P F.cf [g] w fun f w=>Z8 P .not f w fun e w=>X1 e (K (.int .i64 50) w) (K (.int .i64 0) w))
theorem Q3D {a:Value} {w:World} {K:Value→World→Prop} (h:Ig a w K):Q0 P F.cd [a] w K:=Q9 (List.replicate 7 none) Tryz.func45 rfl (by decide) (by kernel_rfl) h
def R5 (a:Value) (w:World) (K:Value→World→Prop):Prop:= Q3 P .eql T.c (.tmp 3) (.const (.slice none 0 0)) a (.slice none 0 0) w fun c w=>X1 c (K (.slice none 0 0) w) (buildSlice P T.c 0 [] w fun b w=>X5 P .append [T.c,T.c] T.c [false,false] [b,a] w fun d w=>K d w)
theorem K3 {a:Value} {w:World} {K:Value→World→Prop} (h:R5 a w K):Q0 P F.b [a] w K:=Q9 (List.replicate 5 none) Tryz.func35 rfl (by decide) (by kernel_rfl) h
def F2 (a:Value) (w:World) (K:Value→World→Prop):Prop:= Q3 P .eql T.i (.tmp 3) (.const (.slice none 0 0)) a (.slice none 0 0) w fun c w=>X1 c (K (.slice none 0 0) w) (buildSlice P T.i 0 [] w fun b w=>X5 P .append [T.i,T.i] T.i [false,false] [b,a] w fun d w=>K d w)
theorem Zm {a:Value} {w:World} {K:Value→World→Prop} (h:F2 a w K):Q0 P F.a9 [a] w K:=Q9 (List.replicate 5 none) Tryz.func96 rfl (by decide) (by kernel_rfl) h
def B9 (a:Value) (w:World) (K:Value→World→Prop):Prop:= Q3 P .eql T.l (.tmp 3) (.const (.slice none 0 0)) a (.slice none 0 0) w fun c w=>X1 c (K (.slice none 0 0) w) (buildSlice P T.l 0 [] w fun b w=>X5 P .append [T.l,T.l] T.l [false,false] [b,a] w fun d w=>K d w)
theorem Yr {a:Value} {w:World} {K:Value→World→Prop} (h:B9 a w K):Q0 P F.aa [a] w K:=Q9 (List.replicate 5 none) Tryz.func157 rfl (by decide) (by kernel_rfl) h
def F3 (a:Value) (w:World) (K:Value→World→Prop):Prop:= Q3 P .eql T.o (.tmp 3) (.const (.slice none 0 0)) a (.slice none 0 0) w fun c w=>X1 c (K (.slice none 0 0) w) (buildSlice P T.o 0 [] w fun b w=>X5 P .append [T.o,T.o] T.o [false,false] [b,a] w fun d w=>K d w)
theorem Yu {a:Value} {w:World} {K:Value→World→Prop} (h:F3 a w K):Q0 P F.ab [a] w K:=Q9 (List.replicate 5 none) Tryz.func158 rfl (by decide) (by kernel_rfl) h
def Ip (D:Value) (w:World) (K:Value→World→Prop):Prop:= box P T.d D w fun a w=>W4 P T.d w fun C w=>dr w fun b c=>Q7 b (fun j=> ∀w,c w→fieldAddr P T.d a 1 w (dk b j w)) fun j=>Q7 b (fun m=> ∀w,c w→fieldAddr P T.d a 5 w (dk b m w)) fun m=>Q7 b (fun r=> ∀w,c w→fieldAddr P T.d a 6 w (dk b r w)) fun r=>Q7 b (fun n=> ∀l w,c w→j l w→Q2 P T.c l w (dk b n w)) fun n=>Q7 b (fun z=> ∀k w,c w→n k w→Q0 P F.b [k] w (dk b z w)) fun z=>Q7 b (fun s=> ∀q w,c w→m q w→Q2 P T.l q w (dk b s w)) fun s=>Q7 b (fun v=> ∀p w,c w→s p w→Q0 P F.aa [p] w (dk b v w)) fun v=>Q7 b (fun e=> ∀o w,c w→r o w→Q2 P T.o o w (dk b e w)) fun e=>Q7 b (fun g=> ∀w,c w→fieldAddr P T.d a 1 w (dk b g w)) fun g=>Q7 b (fun f=> ∀d w,c w→e d w→Q0 P F.ab [d] w (dk b f w)) fun f=>∀l q o k A p B d h i w,c w→j l w→m q w→r o w→n k w→z A w→s p w→v B w→e d w→g h w→f i w→ Z0 P T.c h A w fun _u w=>fieldAddr P T.d a 5 w fun y w=>Z0 P T.l y B w fun _u w=>fieldAddr P T.d a 6 w fun t w=>Z0 P T.o t i w fun _u w=>Q2 P T.d a w fun u w=>Z0 P T.d C u w fun _u w=>J8 P T.d C w fun E=>K E w
theorem Q3v {a:Value} {w:World} {K:Value→World→Prop} (h:Ip a w K):Q0 P F.bL [a] w K:=Q9 (List.replicate 3 none) Tryz.func97 rfl (by decide) (by kernel_rfl) h
def Q3u:V4:=[none,none,none,none,none,some ([3,17],[3,5,17,18,19,20,21,22,23,24,25,26]),none,none,none,none,none,none]
def Ic (Q:Value) (w:World) (K:Value→World→Prop):Prop:= box P T.a Q w fun a w=>W4 P T.a w fun O w=>dr w fun b g=>Q7 b (fun n=> ∀w,g w→fieldAddr P T.a a 2 w (dk b n w)) fun n=>Q7 b (fun r=> ∀w,g w→fieldAddr P T.a a 6 w (dk b r w)) fun r=>Q7 b (fun s=> ∀q w,g w→n q w→Q2 P T.c q w (dk b s w)) fun s=>Q7 b (fun D=> ∀p w,g w→s p w→Q0 P F.b [p] w (dk b D w)) fun D=>Q7 b (fun f=> ∀o w,g w→r o w→Q2 P T.i o w (dk b f w)) fun f=>Q7 b (fun i=> ∀w,g w→fieldAddr P T.a a 2 w (dk b i w)) fun i=>Q7 b (fun h=> ∀d w,g w→f d w→Q0 P F.a9 [d] w (dk b h w)) fun h=>∀q o p N d l m w,g w→n q w→r o w→s p w→D N w→f d w→i l w→h m w→ Z0 P T.c l N w fun _u w=>fieldAddr P T.a a 6 w fun J w=>Z0 P T.i J m w fun _u w=>fieldAddr P T.a a 7 w fun z w=>Q2 P T.g z w fun k w=>X5 P .len [T.g] T.e [false] [k] w fun A w=>lp (α:=Value×Value) ((.slice none 0 0),(.int .i64 0)) w fun e j U w=>Q3 P .lss T.e (.tmp 17) (.tmp 16) j.2 A w fun y w=>X1 y (indexAddr P T.g k j.2 w fun v w=>Q2 P T.d v w fun L w=>W4 P T.d w fun c w=>Z0 P T.d c L w fun _u w=>Q2 P T.d c w fun B w=>Q0 P F.bL [B] w fun M w=>buildSlice P T.g 1 [(0,M)] w fun E w=>X5 P .append [T.g,T.g] T.g [false,false] [j.1,E] w fun u w=>Q3 P .add T.e (.tmp 17) (.const (.int .i64 1)) j.2 (.int .i64 1) w fun t w=>e (u,t) w) (fieldAddr P T.a a 7 w fun C w=>Z0 P T.g C j.1 w fun _u w=>Q2 P T.a a w fun H w=>Z0 P T.a O H w fun _u w=>J8 P T.a O w fun R=>K R w)
theorem Q3G {a:Value} {w:World} {K:Value→World→Prop} (h:Ic a w K):Q0 P F.ce [a] w K:=Q9 Q3u Tryz.func46 rfl (by decide) (by kernel_rfl) h
def Lr (t u:Value) (w:World) (K:Value→World→Prop):Prop:= W4 P T.a w fun r w=>dr w fun a h=>Q7 a (fun k=> ∀w,h w→nilCheck P t w (dk a k w)) fun k=>Q7 a (fun n=> ∀m w,h w→k m w→fieldAddr P T.u m 0 w (dk a n w)) fun n=>Q7 a (fun d=> ∀w,h w→nilCheck P t w (dk a d w)) fun d=>Q7 a (fun b=> ∀c w,h w→d c w→fieldAddr P T.u c 1 w (dk a b w)) fun b=>Q7 a (fun q=> ∀l w,h w→n l w→Q2 P T.h l w (dk a q w)) fun q=>Q7 a (fun g=> ∀f w,h w→b f w→Q2 P T.v f w (dk a g w)) fun g=>Q7 a (fun i=> ∀e w,h w→g e w→lookup P T.v e u false w (dk a i w)) fun i=>∀m l c f s e j w,h w→k m w→n l w→d c w→b f w→q s w→g e w→i j w→ indexAddr P T.h s j w fun p w=>Q2 P T.a p w fun o w=>Z0 P T.a r o w fun _u w=>J8 P T.a r w fun v=>K v w
theorem Ft {a b:Value} {w:World} {K:Value→World→Prop} (h:Lr a b w K):Q0 P F.h [a,b] w K:=Q9 (List.replicate 2 none) Tryz.func60 rfl (by decide) (by kernel_rfl) h
def Cg:V4:=[none,none,none,none,none,none,some ([29],[4,6,29,30,31,32,33,34,35,36,37,38,39,40,41,42,43,44]),none,none,none,none,none,none,none]
def Vp (g O:Value) (w:World) (K:Value→World→Prop):Prop:= box P T.a O w fun a w=>fieldAddr P T.a a 1 w fun Q w=>Q2 P T.b Q w fun R w=>Q0 P F.k [g,R] w fun l w=>Z8 P .not l w fun d w=>Q1 d false w (fun w J=>J g w) fun E w=>Q1 d false w (fieldAddr P T.a a 1) fun r w=>Q1 d false w (Q2 P T.b r) fun y w=>Q1 d false w (Q0 P F.h [E,y]) fun t w=>Q1 d false w (Ut P T.a t 3) fun H w=>pick P d (.bool true) H w fun b w=>Q1 b false w (fun w J=>J g w) fun L w=>Q1 b false w (fieldAddr P T.a a 1) fun v w=>Q1 b false w (Q2 P T.b v) fun u w=>Q1 b false w (Q0 P F.h [L,u]) fun N w=>Q1 b false w (Ut P T.a N 5) fun D w=>pick P b (.bool true) D w fun o w=>X1 o (K (.int .i64 61) w) (fieldAddr P T.a a 2 w fun k w=>Q2 P T.c k w fun f w=>X5 P .len [T.c] T.e [false] [f] w fun A w=>lp (α:=Value) (.int .i64 0) w fun e s U w=>Q3 P .lss T.e (.tmp 29) (.tmp 28) s A w fun z w=>X1 z (indexAddr P T.c f s w fun n w=>Q2 P T.b n w fun h w=>Q0 P F.k [g,h] w fun C w=>Z8 P .not C w fun c w=>Q1 c false w (fun w J=>J g w) fun q w=>Q1 c false w (fun w J=>J h w) fun p w=>Q1 c false w (Q0 P F.h [q,p]) fun B w=>Q1 c false w (Ut P T.a B 3) fun i w=>Q1 c false w (Z8 P .not i) fun M w=>pick P c (.bool true) M w fun m w=>X1 m (K (.int .i64 62) w) (Q3 P .add T.e (.tmp 29) (.const (.int .i64 1)) s (.int .i64 1) w fun j w=>e j w)) (K (.int .i64 0) w))
theorem Cs {a b:Value} {w:World} {K:Value→World→Prop} (h:Vp a b w K):Q0 P F.aZ [a,b] w K:=Q9 Cg Tryz.func47 rfl (by decide) (by kernel_rfl) h
def Xi:V4:=[none,none,none,some ([8],[4,5,8,9,10,11,12,13,14,15,16,17,18]),none,none,none,none,none,none,none]
def C0 (g h:Value) (w:World) (K:Value→World→Prop):Prop:= X5 P .len [T.h] T.e [false] [g] w fun j w=>lp (α:=Value) (.int .i64 0) w fun a b k w=>Q3 P .lss T.e (.tmp 8) (.tmp 7) b j w fun i w=>X1 i (indexAddr P T.h g b w fun e w=>Q2 P T.a e w fun d w=>Z2 P h [d] w fun f w=>X1 f (K b w) (Q3 P .add T.e (.tmp 8) (.const (.int .i64 1)) b (.int .i64 1) w fun c w=>a c w)) (K (.int .i64 (-1)) w)
theorem Xb {a b:Value} {w:World} {K:Value→World→Prop} (h:C0 a b w K):Q0 P F.o [a,b] w K:=Q9 Xi Tryz.func48 rfl (by decide) (by kernel_rfl) h
def Gv:V4:=[none,none,none,some ([7],[6,7,9,10,11,12,16,17,18,19,20,21,22,23,24,25,26,27,28,29,30,31,32,33,34,35,36,37,38,39,40,41,42,43,44,45,46,47,48,49,50,51,52]),none,none,none,none,none,none,none,none,none,none,none,none,none]
def Lc (R U V:Value) (w:World) (K:Value→World→Prop):Prop:= buildSlice P T.c 1 [(0,U)] w fun B w=>Hz P T.v none w fun r w=>lp (α:=Value) B w fun b M X w=>X5 P .len [T.c] T.e [false] [M] w fun O w=>Q3 P .gtr T.e (.tmp 17) (.const (.int .i64 0)) O (.int .i64 0) w fun A w=>X1 A (indexAddr P T.c M (.int .i64 0) w fun Q w=>Q2 P T.b Q w fun g w=>H7 P T.c M (some (.int .i64 1)) none none w fun u w=>lookup P T.v r g true w fun q w=>ext P q 0 w fun W w=>ext P q 1 w fun d w=>Q1 d false w (fun w J=>J R w) fun E w=>Q1 d false w (fun w J=>J g w) fun N w=>Q1 d false w (Q0 P F.k [E,N]) fun C w=>Q1 d false w (Z8 P .not C) fun H w=>pick P d (.bool true) H w fun D w=>X1 D (b u w) (mapUpdate P T.v r g (.int .i64 1) w fun _u w=>Q0 P F.h [R,g] w fun v w=>W4 P T.a w fun a w=>Z0 P T.a a v w fun _u w=>Q2 P T.a a w fun z w=>Z2 P V [z] w fun y w=>X1 y (K (.bool true) w) (dr w fun c n=>Q7 c (fun m=> ∀w,n w→fieldAddr P T.a a 1 w (dk c m w)) fun m=>Q7 c (fun k=> ∀w,n w→fieldAddr P T.a a 2 w (dk c k w)) fun k=>Q7 c (fun f=> ∀l w,n w→m l w→Q2 P T.b l w (dk c f w)) fun f=>Q7 c (fun h=> ∀j w,n w→f j w→buildSlice P T.c 1 [(0,j)] w (dk c h w)) fun h=>Q7 c (fun p=> ∀e w,n w→h e w→X5 P .append [T.c,T.c] T.c [false,false] [u,e] w (dk c p w)) fun p=>Q7 c (fun o=> ∀i w,n w→k i w→Q2 P T.c i w (dk c o w)) fun o=>∀l i j e t s w,n w→m l w→k i w→f j w→h e w→p t w→o s w→ X5 P .append [T.c,T.c] T.c [false,false] [t,s] w fun L w=>b L w))) (K (.bool false) w)
theorem Fb {b c a:Value} {w:World} {K:Value→World→Prop} (h:Lc b c a w K):Q0 P F.v [b,c,a] w K:=Q9 Gv Tryz.func99 rfl (by decide) (by kernel_rfl) h
def Zj (c e:Value) (w:World) (K:Value→World→Prop):Prop:= box P T.a c w fun a w=>fieldAddr P T.a a 0 w fun f w=>Q2 P T.b f w fun b w=>fieldAddr P T.a e 0 w fun d w=>Q2 P T.b d w fun h w=>Q3 P .eql T.b (.tmp 5) (.tmp 7) b h w fun g w=>K g w
theorem Hf {a b:Value} {w:World} {K:Value→World→Prop} (h:Zj a b w K):Q0 P F.bM [a,b] w K:=Q9 (List.replicate 2 none) Tryz.func100 rfl (by decide) (by kernel_rfl) h
def Jq (c d a:Value) (w:World) (K:Value→World→Prop):Prop:= Q2 P T.r d w fun b w=>M7 P (.func F.bM) [] [a] w fun f w=>Q0 P F.v [b,c,f] w fun e w=>K e w
theorem Sd {b c a:Value} {w:World} {K:Value→World→Prop} (h:Jq b c a w K):Q0 P F.aW [b,c,a] w K:=Q9 (List.replicate 2 none) Tryz.func98 rfl (by decide) (by kernel_rfl) h
def Wj (j k:Value) (w:World) (K:Value→World→Prop):Prop:= box P T.r j w fun c w=>box P T.a k w fun a w=>M7 P (.func F.aW) [] [c,a] w fun i w=>fieldAddr P T.a a 1 w fun m w=>Q2 P T.b m w fun l w=>Z2 P i [l] w fun b w=>Q1 b false w (fieldAddr P T.a a 2) fun d w=>Q1 b false w (Q2 P T.c d) fun g w=>Q1 b false w (fun w J=>J i w) fun f w=>Q1 b false w (Q0 P F.d [g,f]) fun e w=>pick P b (.bool true) e w fun h w=>K h w
theorem Gk {a b:Value} {w:World} {K:Value→World→Prop} (h:Wj a b w K):Q0 P F.b8 [a,b] w K:=Q9 (List.replicate 3 none) Tryz.func49 rfl (by decide) (by kernel_rfl) h
def Ez:V4:=[none,none,none,some ([8],[4,5,8,9,10,11,12,13,14,15,16,17,18]),none,none,none,none,none,none,none]
def Yt (g h:Value) (w:World) (K:Value→World→Prop):Prop:= X5 P .len [T.a0] T.e [false] [g] w fun j w=>lp (α:=Value) (.int .i64 0) w fun a b k w=>Q3 P .lss T.e (.tmp 8) (.tmp 7) b j w fun i w=>X1 i (indexAddr P T.a0 g b w fun e w=>Q2 P T.e e w fun d w=>Q3 P .eql T.e (.tmp 11) (.tmp 15) h d w fun f w=>X1 f (K b w) (Q3 P .add T.e (.tmp 8) (.const (.int .i64 1)) b (.int .i64 1) w fun c w=>a c w)) (K (.int .i64 (-1)) w)
theorem Dz {a b:Value} {w:World} {K:Value→World→Prop} (h:Yt a b w K):Q0 P F.bN [a,b] w K:=Q9 Ez Tryz.func160 rfl (by decide) (by kernel_rfl) h
def Qu (a b:Value) (w:World) (K:Value→World→Prop):Prop:= Q0 P F.bN [a,b] w fun d w=>Q3 P .geq T.e (.tmp 7) (.const (.int .i64 0)) d (.int .i64 0) w fun c w=>K c w
theorem Oa {a b:Value} {w:World} {K:Value→World→Prop} (h:Qu a b w K):Q0 P F.aC [a,b] w K:=Q9 (List.replicate 2 none) Tryz.func103 rfl (by decide) (by kernel_rfl) h
def Sc:V4:=[none,none,none,none,some ([35],[7,35,36,37,38,39,40,41,42,43,44,45,46,47]),none,none,none,none]
def P9 (a0 a1 a2 a3 a4:Value) (w:World) (K:Value→World→Prop):Prop:= Q2 P T.e a1 w fun t9 w=>Q3 P .lss T.e (.tmp 8) (.tmp 9) a0 t9 w fun f w=>Q1 f false w (Q2 P T.a0 a2) fun an w=>Q1 f false w (fun w J=>J a0 w) fun aw w=>Q1 f false w (Q0 P F.aC [an,aw]) fun ai w=>pick P f (.bool true) ai w fun ao w=>X1 ao (K (.tuple #[]) w) (dr w fun a b=>Q7 a (fun m=> ∀w,b w→Q2 P T.r a3 w (dk a m w)) fun m=>Q7 a (fun t=> ∀v w,b w→m v w→nilCheck P v w (dk a t w)) fun t=>Q7 a (fun y=> ∀O w,b w→t O w→fieldAddr P T.u O 0 w (dk a y w)) fun y=>Q7 a (fun M=> ∀r w,b w→y r w→Q2 P T.h r w (dk a M w)) fun M=>Q7 a (fun R=> ∀q w,b w→M q w→indexAddr P T.h q a0 w (dk a R w)) fun R=>Q7 a (fun c=> ∀A w,b w→R A w→fieldAddr P T.a A 1 w (dk a c w)) fun c=>Q7 a (fun p=> ∀z w,b w→c z w→Q2 P T.b z w (dk a p w)) fun p=>Q7 a (fun Z=> ∀V w,b w→p V w→buildSlice P T.c 1 [(0,V)] w (dk a Z w)) fun Z=>Q7 a (fun N=> ∀w,b w→Q2 P T.r a3 w (dk a N w)) fun N=>Q7 a (fun j=> ∀k w,b w→N k w→nilCheck P k w (dk a j w)) fun j=>Q7 a (fun g=> ∀e w,b w→j e w→fieldAddr P T.u e 0 w (dk a g w)) fun g=>Q7 a (fun s=> ∀l w,b w→g l w→Q2 P T.h l w (dk a s w)) fun s=>Q7 a (fun Q=> ∀C w,b w→s C w→indexAddr P T.h C a0 w (dk a Q w)) fun Q=>Q7 a (fun n=> ∀B w,b w→Q B w→fieldAddr P T.a B 2 w (dk a n w)) fun n=>Q7 a (fun X=> ∀h w,b w→n h w→Q2 P T.c h w (dk a X w)) fun X=>∀v O r q A z V af k e l C B h ad w,b w→m v w→t O w→y r w→M q w→R A w→c z w→p V w→Z af w→N k w→j e w→g l w→s C w→Q B w→n h w→X ad w→ X5 P .append [T.c,T.c] T.c [false,false] [af,ad] w fun ae w=>X5 P .len [T.c] T.e [false] [ae] w fun ak w=>lp (α:=Value) (.int .i64 0) w fun H x4 d_ w=>Q3 P .lss T.e (.tmp 35) (.tmp 34) x4 ak w fun av w=>X1 av (indexAddr P T.c ae x4 w fun aj w=>Q2 P T.b aj w fun ah w=>dr w fun a b=>Q7 a (fun Y=> ∀w,b w→Q2 P T.ai a4 w (dk a Y w)) fun Y=>Q7 a (fun o=> ∀w,b w→Q2 P T.r a3 w (dk a o w)) fun o=>Q7 a (fun E=> ∀D w,b w→o D w→nilCheck P D w (dk a E w)) fun E=>Q7 a (fun L=> ∀d w,b w→E d w→fieldAddr P T.u d 1 w (dk a L w)) fun L=>Q7 a (fun u=> ∀U w,b w→L U w→Q2 P T.v U w (dk a u w)) fun u=>Q7 a (fun W=> ∀i w,b w→u i w→lookup P T.v i ah false w (dk a W w)) fun W=>∀aa D d U i ac w,b w→Y aa w→o D w→E d w→L U w→u i w→W ac w→ Z2 P aa [ac] w fun a6 w=>Q3 P .add T.e (.tmp 35) (.const (.int .i64 1)) x4 (.int .i64 1) w fun ap w=>H ap w) (Q2 P T.a0 a2 w fun ag w=>buildSlice P T.a0 1 [(0,a0)] w fun al w=>X5 P .append [T.a0,T.a0] T.a0 [false,false] [ag,al] w fun ax w=>Z0 P T.a0 a2 ax w fun _u w=>K (.tuple #[]) w))
theorem Jr {b d a c e:Value} {w:World} {K:Value→World→Prop} (h:P9 b d a c e w K):Q0 P F.w [b,d,a,c,e] w K:=Q9 Sc Tryz.func102 rfl (by decide) (by kernel_rfl) h
def Bx:V4:=[none,none,none,none,none,none,some ([7],[7,10,11,12,13,14,15,16,17,18,19,20,21]),none,none,none,none]
def Lj (r p:Value) (w:World) (K:Value→World→Prop):Prop:= box P T.r r w fun d w=>box P T.e p w fun b w=>W4 P T.a0 w fun c w=>W4 P T.ai w fun a w=>M7 P (.func F.w) [] [b,c,d,a] w fun q w=>Z0 P T.ai a q w fun _u w=>Q2 P T.e b w fun t w=>lp (α:=Value) t w fun e i u w=>Q2 P T.r d w fun n w=>nilCheck P n w fun l w=>fieldAddr P T.u l 0 w fun o w=>Q2 P T.h o w fun h w=>X5 P .len [T.h] T.e [false] [h] w fun m w=>Q3 P .lss T.e (.tmp 10) (.tmp 15) i m w fun j w=>X1 j (Q2 P T.ai a w fun f w=>Z2 P f [i] w fun s w=>Q3 P .add T.e (.tmp 17) (.const (.int .i64 1)) i (.int .i64 1) w fun g w=>e g w) (Q2 P T.a0 c w fun k w=>K k w)
theorem Fz {a b:Value} {w:World} {K:Value→World→Prop} (h:Lj a b w K):Q0 P F.b9 [a,b] w K:=Q9 Bx Tryz.func50 rfl (by decide) (by kernel_rfl) h
def Ya:V4:=[none,some ([2,3],[2,3,7,8,9,10,11,12,13,14,15,16,17,18,19,20,21,22,23,24,25,26,27]),none,none,none]
def C8 (k:Value) (w:World) (K:Value→World→Prop):Prop:= X5 P .len [T.h] T.e [false] [k] w fun r w=>Q3 P .sub T.e (.tmp 5) (.const (.int .i64 1)) r (.int .i64 1) w fun t w=>lp (α:=Value×Value) ((.int .i64 0),t) w fun b g u w=>Q3 P .lss T.e (.tmp 7) (.tmp 8) g.1 g.2 w fun s w=>X1 s (dr w fun f l=>Q7 f (fun c=> ∀w,l w→indexAddr P T.h k g.2 w (dk f c w)) fun c=>Q7 f (fun a=> ∀w,l w→indexAddr P T.h k g.1 w (dk f a w)) fun a=>Q7 f (fun i=> ∀e w,l w→c e w→Q2 P T.a e w (dk f i w)) fun i=>Q7 f (fun h=> ∀d w,l w→a d w→Q2 P T.a d w (dk f h w)) fun h=>∀e d m j w,l w→c e w→a d w→i m w→h j w→ indexAddr P T.h k g.1 w fun n w=>Z0 P T.a n m w fun _u w=>indexAddr P T.h k g.2 w fun o w=>Z0 P T.a o j w fun _u w=>Q3 P .add T.e (.tmp 10) (.const (.int .i64 1)) g.1 (.int .i64 1) w fun p w=>Q3 P .sub T.e (.tmp 12) (.const (.int .i64 1)) g.2 (.int .i64 1) w fun q w=>b (p,q) w) (K (.tuple #[]) w)
theorem Yb {a:Value} {w:World} {K:Value→World→Prop} (h:C8 a w K):Q0 P F.p [a] w K:=Q9 Ya Tryz.func167 rfl (by decide) (by kernel_rfl) h
def Iz:V4:=[none,none,none,none,some ([5,6],[5,6,8,9,10,11,12,13,14,15,16,17,18,19,20]),none,none,none,none,none]
def Mt (h k:Value) (w:World) (K:Value→World→Prop):Prop:= lp (α:=Value×Value) ((.slice none 0 0),k) w fun a b l w=>Q0 P F.k [h,b.2] w fun e w=>X1 e (Q0 P F.h [h,b.2] w fun d w=>buildSlice P T.h 1 [(0,d)] w fun c w=>X5 P .append [T.h,T.h] T.h [false,false] [b.1,c] w fun i w=>Q0 P F.h [h,b.2] w fun g w=>Ut P T.a g 1 w fun f w=>a (i,f) w) (Q0 P F.p [b.1] w fun j w=>K b.1 w)
theorem Kv {a b:Value} {w:World} {K:Value→World→Prop} (h:Mt a b w K):Q0 P F.aL [a,b] w K:=Q9 Iz Tryz.func166 rfl (by decide) (by kernel_rfl) h
def Cm:V4:=[none,none,none,none,some ([5,12],[5,7,12,13,14,15,16,17,18,19,20]),none,none,none,none,none]
def Va (m n:Value) (w:World) (K:Value→World→Prop):Prop:= Q0 P F.aL [m,n] w fun c w=>X5 P .len [T.h] T.e [false] [c] w fun l w=>lp (α:=Value×Value) ((.slice none 0 0),(.int .i64 0)) w fun b d o w=>Q3 P .lss T.e (.tmp 12) (.tmp 11) d.2 l w fun i w=>X1 i (indexAddr P T.h c d.2 w fun h w=>Q2 P T.a h w fun g w=>W4 P T.a w fun a w=>Z0 P T.a a g w fun _u w=>fieldAddr P T.a a 6 w fun j w=>Q2 P T.i j w fun f w=>X5 P .append [T.i,T.i] T.i [false,false] [d.1,f] w fun e w=>Q3 P .add T.e (.tmp 12) (.const (.int .i64 1)) d.2 (.int .i64 1) w fun k w=>b (e,k) w) (K d.1 w)
theorem Cv {a b:Value} {w:World} {K:Value→World→Prop} (h:Va a b w K):Q0 P F.b3 [a,b] w K:=Q9 Cm Tryz.func162 rfl (by decide) (by kernel_rfl) h
def Jz (c e:Value) (w:World) (K:Value→World→Prop):Prop:= box P T.k c w fun a w=>fieldAddr P T.k a 0 w fun f w=>Q2 P T.b f w fun b w=>Q2 P T.b e w fun d w=>Q3 P .eql T.b (.tmp 5) (.tmp 6) b d w fun g w=>K g w
theorem Sm {a b:Value} {w:World} {K:Value→World→Prop} (h:Jz a b w K):Q0 P F.bV [a,b] w K:=Q9 (List.replicate 2 none) Tryz.func163 rfl (by decide) (by kernel_rfl) h
def Wb (e f d:Value) (w:World) (K:Value→World→Prop):Prop:= box P T.b d w fun a w=>Q0 P F.b3 [e,f] w fun g w=>M7 P (.func F.bV) [] [a] w fun b w=>Q0 P F.j [g,b] w fun c w=>K c w
theorem Gu {b c a:Value} {w:World} {K:Value→World→Prop} (h:Wb b c a w K):Q0 P F.bd [b,c,a] w K:=Q9 (List.replicate 2 none) Tryz.func104 rfl (by decide) (by kernel_rfl) h
def T1 (a b:Value) (w:World) (K:Value→World→Prop):Prop:= nilCheck P a w fun e w=>indexAddr P T.a4 e b w fun d w=>Q2 P T.m d w fun c w=>K c w
theorem Lv {a b:Value} {w:World} {K:Value→World→Prop} (h:T1 a b w K):Q0 P F.aw [a,b] w K:=Q9 (List.replicate 2 none) Tryz.func135 rfl (by decide) (by kernel_rfl) h
def Et:V4:=[none,some ([0],[0,5,6,7,8,9,10,11,12,13,14,15,16,17,18,19,20]),some ([0],[0,5,6,7,8,9,10,11,12,13,14,15,16,17,18,19,20]),none,none,none,none,none]
def Yw (m l:Value) (w:World) (K:Value→World→Prop):Prop:= jn (α:=Value) w (fun k w=>lp (α:=Value) m w fun a b p w=>X5 P .len [T.b] T.e [false] [b] w fun o w=>Q3 P .gtr T.e (.tmp 6) (.const (.int .i64 0)) o (.int .i64 0) w fun n w=>X1 n (X5 P .len [T.b] T.e [false] [b] w fun h w=>Q3 P .sub T.e (.tmp 11) (.const (.int .i64 1)) h (.int .i64 1) w fun f w=>E5 P T.b b f w fun i w=>Q0 P F.aw [l,i] w fun e w=>Z8 P .not e w fun g w=>X1 g (k b w) (X5 P .len [T.b] T.e [false] [b] w fun d w=>Q3 P .sub T.e (.tmp 18) (.const (.int .i64 1)) d (.int .i64 1) w fun c w=>H7 P T.b b none (some c) none w fun j w=>a j w)) (k b w)) fun q p w=>K q w
theorem Ee {a b:Value} {w:World} {K:Value→World→Prop} (h:Yw a b w K):Q0 P F.ai [a,b] w K:=Q9 Et Tryz.func89 rfl (by decide) (by kernel_rfl) h
end Go.Proofs.YtfppjenblllfaaaGreatDoor
