/- Parts of a proof about the given program: its functions as texts of their own, what each computes, plain laws of that. The conditions of each stand in its statement. -/
import Derived.WalkKit
import Derived.Test.YtjdiakhipmggjaaGreatDoorProg
import Derived.KernelRfl
set_option linter.unnecessarySimpa false
set_option linter.defProp false
set_option linter.unusedSectionVars false
set_option linter.unusedVariables false
set_option linter.unusedSimpArgs false
namespace Go.Emb
def P2 (P:Program) (s:Sem Next) (w:World) (K:Value→World→Prop):Prop:=
 match s.run P w with
 | .ok (.value v) w'=>K v w'
 | .ok .skip w'=>K undef w'
 | .ok (.enter f a) w'=>Calls P f a w' fun e b=>match e with | .returned v=>K v b | _=>False
 | .ok (.row row a) w'=>Rows P row a w' K
 | _=>False
theorem X15: ∃f:Program→Sem Next→World→(Value→World→Prop)→Prop,f=P2:=⟨_,rfl⟩
noncomputable def op:Program→Sem Next→World→(Value→World→Prop)→Prop:=Classical.choose X15
theorem T4:op=P2:=Classical.choose_spec X15
theorem X3p {P:Program} {o:Oper} {a:Act} {w:World} {next:Act→World→Prop} {Q:Exit→Act→World→Prop}
 (h:op P (execOp a.eval o) w (fun v w=>next (a.put o.dst v) w)):o.wp P a w next Q:=by
 unfold Oper.wp
 rw[T4] at h
 unfold P2 at h
 cases b:(execOp a.eval o).run P w with
 | halt x w'=>rw[b] at h;exact h.elim
 | ok n w'=>
  rw[b] at h
  cases n<;>simp only at h<;>try exact h.elim
  ·exact h
  ·exact h
  ·refine Calls.mono h fun e d c=>?_
   cases e<;>first | exact c | exact c.elim
  ·exact h
theorem Rn {P:Program} {s:Sem Next} {K b:Value→World→Prop} {w:World} (a: ∀v w,K v w→b v w) (h:op P s w K):op P s w b:=by
 rw[T4] at*
 unfold P2 at*
 cases c:s.run P w with
 | halt x w'=>rw[c] at h;exact h.elim
 | ok n w'=>
  rw[c] at h
  cases n<;>simp only at h⊢ <;>try exact h.elim
  ·exact a _ _ h
  ·exact a _ _ h
  ·refine Calls.mono h fun e f d=>?_
   cases e<;>first | exact a _ _ d | exact d.elim
  ·exact h.mono a
def sv (s:Sem Value):Sem Next:=do Pure.pure (.value (←s))
def su (s:Sem Unit):Sem Next:=do s;Pure.pure .skip
section
variable (P : Program)
noncomputable def pick (c a b:Value) (w:World) (K:Value→World→Prop):Prop:=op P (do Pure.pure (.value (if←asBool c then a else b))) w K
noncomputable def W1 (e:TypeId) (w:World) (K:Value→World→Prop):Prop:=op P (sv (Instr.alloc e true (.tuple #[]))) w K
noncomputable def box (e:TypeId) (x:Value) (w:World) (K:Value→World→Prop):Prop:=op P (sv (Instr.box e x)) w K
noncomputable def E3 (t:TypeId) (a:List (Nat×Value)) (w:World) (K:Value→World→Prop):Prop:=op P (sv (Instr.build t a.toArray)) w K
noncomputable def buildSlice (t:TypeId) (n:Nat) (a:List (Nat×Value)) (w:World) (K:Value→World→Prop):Prop:=op P (sv (Instr.buildSlice t n a.toArray)) w K
noncomputable def Q2 (t:TypeId) (a:Value) (w:World) (K:Value→World→Prop):Prop:=op P (sv (Instr.loadAt t a)) w K
noncomputable def X9 (t:TypeId) (a x:Value) (w:World) (K:Value→World→Prop):Prop:=op P (su (Instr.storeAt t a x)) w K
noncomputable def nilCheck (x:Value) (w:World) (K:Value→World→Prop):Prop:=op P (execOp (fun _=>x) {dst:=none,op:= .nilCheck (.const x),type:=0,pos:= "",after:= #[],guard:=none}) w K
noncomputable def Q3 (o:BinOp) (t:TypeId) (a b:Operand) (x y:Value) (w:World) (K:Value→World→Prop):Prop:=op P (sv (do eqGuard o t a b x y;Go.binOp o t x y)) w K
noncomputable def J8 (o:UnOp) (x:Value) (w:World) (K:Value→World→Prop):Prop:=op P (sv (Op.unary o x)) w K
noncomputable def conv (s d:TypeId) (x:Value) (w:World) (K:Value→World→Prop):Prop:=op P (sv (Go.convert s d x)) w K
noncomputable def X1M (t:TypeId) (x:Value) (w:World) (K:Value→World→Prop):Prop:=op P (sv (Instr.makeInterface t x)) w K
noncomputable def H1 (f:Fn) (first caps:List Value) (w:World) (K:Value→World→Prop):Prop:=op P (sv (Instr.makeFunc f first.toArray caps.toArray)) w K
noncomputable def Ko (t:TypeId) (r:Option Value) (w:World) (K:Value→World→Prop):Prop:=op P (sv (Instr.makeMap t r)) w K
noncomputable def Ls (t:TypeId) (n c:Value) (w:World) (K:Value→World→Prop):Prop:=op P (sv (Instr.makeSlice t n c)) w K
noncomputable def R6 (t:TypeId) (x:Value) (c a b:Option Value) (w:World) (K:Value→World→Prop):Prop:=op P (sv (Instr.sliceAt t x c a b)) w K
noncomputable def fieldAddr (t:TypeId) (x:Value) (f:Nat) (w:World) (K:Value→World→Prop):Prop:=op P (sv (Instr.fieldAt t x f)) w K
noncomputable def F3 (t:TypeId) (x:Value) (f:Nat) (w:World) (K:Value→World→Prop):Prop:=op P (sv (Instr.field t x f)) w K
noncomputable def indexAddr (t:TypeId) (x i:Value) (w:World) (K:Value→World→Prop):Prop:=op P (sv (Instr.indexAt t x i)) w K
noncomputable def C2 (t:TypeId) (x i:Value) (w:World) (K:Value→World→Prop):Prop:=op P (sv (Instr.index t x i)) w K
noncomputable def lookup (t:TypeId) (x i:Value) (ok:Bool) (w:World) (K:Value→World→Prop):Prop:=op P (sv (Instr.lookup t x i ok)) w K
noncomputable def mapUpdate (t:TypeId) (m k x:Value) (w:World) (K:Value→World→Prop):Prop:=op P (su (Instr.mapUpdate t m k x)) w K
noncomputable def mapEntry (t:TypeId) (m k:Value) (w:World) (K:Value→World→Prop):Prop:=op P (sv (Instr.mapEntry t m k)) w K
noncomputable def entryStore (t:TypeId) (m s x:Value) (w:World) (K:Value→World→Prop):Prop:=op P (su (Instr.entryStore t m s x)) w K
noncomputable def rng (t:TypeId) (x:Value) (w:World) (K:Value→World→Prop):Prop:=op P (sv (Instr.range t x)) w K
noncomputable def W3 (b:Value) (a:Bool) (t:TypeId) (w:World) (K:Value→World→Prop):Prop:=op P (sv (Instr.next b a t)) w K
noncomputable def Q8o (a:Value) (w:World) (K:Value→World→Prop):Prop:=op P (sv (Instr.entry a)) w K
noncomputable def pnc (x:Value) (w:World) (K:Value→World→Prop):Prop:=op P (sv (Instr.panic x)) w K
noncomputable def ext (x:Value) (i:Nat) (w:World) (K:Value→World→Prop):Prop:=op P (sv (Instr.extract x i)) w K
noncomputable def X2 (b:Builtin) (a:List TypeId) (t:TypeId) (cs:List Bool) (xs:List Value) (w:World) (K:Value→World→Prop):Prop:=op P (Go.builtin b a.toArray t cs.toArray xs.toArray) w K
noncomputable def Q1 (f:FuncId) (xs:List Value) (w:World) (K:Value→World→Prop):Prop:=op P (callFunc f xs.toArray) w K
noncomputable def Z3 (f:Value) (xs:List Value) (w:World) (K:Value→World→Prop):Prop:=op P (do let d←Deferred.ofValue f xs.toArray;invoke d.target d.args) w K
end
def get (l:List Value) (t:Nat):Value:=l.getD t undef
def ev (l:List Value):Operand→Value
 | .tmp t=>get l t
 | .const v=>v
 | .global g=> .pointer (some ⟨g,0,none⟩)
 | .func f=> .func (.func f) #[] #[]
def put (l:List Value) (d:Option Tmp) (v:Value):List Value:=
 match d with
 | some d=>l.set d v
 | none=>l
def evs (l:List Value) (xs:Array Operand):List Value:=xs.toList.map (ev l)
def evp (l:List Value) (xs:Array (Nat×Operand)):List (Nat×Value):=xs.toList.map fun p=>(p.1,ev l p.2)
def evo (l:List Value) (x:Option Operand):Option Value:=match x with | some x=>some (ev l x) | none=>none
def isC:Operand→Bool | .const _=>true | _=>false
noncomputable def Dk (P:Program) (l:List Value) (o:Oper) (c:Call) (w:World) (K:Value→World→Prop):Prop:=
 match c.callee with
 | .builtin b=>X2 P b c.argTypes.toList o.type (c.args.toList.map isC) (evs l c.args) w K
 | .value (.func f)=>Q1 P f (evs l c.args) w K
 | .value f=>Z3 P (ev l f) (evs l c.args) w K
 | _=>op P (execOp (ev l) o) w K
noncomputable def L1 (P:Program) (l:List Value) (o:Oper) (w:World) (K:Value→World→Prop):Prop:=
 match o.op with
 | .move x=>K (ev l x) w
 | .assign x=>K (ev l x) w
 | .pick c a b=>pick P (ev l c) (ev l a) (ev l b) w K
 | .alloc e=>W1 P e w K
 | .box e x=>box P e (ev l x) w K
 | .build t g=>E3 P t (evp l g) w K
 | .buildSlice t n g=>buildSlice P t n (evp l g) w K
 | .load t a=>Q2 P t (ev l a) w K
 | .store t a x=>X9 P t (ev l a) (ev l x) w K
 | .nilCheck x=>nilCheck P (ev l x) w K
 | .binOp op t x y _=>Q3 P op t x y (ev l x) (ev l y) w K
 | .unOp op _ x=>J8 P op (ev l x) w K
 | .convert s d x=>conv P s d (ev l x) w K
 | .makeInterface t x=>X1M P t (ev l x) w K
 | .makeFunc f first caps=>H1 P f (evs l first) (evs l caps) w K
 | .makeMap t r=>Ko P t (evo l r) w K
 | .makeSlice t n c=>Ls P t (ev l n) (ev l c) w K
 | .slice t x p u q=>R6 P t (ev l x) (evo l p) (evo l u) (evo l q) w K
 | .fieldAddr t x f=>fieldAddr P t (ev l x) f w K
 | .field t x f=>F3 P t (ev l x) f w K
 | .indexAddr t x i=>indexAddr P t (ev l x) (ev l i) w K
 | .index t x i=>C2 P t (ev l x) (ev l i) w K
 | .lookup t x i ok=>lookup P t (ev l x) (ev l i) ok w K
 | .mapUpdate t m k x=>mapUpdate P t (ev l m) (ev l k) (ev l x) w K
 | .insert t m k x=>mapUpdate P t (ev l m) (ev l k) (ev l x) w K
 | .mapEntry t m k=>mapEntry P t (ev l m) (ev l k) w K
 | .entryStore t m s x=>entryStore P t (ev l m) (ev l s) (ev l x) w K
 | .range t x=>rng P t (ev l x) w K
 | .next h j=>W3 P (ev l h) j o.type w K
 | .extract x i=>ext P (ev l x) i w K
 | .entry h=>Q8o P (ev l h) w K
 | .panic x=>pnc P (ev l x) w K
 | .call c=>Dk P l o c w K
 | _=>op P (execOp (ev l) o) w K
theorem Q8e {α β:Type} (f:α→β) (a:Array α):a.map f=(a.toList.map f).toArray:=by rw[←Array.toList_map,Array.toArray_toList]
theorem X1t (l:List Value) (x:Option Operand):x.map (ev l)=evo l x:=by cases x<;>rfl
theorem Q6k {P:Program} {l:List Value} {o:Oper} {c:Call} {K e:Value→World→Prop} {w:World} (a: ∀v w,K v w→e v w) (h:Dk P l o c w K):Dk P l o c w e:=by
 obtain ⟨d,g,i⟩:=c
 cases d with
 | builtin b=>exact Rn a h
 | invoke r m=>exact Rn a h
 | value f=>cases f<;>(simp only[Dk,Z3,Q1] at h⊢;exact Rn a h)
theorem K3 {P:Program} {l:List Value} {o:Oper} {K b:Value→World→Prop} {w:World} (a: ∀v w,K v w→b v w) (h:L1 P l o w K):L1 P l o w b:=by
 obtain ⟨d,p,e,pos,c,g⟩:=o
 cases p<;>first | exact a _ _ h | exact Q6k a h | exact Rn a h | (simp only[L1] at h⊢;exact Rn a h)
theorem Q6O {P:Program} {l:List Value} {o:Oper} {K:Value→World→Prop} {w:World} (h:L1 P l o w K):op P (execOp (ev l) o) w K:=by
 unfold L1 at h
 split at h<;>rename_i a
 all_goals first
  | exact h
  | (unfold execOp;rw[a];exact h)
  | (unfold execOp;rw[a];simp only[Q8e,X1t];exact h)
  | (unfold execOp;rw[a,T4];exact h)
  | skip
 rename_i c
 unfold Dk at h
 split at h<;>rename_i b
 ·unfold execOp;rw[a];simp only[resolve,b,Q8e]
  simp only[pure_bind,invoke]
  unfold X2 at h
  simp only[Array.toArray_toList] at h
  refine (congrArg (fun z=>op P (builtin _ c.argTypes o.type (List.toArray z) _) w K) (List.map_congr_left (fun x _=>?_))).mp h
  cases x<;>rfl
 ·unfold execOp;rw[a];simp only[resolve,b,Q8e]
  simp only[ev,Deferred.ofValue,pure_bind,invoke]
  simpa [Q1,evs] using h
 ·unfold execOp;rw[a];simp only[resolve,b,Q8e]
  exact h
 ·exact h
def Na (v:Value) (b:Bool) (w:World) (a:World→(Value→World→Prop)→Prop) (J:Value→World→Prop):Prop:=
 match v with
 | .bool c=>if c=b then a w J else J undef w
 | _=>J undef w
theorem Q8Y: ∃f:Value→Bool→World→(World→(Value→World→Prop)→Prop)→(Value→World→Prop)→Prop,f=Na:=⟨_,rfl⟩
noncomputable def Q0:Value→Bool→World→(World→(Value→World→Prop)→Prop)→(Value→World→Prop)→Prop:=Classical.choose Q8Y
theorem Ei:Q0=Na:=Classical.choose_spec Q8Y
def Q3d (v:Value) (t e:Prop):Prop:=
 match v with
 | .bool true=>t
 | .bool false=>e
 | _=>False
theorem Q9B: ∃f:Value→Prop→Prop→Prop,f=Q3d:=⟨_,rfl⟩
noncomputable def X1:Value→Prop→Prop→Prop:=Classical.choose Q9B
theorem Q6c:X1=Q3d:=Classical.choose_spec Q9B
noncomputable def Z5 (P:Program) (ops:List Oper) (next:List Value→World→Prop):List Oper→List Value→World→Prop
 | [],l,w=>next l w
 | o::a,l,w=>
  match o.guard with
  | none=>L1 P l o w (fun v w=>Z5 P ops next a (put l o.dst v) w)
  | some (j,b)=>match (ops[j]?).bind (·.dst) with
   | some d=>Q0 (get l d) b w (L1 P l o) (fun v w=>Z5 P ops next a (put l o.dst v) w)
   | none=>Z5 P ops next a (put l o.dst undef) w
def Tj:Nat→Type
 | 0=>Unit
 | 1=>Value
 | n+2=>Value×Tj (n+1)
def Ov (l:List Value):(a:List Nat)→Tj a.length
 | []=>()
 | [s]=>get l s
 | s::t::r=>(get l s,Ov l (t::r))
def Hz (i:Nat) (e:Value):(a:List Nat)→Tj a.length→Value
 | [],_=>e
 | [s],x=>if s=i then x else e
 | s::t::r,x=>if s=i then x.1 else Hz i e (t::r) x.2
def H3 (a b:List Nat) (x:Tj a.length) (d:Nat→Value):Nat→List Value→List Value
 | _,[]=>[]
 | i,v::l=>Hz i (if b.contains i then d i else v) a x::H3 a b x d (i+1) l
def X1g (α:Type) (x0:α) (w:World) (a:(α→World→Prop)→α→(Nat→Value)→World→Prop):Prop:=
 ∃(I:α→World→Prop) (μ:α→World→Nat),I x0 w∧ ∀x d w,I x w→a (fun b w'=>I b w'∧μ b w'<μ x w) x d w
theorem X1b: ∃f:(α:Type)→α→World→((α→World→Prop)→α→(Nat→Value)→World→Prop)→Prop,f=X1g:=⟨_,rfl⟩
noncomputable def lp {α:Type}:α→World→((α→World→Prop)→α→(Nat→Value)→World→Prop)→Prop:=Classical.choose X1b α
theorem X1a {α:Type} (x0:α) (w:World) (a:(α→World→Prop)→α→(Nat→Value)→World→Prop):lp x0 w a=X1g α x0 w a:=
 congrFun (congrFun (congrFun (congrFun (Classical.choose_spec X1b) α) x0) w) a
def X10 (α:Type) (w:World) (A:(α→World→Prop)→World→Prop) (B:α→(Nat→Value)→World→Prop):Prop:=
 ∃I:α→World→Prop,A I w∧ ∀x d w,I x w→B x d w
theorem X1m: ∃f:(α:Type)→World→((α→World→Prop)→World→Prop)→(α→(Nat→Value)→World→Prop)→Prop,f=X10:=⟨_,rfl⟩
noncomputable def jn {α:Type}:World→((α→World→Prop)→World→Prop)→(α→(Nat→Value)→World→Prop)→Prop:=Classical.choose X1m α
theorem X1e {α:Type} (w:World) (A:(α→World→Prop)→World→Prop) (B:α→(Nat→Value)→World→Prop):jn w A B=X10 α w A B:=
 congrFun (congrFun (congrFun (congrFun (Classical.choose_spec X1m) α) w) A) B
theorem Ur {α:Type} {w:World} {A:(α→World→Prop)→World→Prop} {B:α→(Nat→Value)→World→Prop} (I:α→World→Prop) (h:A I w) (a: ∀x d w,I x w→B x d w):jn w A B:=by
 rw[X1e];exact ⟨I,h,a⟩
theorem Q5O {α:Type} {w:World} {A:(α→World→Prop)→World→Prop} {B:α→(Nat→Value)→World→Prop} (h:jn w A B): ∃I:α→World→Prop,A I w∧ ∀x d w,I x w→B x d w:=by
 rw[X1e] at h;exact h
theorem We {α:Type} {x0:α} {w:World} {a:(α→World→Prop)→α→(Nat→Value)→World→Prop} (I:α→World→Prop) (μ:α→World→Nat) (c:I x0 w)
 (e: ∀x d w,I x w→a (fun b w'=>I b w'∧μ b w'<μ x w) x d w):lp x0 w a:=by
 rw[X1a];exact ⟨I,μ,c,e⟩
theorem Q9U {α:Type} {x0:α} {w:World} {a:(α→World→Prop)→α→(Nat→Value)→World→Prop} (h:lp x0 w a):
 ∃(I:α→World→Prop) (μ:α→World→Nat),I x0 w∧ ∀x d w,I x w→a (fun b w'=>I b w'∧μ b w'<μ x w) x d w:=by
 rw[X1a] at h;exact h
def S1 (ops:List Oper):List Nat:=ops.filterMap (·.dst)
def Qk:Code→Nat
 | .seq a b=>Qk a+Qk b+1
 | .cond _ a b=>Qk a+Qk b
 | .block _ c=>Qk c
 | .loop c=>Qk c+1
 | .scope c=>Qk c
 | _=>0
def O4 (d:List (Option (List Nat))):Nat→Code→List Nat
 | _, .region _ ops _=>S1 ops.toList
 | k, .seq a b=>(d.getD k none).getD []++(O4 d (k+1) a++O4 d (k+1+Qk a) b)
 | k, .cond _ a b=>O4 d k a++O4 d (k+Qk a) b
 | k, .block _ c=>O4 d k c
 | k, .loop c=>(d.getD k none).getD []++O4 d (k+1) c
 | k, .scope c=>O4 d k c
 | _,_=>[]
abbrev He:=Exit→List Value→World→Prop
def thn (next:List Value→World→Prop) (Q:He):He
 | .normal,a,w=>next a w
 | e,a,w=>Q e a w
def Q3c (id:Nat) (Q:He):He
 | .exit b,a,w=>if b=id then Q .normal a w else Q (.exit b) a w
 | e,a,w=>Q e a w
noncomputable def Df (P:Program) (a:List (Option (List Nat))):Nat→Code→He→List Value→World→Prop
 | _, .skip,Q,l,w=>Q .normal l w
 | _, .label _,Q,l,w=>Q .normal l w
 | _, .exit id,Q,l,w=>Q (.exit id) l w
 | _, .ret,Q,l,w=>Q .ret l w
 | _, .region _ ops false,Q,l,w=>Z5 P ops.toList (fun l w=>Q .normal l w) ops.toList l w
 | _, .region _ ops true,Q,l,w=> ∀t,Z5 P ops.toList (fun l w=>Q .normal l w) ((Region.schedule (P.follows .mixedOrders) ops t).filterMap (ops[·]?)) l w.drew
 | k, .seq x y,Q,l,w=>match a.getD k none with
  | none=>Df P a (k+1) x (thn (fun l w=>Df P a (k+1+Qk x) y Q l w) Q) l w
  | some e=>jn w (fun J w=>Df P a (k+1) x (thn (fun l' w'=>J (Ov l' e) w') Q) l w)
   (fun z d w=>Df P a (k+1+Qk x) y Q (H3 e (O4 a (k+1) x) z d 0 l) w)
 | k, .cond c x y,Q,l,w=>X1 (ev l c) (Df P a k x Q l w) (Df P a (k+Qk x) y Q l w)
 | k, .block id c,Q,l,w=>Df P a k c (Q3c id Q) l w
 | k, .loop c,Q,l,w=>
  lp (Ov l ((a.getD k none).getD [])) w (fun b x d w=>Df P a (k+1) c (thn (fun l' w'=>b (Ov l' ((a.getD k none).getD [])) w') Q) (H3 ((a.getD k none).getD []) (O4 a (k+1) c) x d 0 l) w)
 | _,_,_,_,_=>False
theorem Q8c {ops:List Oper} {l:List Value} {o:Oper} {j:Nat} {b:Bool} (a:o.guard=some (j,b)) {d:Nat} (e:(ops[j]?).bind (·.dst)=some d):
 Region.wanted o (yielded ops.toArray l.toArray)=true↔get l d= .bool b:=by
 unfold Region.wanted yielded
 rw[a]
 simp only[List.getElem?_toArray]
 rw[e]
 simp only[Option.bind_some,get,List.getD_eq_getElem?_getD]
 have key: ∀x:Option Value,((match x with | some (.bool c)=>some c | _=>none)==some b)=true↔x.getD undef= .bool b:=by
  intro x
  cases x with
  | none=>simp[undef]
  | some v=>cases v<;>simp
 exact key _
theorem Q6X {ops:List Oper} {l:List Value} {o:Oper} {j:Nat} {b:Bool} (a:o.guard=some (j,b)) (c:(ops[j]?).bind (·.dst)=none):
 Region.wanted o (yielded ops.toArray l.toArray)=false:=by
 unfold Region.wanted yielded
 rw[a]
 simp only[List.getElem?_toArray]
 rw[c]
 rfl
theorem Lr {v:Value} {b:Bool} {a:World→(Value→World→Prop)→Prop} {J:Value→World→Prop} {w:World} (h:Q0 v b w a J):
 (v= .bool b∧a w J)∨(v≠ .bool b∧J undef w):=by
 rw[Ei] at h
 unfold Na at h
 split at h
 ·split at h
  ·rename_i c;subst c;exact .inl ⟨rfl,h⟩
  ·rename_i c;exact .inr ⟨by simp[c],h⟩
 ·rename_i d;exact .inr ⟨d b,h⟩
theorem Q0M {v:Value} {b:Bool} {a:World→(Value→World→Prop)→Prop} {J:Value→World→Prop} {w:World}
 (h:(v= .bool b∧a w J)∨(v≠ .bool b∧J undef w)):Q0 v b w a J:=by
 rw[Ei]
 unfold Na
 split
 ·split
  ·rename_i c;subst c
   rcases h with h | h
   ·exact h.2
   ·exact absurd rfl h.1
  ·rename_i c
   rcases h with h | h
   ·exact absurd (Value.bool.inj h.1) c
   ·exact h.2
 ·rename_i d
  rcases h with h | h
  ·exact absurd h.1 (d b)
  ·exact h.2
theorem Q3F (a:Act):a.eval=ev a.tmps.toList:=by
 funext x
 cases x<;>simp[Act.eval,ev,get,List.getD_eq_getElem?_getD]
theorem Q7U (a:Act) (d:Option Tmp) (v:Value):(a.put d v).tmps.toList=put a.tmps.toList d v:=by
 cases d<;>simp[Act.put,put]
theorem Q89 (a:Act) (d:Option Tmp) (v:Value):(a.put d v).defers=a.defers:=by
 cases d<;>simp[Act.put]
def lift (Q:He):Exit→Act→World→Prop:=fun e a w=>a.defers=[]∧Q e a.tmps.toList w
theorem Q0o (P:Program) (ops:Array Oper) (Q:Exit→Act→World→Prop) (next:List Value→World→Prop)
 (t: ∀a w,a.defers=[]→next a.tmps.toList w→Q .normal a w) (is:List Nat) (r: ∀i∈is,i<ops.size):
 ∀(a:Act) (w:World),a.defers=[]→Z5 P ops.toList next (is.filterMap (ops[·]?)) a.tmps.toList w→wpOps P ops Q is a w:=by
 induction is with
 | nil=>intro a w p h;exact t a w p h
 | cons i is u=>
  intro a w p h
  have o:=r i (by simp)
  have m:ops[i]? =some ops[i]:=by simp[o]
  rw[List.filterMap_cons,m] at h
  simp only[Z5] at h
  simp only[wpOps,m]
  have s:ops.toList.toArray=ops:=by simp
  have q:a.tmps.toList.toArray=a.tmps:=by simp
  have f: ∀{v w},Z5 P ops.toList next (is.filterMap (ops[·]?)) (put a.tmps.toList ops[i].dst v) w→wpOps P ops Q is (a.put ops[i].dst v) w:=by
   intro v w e
   refine u (fun j y=>r j (by simp[y])) _ _ (by rw[Q89];exact p) ?_
   rw[Q7U];exact e
  have k:L1 P a.tmps.toList ops[i] w (fun v w=>Z5 P ops.toList next (is.filterMap (ops[·]?)) (put a.tmps.toList ops[i].dst v) w)→
   ops[i].wp P a w (wpOps P ops Q is) Q:=by
   intro h
   refine X3p ?_
   rw[Q3F]
   exact Rn (fun v w e=>f e) (Q6O h)
  split at h
  ·rename_i n
   rw[if_pos (by simp[Region.wanted,n])]
   exact .inl (k h)
  ·rename_i j b n
   split at h
   ·rename_i d c
    have g:=Q8c (ops:=ops.toList) (l:=a.tmps.toList) n c
    rw[s,q] at g
    rcases Lr h with ⟨e,h⟩ | ⟨e,h⟩
    ·rw[if_pos (g.2 e)];exact .inl (k h)
    ·rw[if_neg (fun h=>e (g.1 h))];exact f h
   ·rename_i c
    have g:=Q6X (ops:=ops.toList) (l:=a.tmps.toList) n c
    rw[s,q] at g
    rw[if_neg (by rw[g];simp)];exact f h
theorem Q04 (ops:Array Oper):(List.range ops.size).filterMap (ops[·]?)=ops.toList:=by
 apply List.ext_getElem?
 intro i
 rw[←Array.length_toList]
 have: ∀l:List Oper,(List.range l.length).filterMap (l[·]?)=l:=by
  intro l
  induction l with
  | nil=>rfl
  | cons x l a=>
   rw[List.length_cons,List.range_succ_eq_map,List.filterMap_cons]
   simp only[List.getElem?_cons_zero,List.filterMap_map]
   congr 1
 have h:=this ops.toList
 simp only[Array.getElem?_toList] at h
 rw[h]
theorem Q2j (b:Bool) (ops:Array Oper) (t:Nat): ∀i∈Region.schedule b ops t,i<ops.size:=by
 have key: ∀m c t a e,(∀i∈e,i<ops.size)→ ∀i∈Region.linearise.go m ops c t a e,i<ops.size:=by
  intro m c
  induction c with
  | zero=>intro t a e h i d;simp[Region.linearise.go] at d;exact h i d
  | succ c f=>
   intro t a e h i d
   simp only[Region.linearise.go] at d
   split at d
   ·rename_i j g
    refine f _ _ _ ?_ i d
    intro k hk
    rcases List.mem_cons.1 hk with rfl | hk
    ·have:=List.mem_of_getElem? g
     simp only[List.mem_filter,List.mem_range] at this
     exact this.1
    ·exact h k hk
   ·simp at d;exact h i d
 intro i d
 unfold Region.schedule at d
 split at d
 ·exact key _ _ _ _ _ (by simp) i d
 ·exact key _ _ _ _ _ (by simp) i d
def Qj (W:List Nat) (l l':List Value):Prop:=l'.length=l.length∧ ∀i,W.contains i=false→l'[i]? =l[i]?
theorem Qj.refl (W:List Nat) (l:List Value):Qj W l l:=⟨rfl,fun _ _=>rfl⟩
theorem Qj.trans {W:List Nat} {a b c:List Value} (h:Qj W a b) (k:Qj W b c):Qj W a c:=
 ⟨k.1.trans h.1,fun i d=>(k.2 i d).trans (h.2 i d)⟩
theorem Cg (a b:List Nat) (x:Tj a.length) (d:Nat→Value) (l:List Value): ∀i,(H3 a b x d i l).length=l.length:=by
 induction l with
 | nil=>intro i;rfl
 | cons v l c=>intro i;simp[H3,c]
theorem Cy (a b:List Nat) (x:Tj a.length) (d:Nat→Value) (l:List Value): ∀i j,(H3 a b x d i l)[j]? =(l[j]?).map fun v=>Hz (i+j) (if b.contains (i+j) then d (i+j) else v) a x:=by
 induction l with
 | nil=>intro i j;simp[H3]
 | cons v l c=>
  intro i j
  cases j with
  | zero=>simp[H3]
  | succ j=>simp only[H3,List.getElem?_cons_succ,c];rw[show i+1+j=i+(j+1) from by omega]
theorem Vm (i:Nat) (e:Value): ∀(b:List Nat) (x:Tj b.length),b.contains i=false→Hz i e b x=e
 | [],_,_=>rfl
 | [s],x,h=>by
  have a: ¬s=i:=by intro a;subst a;simp at h
  exact if_neg a
 | s::t::r,x,h=>by
  simp only[Hz]
  split
  ·rename_i a;subst a;simp at h
  ·refine Vm i e (t::r) x.2 ?_
   simp only[List.contains_cons,Bool.or_eq_false_iff] at h⊢
   exact h.2
theorem Q5v (l:List Value) (i:Nat) (e c:Value): ∀(a:List Nat),a.contains i=true→Hz i e a (Ov l a)=get l i
 | [],h=>by simp at h
 | [s],h=>by
  simp only[List.contains_cons,List.contains_nil,Bool.or_false,beq_iff_eq] at h
  subst h;simp[Hz,Ov]
 | s::t::r,h=>by
  simp only[Hz,Ov]
  split
  ·rename_i b;subst b;rfl
  ·rename_i b
   refine Q5v l i e c (t::r) ?_
   simp only[List.contains_cons,Bool.or_eq_true,beq_iff_eq] at h⊢
   rcases h with h | h
   ·exact absurd h.symm b
   ·exact h
theorem Kl (a c:List Nat) (l l':List Value) (g:l'.length=l.length)
 (h: ∀i,a.contains i=false→c.contains i=false→l'[i]? =l[i]?):l'=H3 a c (Ov l' a) (get l') 0 l:=by
 apply List.ext_getElem?
 intro i
 rw[Cy]
 simp only[Nat.zero_add]
 cases e:l[i]? with
 | none=>
  have:=List.getElem?_eq_none_iff.1 e
  simp only[Option.map_none]
  exact List.getElem?_eq_none (by omega)
 | some v=>
  have m:i<l.length:=(List.getElem?_eq_some_iff.1 e).1
  have j:l'[i]? =some (get l' i):=by
   simp only[get,List.getD_eq_getElem?_getD]
   rw[List.getElem?_eq_getElem (by omega)];rfl
  rw[j]
  simp only[Option.map_some,Option.some.injEq]
  by_cases k:a.contains i=true
  ·rw[Q5v l' i _ undef a k]
  ·have b:a.contains i=false:=by simpa using k
   rw[Vm _ _ _ _ b]
   by_cases f:c.contains i=true
   ·rw[if_pos f]
   ·have d:c.contains i=false:=by simpa using f
    rw[if_neg f]
    have:=h i b d
    rw[j,e] at this
    exact Option.some.inj this
theorem Q4B {v:Value} {t e b a:Prop} (c:t→b) (d:e→a) (h:X1 v t e):X1 v b a:=by
 rw[Q6c] at*
 unfold Q3d at*
 split at h
 ·exact c h
 ·exact d h
 ·exact h.elim
theorem Uc (P:Program) (c:List Oper) (next b:List Value→World→Prop) (W:List Nat) (j:List Value): ∀(ops:List Oper) (l:List Value) (w:World),
 (∀o∈ops,∀d,o.dst=some d→W.contains d=true)→Qj W j l→(∀l w,next l w→Qj W j l→b l w)→Z5 P c next ops l w→Z5 P c b ops l w
 | [],l,w,_,k,m,h=>m l w h k
 | o::f,l,w,r,k,m,h=>by
  have g: ∀v,Qj W j (put l o.dst v):=by
   intro v
   cases t:o.dst with
   | none=>exact k
   | some d=>
    have u:=r o (by simp) d t
    refine k.trans ⟨by simp[put],fun i q=>?_⟩
    have:d≠i:=by intro e;subst e;rw[u] at q;cases q
    simp[put,this]
  have a: ∀v w,Z5 P c next f (put l o.dst v) w→Z5 P c b f (put l o.dst v) w:=fun v w s=>
   Uc P c next b W j f _ w (fun o y=>r o (by simp[y])) (g v) m s
  simp only[Z5] at h⊢
  split at h
  ·exact K3 a h
  ·split at h
   ·refine Q0M ((Lr h).imp (fun ⟨p,n⟩=>⟨p,K3 a n⟩) (fun ⟨p,n⟩=>⟨p,a _ _ n⟩))
   ·exact a _ _ h
theorem Q4h {α:Type} {x0:α} {c b:(α→World→Prop)→α→(Nat→Value)→World→Prop} {w:World}
 (e: ∀a x d w,c a x d w→b a x d w) (h:lp x0 w c):lp x0 w b:=by
 obtain ⟨I,μ,f,g⟩:=Q9U h
 exact We I μ f fun x d w i=>e _ _ _ _ (g x d w i)
theorem T2 {a b:List Nat} {i:Nat} (h:a.contains i=true):(a++b).contains i=true:=by simp at h⊢;exact .inl h
theorem R5 {a b:List Nat} {i:Nat} (h:b.contains i=true):(a++b).contains i=true:=by simp at h⊢;exact .inr h
theorem Q4D (P:Program) (q:List (Option (List Nat))) (c:Code): ∀(k:Nat) (Q A:He) (W:List Nat) (m l:List Value) (w:World),
 (∀i,(O4 q k c).contains i=true→W.contains i=true)→Qj W m l→
 (∀e l w,Q e l w→Qj W m l→A e l w)→Df P q k c Q l w→Df P q k c A l w:=by
 induction c with
 | skip=>intro k Q A W m l w _ g j h;exact j _ _ _ h g
 | label n=>intro k Q A W m l w _ g j h;exact j _ _ _ h g
 | exit id=>intro k Q A W m l w _ g j h;exact j _ _ _ h g
 | ret=>intro k Q A W m l w _ g j h;exact j _ _ _ h g
 | goto n=>intro k Q A W m l w _ g j h;exact h.elim
 | refuse s=>intro k Q A W m l w _ g j h;exact h.elim
 | scope c=>intro k Q A W m l w _ g j h;exact h.elim
 | rangeFunc f p a b=>intro k Q A W m l w _ g j h;exact h.elim
 | region id ops M=>
  intro k Q A W m l w B g j h
  have O: ∀o∈ops.toList,∀d,o.dst=some d→W.contains d=true:=by
   intro o R d hd
   refine B d ?_
   simp only[O4,S1,List.contains_eq_mem,List.mem_filterMap,decide_eq_true_eq]
   exact ⟨o,R,hd⟩
  cases M with
  | false=>exact Uc P _ _ _ W m _ _ _ O g (fun l w U g=>j _ _ _ U g) h
  | true=>
   intro t
   refine Uc P _ _ _ W m _ _ _ ?_ g (fun l w U g=>j _ _ _ U g) (h t)
   intro o R
   simp only[List.mem_filterMap] at R
   obtain ⟨i,_,r⟩:=R
   exact O o (by simpa using Array.mem_of_getElem? r)
 | seq x y D E=>
  intro k Q A W m l w B g j h
  have X: ∀i,(O4 q (k+1) x).contains i=true→W.contains i=true:=fun i r=>B i (R5 (T2 r))
  have hy: ∀i,(O4 q (k+1+Qk x) y).contains i=true→W.contains i=true:=fun i r=>B i (R5 (R5 r))
  simp only[Df] at h⊢
  split at h
  ·refine D _ _ _ W m l w X g ?_ h
   intro e l' w' C u
   cases e with
   | normal=>exact E _ _ _ W m l' w' hy u j C
   | _=>exact j _ _ _ C u
  ·rename_i sl Z
   obtain ⟨J,N,L⟩:=Q5O h
   refine Ur J (D _ _ _ W m l w X g ?_ N) fun z d w hz=>?_
   ·intro e l' w' C u
    cases e with
    | normal=>exact C
    | _=>exact j _ _ _ C u
   ·refine E _ _ _ W m _ w hy (g.trans ⟨Cg _ _ _ _ _ _,fun i r=>?_⟩) j (L z d w hz)
    rw[Cy]
    have N:sl.contains i=false:=by
     cases H:sl.contains i with
     | false=>rfl
     | true=>rw[B i (T2 (by rw[Z];exact H))] at r;cases r
    have L:(O4 q (k+1) x).contains i=false:=by
     cases H:(O4 q (k+1) x).contains i with
     | false=>rfl
     | true=>rw[X i H] at r;cases r
    simp only[Nat.zero_add]
    cases hl:l[i]? with
    | none=>rfl
    | some v=>simp only[Option.map_some,Vm _ _ _ _ N,L,Bool.false_eq_true,if_false]
 | cond c x y D E=>
  intro k Q A W m l w B g j h
  exact Q4B (D k _ _ W m l w (fun i r=>B i (T2 r)) g j) (E _ _ _ W m l w (fun i r=>B i (R5 r)) g j) h
 | block id c Y=>
  intro k Q A W m l w B g j h
  refine Y k _ _ W m l w B g ?_ h
  intro e l' w' C u
  cases e with
  | exit ae=>simp only[Q3c] at C⊢;split<;>rename_i aa<;>simp only[aa,if_true,if_false] at C<;>exact j _ _ _ C u
  | _=>exact j _ _ _ C u
 | loop c Y=>
  intro k Q A W m l w B g j h
  refine Q4h (fun V x d w hb=>?_) h
  refine Y _ _ _ W m _ _ (fun i r=>B i (R5 r)) ?_ ?_ hb
  ·refine g.trans ⟨Cg _ _ _ _ _ _,fun i r=>?_⟩
   rw[Cy]
   have N:((q.getD k none).getD []).contains i=false:=by
    cases H:((q.getD k none).getD []).contains i with
    | false=>rfl
    | true=>rw[B i (T2 H)] at r;cases r
   have L:(O4 q (k+1) c).contains i=false:=by
    cases H:(O4 q (k+1) c).contains i with
    | false=>rfl
    | true=>rw[B i (R5 H)] at r;cases r
   simp only[Nat.zero_add]
   cases hl:l[i]? with
   | none=>rfl
   | some v=>simp only[Option.map_some,Vm _ _ _ _ N,L,Bool.false_eq_true,if_false]
  ·intro e l' w' C u
   cases e with
   | normal=>exact C
   | _=>exact j _ _ _ C u
theorem Q9m (P:Program) (g:List (Option (List Nat))) (c:Code): ∀(k:Nat) (Q:He) (a:Act) (w:World),
 a.defers=[]→Df P g k c Q a.tmps.toList w→c.wp P (lift Q) a w:=by
 induction c with
 | skip=>intro k Q a w j h;exact wp_skip ⟨j,h⟩
 | label n=>intro k Q a w j h;exact wp_label ⟨j,h⟩
 | exit id=>intro k Q a w j h;exact wp_exit ⟨j,h⟩
 | ret=>intro k Q a w j h;exact wp_ret ⟨j,h⟩
 | goto n=>intro k Q a w j h;exact h.elim
 | refuse s=>intro k Q a w j h;exact h.elim
 | scope c=>intro k Q a w j h;exact h.elim
 | rangeFunc f p a b=>intro k Q a w j h;exact h.elim
 | region id ops C=>
  intro k Q a w j h
  cases C with
  | false=>
   refine wp_region (Q0o P ops _ _ (fun a w j h=>⟨j,h⟩) _ (by simp) a w j ?_)
   rw[Q04];exact h
  | true=>
   refine wp_region_draw fun t=>?_
   exact Q0o P ops _ _ (fun a w j h=>⟨j,h⟩) _ (Q2j _ _ _) a _ j (h t)
 | seq x y r u=>
  intro k Q a w j h
  simp only[Df] at h
  split at h
  ·refine wp_seq (wp_mono (r _ _ a w j h) ?_)
   intro e o w' ⟨m,q⟩
   cases e with
   | normal=>exact u _ _ o w' m q
   | _=>exact ⟨m,q⟩
  ·rename_i Y ae
   obtain ⟨J,V,A⟩:=Q5O h
   have H:=Q4D P g x (k+1) _ (fun e l' w'=>thn (fun l' w'=>J (Ov l' Y) w') Q e l' w'∧Qj (O4 g (k+1) x) a.tmps.toList l') (O4 g (k+1) x) a.tmps.toList a.tmps.toList w (fun _ h=>h) (Qj.refl _ _) (fun e l w h O=>⟨h,O⟩) V
   refine wp_seq (wp_mono (r (k+1) _ a w j H) ?_)
   intro e o w' ⟨m,q,B⟩
   cases e with
   | normal=>
    refine u (k+1+Qk x) _ o w' m ?_
    rw[Kl Y (O4 g (k+1) x) a.tmps.toList o.tmps.toList B.1 (fun i _ h=>B.2 i h)]
    exact A _ _ _ q
   | _=>exact ⟨m,q⟩
 | cond c x y r u=>
  intro k Q a w j h
  simp only[Df,Q6c,Q3d] at h
  split at h
  ·rename_i M
   exact wp_cond_true (by rw[Q3F];exact M) (r _ _ _ _ j h)
  ·rename_i M
   exact wp_cond_false (by rw[Q3F];exact M) (u _ _ _ _ j h)
  ·exact h.elim
 | block id c U=>
  intro k Q a w j h
  refine wp_block (wp_mono (U k _ a w j h) ?_)
  intro e o w' ⟨m,q⟩
  cases e with
  | exit ab=>
   simp only[Q3c,Exit.inBlock] at q⊢
   split<;>rename_i W<;>simp only[W,if_true,if_false] at q<;>exact ⟨m,q⟩
  | _=>exact ⟨m,q⟩
 | loop c U=>
  intro k Q a w j h
  obtain ⟨I,μ,h0,hr⟩:=Q9U h
  refine wp_loop (fun o w'=>o.defers=[]∧(∃d,o.tmps.toList=H3 ((g.getD k none).getD []) (O4 g (k+1) c) (Ov o.tmps.toList ((g.getD k none).getD [])) d 0 a.tmps.toList)∧I (Ov o.tmps.toList ((g.getD k none).getD [])) w') (fun o w'=>μ (Ov o.tmps.toList ((g.getD k none).getD [])) w') ⟨j,⟨get a.tmps.toList,Kl _ _ _ _ rfl (fun _ _ _=>rfl)⟩,h0⟩ ?_
  intro E w1 ⟨N,⟨Z,v⟩,X⟩
  have R:=hr _ Z w1 X
  dsimp only at R
  rw[←v] at R
  have L:=Q4D P g c (k+1) _ (fun e l' w'=>thn (fun l' w'=>I (Ov l' ((g.getD k none).getD [])) w'∧μ (Ov l' ((g.getD k none).getD [])) w'<μ (Ov E.tmps.toList ((g.getD k none).getD [])) w1) Q e l' w'∧Qj (O4 g (k+1) c) E.tmps.toList l') (O4 g (k+1) c) E.tmps.toList E.tmps.toList w1 (fun _ h=>h) (Qj.refl _ _) (fun e l w h O=>⟨h,O⟩) R
  refine wp_mono (U _ _ E w1 N L) ?_
  intro e a2 w2 ⟨z,A,D⟩
  cases e with
  | normal=>
   refine ⟨⟨z,⟨get a2.tmps.toList,Kl _ _ _ _ ?_ ?_⟩,A.1⟩,A.2⟩
   ·rw[D.1,v,Cg]
   ·intro i V H
    rw[D.2 i H,v,Cy]
    simp only[Nat.zero_add,Vm _ _ _ _ V,H,Bool.false_eq_true,if_false,Option.map_id']
  | _=>exact ⟨z,A⟩
def Q8p:List Value→Nat→Value→(List Value→Prop)→Prop
 | [],_,_,k=>k []
 | _::l,0,v,k=>k (v::l)
 | x::l,n+1,v,k=>Q8p l n v (fun l'=>k (x::l'))
def Q3I (l:List Value) (d:Option Tmp) (v:Value) (k:List Value→Prop):Prop:=
 match d with
 | some d=>Q8p l d v k
 | none=>k l
def Q7V:List Value→Nat→(Value→Prop)→Prop
 | [],_,k=>k undef
 | x::_,0,k=>k x
 | _::l,n+1,k=>Q7V l n k
def evK (l:List Value) (o:Operand) (k:Value→Prop):Prop:=
 match o with
 | .tmp t=>Q7V l t k
 | .const v=>k v
 | .global g=>k (.pointer (some ⟨g,0,none⟩))
 | .func f=>k (.func (.func f) #[] #[])
def Q2V (i:Nat) (e:Value):(a:List Nat)→Tj a.length→(Value→Prop)→Prop
 | [],_,k=>k e
 | [s],x,k=>if s=i then k x else k e
 | s::t::r,x,k=>if s=i then k x.1 else Q2V i e (t::r) x.2 k
def Gm (a b:List Nat) (x:Tj a.length) (d:Nat→Value):Nat→List Value→(List Value→Prop)→Prop
 | _,[],k=>k []
 | i,v::l,k=>match b.contains i with
  | true=>Q2V i (d i) a x (fun u=>Gm a b x d (i+1) l (fun l'=>k (u::l')))
  | false=>Q2V i v a x (fun u=>Gm a b x d (i+1) l (fun l'=>k (u::l')))
theorem X20 (l:List Value): ∀(n:Nat) (v:Value) (k:List Value→Prop),Q8p l n v k=k (l.set n v):=by
 induction l with
 | nil=>intro n v k;rfl
 | cons x l a=>intro n v k;cases n with
  | zero=>rfl
  | succ n=>simp only[Q8p,a,List.set_cons_succ]
theorem Q79 (l:List Value) (d:Option Tmp) (v:Value) (k:List Value→Prop):Q3I l d v k=k (put l d v):=by
 cases d with
 | none=>rfl
 | some d=>exact X20 l d v k
theorem X2i (l:List Value): ∀(n:Nat) (k:Value→Prop),Q7V l n k=k (get l n):=by
 induction l with
 | nil=>intro n k;rfl
 | cons x l a=>intro n k;cases n with
  | zero=>rfl
  | succ n=>simp only[Q7V,a];rfl
theorem X2y (l:List Value) (o:Operand) (k:Value→Prop):evK l o k=k (ev l o):=by
 cases o with
 | tmp t=>exact X2i l t k
 | _=>rfl
theorem Q0R (i:Nat) (e:Value) (k:Value→Prop): ∀(a:List Nat) (x:Tj a.length),Q2V i e a x k=k (Hz i e a x)
 | [],_=>rfl
 | [s],x=>by
  by_cases h:s=i
  ·exact (if_pos h).trans (congrArg k (if_pos h).symm)
  ·exact (if_neg h).trans (congrArg k (if_neg h).symm)
 | s::t::r,x=>by
  by_cases h:s=i
  ·exact (if_pos h).trans (congrArg k (if_pos h).symm)
  ·exact ((if_neg h).trans (Q0R i e k (t::r) x.2)).trans (congrArg k (if_neg h).symm)
theorem Q4d (a b:List Nat) (x:Tj a.length) (d:Nat→Value) (l:List Value): ∀(i:Nat) (k:List Value→Prop),Gm a b x d i l k=k (H3 a b x d i l):=by
 induction l with
 | nil=>intro i k;rfl
 | cons v l c=>
  intro i k
  simp only[Gm,H3]
  split
  ·rename_i h;rw[Q0R,c,if_pos h]
  ·rename_i h;rw[Q0R,c,if_neg (by rw[h];simp)]
theorem Ba (b c a:List Nat) (h: ∀i,c.contains i=a.contains i) (x:Tj b.length) (d:Nat→Value) (l:List Value): ∀i,H3 b c x d i l=H3 b a x d i l:=by
 induction l with
 | nil=>intro i;rfl
 | cons v l e=>intro i;simp only[H3,e,h]
noncomputable def Qd (P:Program) (ops:List Oper) (next:List Value→World→Prop):List Oper→List Value→World→Prop
 | [],l,w=>next l w
 | o::a,l,w=>
  match o.guard with
  | none=>match o.op with
   | .move x=>evK l x fun v=>Q3I l o.dst v fun l=>Qd P ops next a l w
   | .assign x=>evK l x fun v=>Q3I l o.dst v fun l=>Qd P ops next a l w
   | _=>L1 P l o w (fun v w=>Q3I l o.dst v fun l=>Qd P ops next a l w)
  | some (j,b)=>match (ops[j]?).bind (·.dst) with
   | some d=>Q0 (get l d) b w (L1 P l o) (fun v w=>Q3I l o.dst v fun l=>Qd P ops next a l w)
   | none=>Q3I l o.dst undef fun l=>Qd P ops next a l w
theorem Kg (P:Program) (ops:List Oper) (next:List Value→World→Prop) (os:List Oper): ∀(l:List Value) (w:World),Qd P ops next os l w=Z5 P ops next os l w:=by
 induction os with
 | nil=>intro l w;rfl
 | cons o c a=>
  intro l w
  obtain ⟨dst,p,e,pos,d,g⟩:=o
  cases g with
  | none=>cases p<;>simp only[Qd,Z5,Q79,X2y,a,L1]
  | some q=>obtain ⟨j,b⟩:=q;simp only[Qd,Z5,Q79,a]
def Ss (T:World→World→Prop) (φ:Value→World→Prop):Prop:= ∀v w w',φ v w→T w w'→φ v w'
def dk (T:World→World→Prop) (φ:Value→World→Prop) (w:World):Value→World→Prop:=fun v w'=>T w w'∧φ v w'
def Q5V (T:World→World→Prop) (A:(Value→World→Prop)→Prop) (a:(Value→World→Prop)→Prop):Prop:=
 ∃φ,Ss T φ∧A φ∧a φ
theorem Q9H: ∃f:(World→World→Prop)→((Value→World→Prop)→Prop)→((Value→World→Prop)→Prop)→Prop,f=Q5V:=⟨_,rfl⟩
noncomputable def Q5:(World→World→Prop)→((Value→World→Prop)→Prop)→((Value→World→Prop)→Prop)→Prop:=Classical.choose Q9H
theorem Q9F:Q5=Q5V:=Classical.choose_spec Q9H
def Q8I (w:World) (A:(World→World→Prop)→(World→Prop)→Prop):Prop:= ∃T B,B w.drew∧(∀w w',B w→T w w'→B w')∧A T B
theorem X1k: ∃f:World→((World→World→Prop)→(World→Prop)→Prop)→Prop,f=Q8I:=⟨_,rfl⟩
noncomputable def dr:World→((World→World→Prop)→(World→Prop)→Prop)→Prop:=Classical.choose X1k
theorem X1f:dr=Q8I:=Classical.choose_spec X1k
theorem Is {w:World} {A:(World→World→Prop)→(World→Prop)→Prop} (T:World→World→Prop) (B:World→Prop) (h:B w.drew) (b: ∀w w',B w→T w w'→B w') (a:A T B):dr w A:=by
 rw[X1f];exact ⟨T,B,h,b,a⟩
theorem H0 {T:World→World→Prop} {A a:(Value→World→Prop)→Prop} (φ:Value→World→Prop) (c:Ss T φ) (h:A φ) (b:a φ):Q5 T A a:=by
 rw[Q9F];exact ⟨φ,c,h,b⟩
def Q3P (T:World→World→Prop) (A a:(List Value→Value→World→Prop)→Prop):Prop:=
 ∃φ,(∀xs,Ss T (φ xs))∧A φ∧a φ
theorem Q7w: ∃f:(World→World→Prop)→((List Value→Value→World→Prop)→Prop)→((List Value→Value→World→Prop)→Prop)→Prop,f=Q3P:=⟨_,rfl⟩
noncomputable def Sr:(World→World→Prop)→((List Value→Value→World→Prop)→Prop)→((List Value→Value→World→Prop)→Prop)→Prop:=Classical.choose Q7w
theorem Q7f:Sr=Q3P:=Classical.choose_spec Q7w
theorem Q3Y {T:World→World→Prop} {A a:(List Value→Value→World→Prop)→Prop} (φ:List Value→Value→World→Prop) (c: ∀xs,Ss T (φ xs)) (h:A φ) (b:a φ):Sr T A a:=by
 rw[Q7f];exact ⟨φ,c,h,b⟩
noncomputable def runOp (P:Program) (ops:List Oper) (l:List Value) (o:Oper) (w:World) (K:Value→World→Prop):Prop:=
 match o.guard with
 | none=>L1 P l o w K
 | some (j,b)=>match (ops[j]?).bind (·.dst) with
  | some d=>Q0 (get l d) b w (L1 P l o) K
  | none=>False
inductive Ent where
  | val (v : Value)
  | ref (j : Nat)
def Ent.at (u:Nat→Value):Ent→Value
 | .val v=>v
 | .ref j=>u j
def Qc (u:Nat→Value) (S:List Ent):List Value:=S.map (Ent.at u)
def getE:List Ent→Nat→Ent
 | [],_=> .val undef
 | x::_,0=>x
 | _::l,n+1=>getE l n
def entOf (S:List Ent):Operand→Ent
 | .tmp t=>getE S t
 | .const v=> .val v
 | .global g=> .val (.pointer (some ⟨g,0,none⟩))
 | .func f=> .val (.func (.func f) #[] #[])
def mv (o:Oper):Option Operand:=
 match o.guard with
 | some _=>none
 | none=>match o.op with
  | .move x=>some x
  | .assign x=>some x
  | _=>none
def Q2s:List Ent→Nat→Ent→List Ent
 | [],_,_=>[]
 | _::l,0,e=>e::l
 | x::l,n+1,e=>x::Q2s l n e
def putE (S:List Ent) (d:Option Nat) (e:Ent):List Ent:=
 match d with
 | some d=>Q2s S d e
 | none=>S
def B4 (o:Oper):List Nat:=o.op.operands.toList.filterMap fun | .tmp t=>some t | _=>none
def R0 (ops:List Oper) (o:Oper):List Nat:=
 match o.guard with
 | none=>[]
 | some (j,_)=>match (ops[j]?).bind (·.dst) with | some d=>[d] | none=>[]
def Q1w:List Nat→List Nat
 | []=>[]
 | x::l=>x::(Q1w l).filter (fun y=> !(y==x))
def Q4Z:Ent→List Nat
 | .ref j=>[j]
 | .val _=>[]
def Q1n (S:List Ent):List Nat→List Nat
 | []=>[]
 | s::l=>Q4Z (getE S s)++Q1n S l
def refs (ops:List Oper) (S:List Ent) (o:Oper):List Nat:=Q1w (Q1n S (R0 ops o++B4 o))
def Pu:List Nat→(Nat→Value)→((Nat→Value)→Prop)→Prop
 | [],u,k=>k u
 | j::a,u,k=> ∀t:Value,Pu a (fun n=>if n=j then t else u n) k
abbrev Si:=List (Nat×List Nat×(List Value→Value→World→Prop))
def Vb:Si→Nat→Option (List Nat×(List Value→Value→World→Prop))
 | [],_=>none
 | (i,φ)::l,j=>if i=j then some φ else Vb l j
def Ka (b:Si) (u:Nat→Value) (w:World) (a:Prop):List Nat→Prop
 | []=>a
 | j::c=>match Vb b j with
  | some ([],φ)=>φ [] (u j) w→Ka b u w a c
  | _=>Ka b u w a c
def Q1k (b:Si) (u:Nat→Value) (w:World) (a:Prop):List Nat→Prop
 | []=>a
 | j::c=>match Vb b j with
  | some (R,φ)=>φ (R.map u) (u j) w→Q1k b u w a c
  | none=>Q1k b u w a c
def Q7Q (o:Oper):Bool:=match o.op with | .store .. =>true | _=>false
noncomputable def chain (P:Program) (ops:List Oper) (T:World→World→Prop) (B:World→Prop) (W3:List Value→World→Prop) (tail:List Oper):Nat→List Oper→List Ent→Si→List Nat→Prop
 | _,[],S,b,done=>Pu done (fun _=>undef) fun u=> ∀w,B w→Q1k b u w (Qd P ops W3 tail (Qc u S) w) done
 | i,o::a,S,b,done=>
  match mv o with
  | some x=>chain P ops T B W3 tail (i+1) a (putE S o.dst (entOf S x)) b done
  | none=>match Q7Q o with
   | true=>Sr T (fun φ=>Pu (refs ops S o) (fun _=>undef) fun u=> ∀w,B w→Ka b u w (runOp P ops (Qc u S) o w (dk T (φ ((refs ops S o).map u)) w)) (refs ops S o))
    (fun φ=>chain P ops T B W3 tail (i+1) a (putE S o.dst (.ref i)) (b++[(i,refs ops S o,φ)]) (done++[i]))
   | false=>Q5 T (fun φ=>Pu (refs ops S o) (fun _=>undef) fun u=> ∀w,B w→Ka b u w (runOp P ops (Qc u S) o w (dk T φ w)) (refs ops S o))
    (fun φ=>chain P ops T B W3 tail (i+1) a (putE S o.dst (.ref i)) (b++[(i,[],fun _=>φ)]) (done++[i]))
def Xu:Op→Bool
 | .ready _ | .waits _ | .sliceToArrayPointer .. | .makeChan .. | .typeAssert .. | .go _ | .defer _ | .send .. | .recv .. | .select .. =>false
 | .call c=>match c.callee with | .invoke .. =>false | _=>true
 | _=>true
theorem Bj {l l':List Value} {x:Option Operand} (h: ∀y∈x.toArray,ev l y=ev l' y):evo l x=evo l' x:=by
 cases x with
 | none=>rfl
 | some y=>simp only[evo];rw[h y (by simp)]
theorem Q09 {l l':List Value} {xs:Array Operand} (h: ∀y∈xs,ev l y=ev l' y):evs l xs=evs l' xs:=by
 unfold evs;exact List.map_congr_left fun y a=>h y (by simpa using a)
theorem Q48 {l l':List Value} {xs:Array (Nat×Operand)} (h: ∀y∈(xs.toList.map (·.2)).toArray,ev l y=ev l' y):evp l xs=evp l' xs:=by
 unfold evp
 refine List.map_congr_left fun y a=>?_
 rw[h y.2 (by simp;exact ⟨y.1,by simpa using a⟩)]
theorem Dv {P:Program} {l l':List Value} {o:Oper} (k:Xu o.op=true) (h: ∀x∈o.op.operands,ev l x=ev l' x):L1 P l o=L1 P l' o:=by
 obtain ⟨d,p,C,pos,B,g⟩:=o
 funext w K
 cases p with
 | call c=>
  obtain ⟨j,i,D⟩:=c
  have q:evs l i=evs l' i:=Q09 fun y e=>h y (by simp[Op.operands,Call.operands];exact .inr e)
  cases j with
  | invoke r m=>simp[Xu] at k
  | builtin b=>simp only[L1,Dk,q]
  | value f=>
   have s:ev l f=ev l' f:=h f (by simp[Op.operands,Call.operands])
   cases f<;>simp only[L1,Dk,q,s]
 | build t z=>simp only[L1];rw[Q48 h]
 | buildSlice t n z=>simp only[L1];rw[Q48 h]
 | makeFunc f a b=>
  simp only[L1]
  rw[Q09 (xs:=a) fun y e=>h y (by simp[Op.operands];exact .inl e),Q09 (xs:=b) fun y e=>h y (by simp[Op.operands];exact .inr e)]
 | makeMap t r=>simp only[L1];rw[Bj h]
 | slice t x u A v=>
  simp only[L1]
  rw[h x (by simp[Op.operands]),Bj (x:=u) fun y e=>h y (by simp[Op.operands] at e⊢;simp[e]),Bj (x:=A) fun y e=>h y (by simp[Op.operands] at e⊢;simp[e]),Bj (x:=v) fun y e=>h y (by simp[Op.operands] at e⊢;simp[e])]
 | _=>first
  | (simp[Xu] at k;done)
  | (simp only[Op.operands,List.mem_toArray,List.mem_cons,List.not_mem_nil,or_false,forall_eq_or_imp,forall_eq] at h;simp only[L1,h];done)
  | rfl
def Q10:List Oper→List Nat→List Nat
 | [],acc=>acc
 | o::a,acc=>Q10 a (acc++[(o.after.toList.filter (Region.binds .any)).foldl (fun s e=>s ||| 2 ^ e.on ||| acc.getD e.on 0) 0])
def Qs (a b:Oper):Bool:=
 match a.dst with
 | some d=>(B4 b).contains d||b.dst==some d
 | none=>false
def Q7x (a:List Nat) (ops:List Oper):Bool:=
 ops.zipIdx.all fun (o,j)=>ops.zipIdx.all fun (q,i)=> !(decide (i<j))|| !(Qs q o||Qs o q)||(a.getD j 0).testBit i
def Lp (ops:List Oper):Bool:=
 ops.zipIdx.all fun (o,i)=>Xu o.op&&(o.after.toList.filter (Region.binds .any)).all (fun e=>decide (e.on<i))&&
  match o.guard with | none=>true | some (j,_)=>(o.after.toList.filter (Region.binds .any)).any (fun e=>e.on==j)
def Q4W (m:Region.Mode) (ops:List Oper):List Nat→List Nat→Bool
 | [],_=>true
 | j::L,seen=>((ops[j]?.map fun o=>o.after.toList).getD []).all (fun e=> !Region.binds m e||seen.contains e.on)&&Q4W m ops L (j::seen)
def Zg (m:Region.Mode) (ops:List Oper) (L:List Nat):Bool:=
 Q4W m ops L []&&(List.range ops.length).all (L.contains ·)&&ops.all (fun o=>o.after.toList.all fun e=> !Region.binds m e||decide (e.on<ops.length))
def X2F (m:Region.Mode) (ops:List Oper):Nat→List Nat→List Nat→List Nat
 | 0,_,seen=>seen.reverse
 | n+1,a,seen=>
  match a.find? (fun j=>((ops[j]?.map fun o=>o.after.toList).getD []).all (fun e=> !Region.binds m e||seen.contains e.on)) with
  | some j=>X2F m ops n (a.erase j) (j::seen)
  | none=>seen.reverse
def Jz:List Nat→Bool
 | []=>true
 | x::l=> !l.contains x&&Jz l
def A5 (ops:List Oper) (j:Nat):List Nat:=(ops[j]?.map fun o=>(o.after.toList.filter (Region.binds .any)).map (·.on)).getD []
def Cc (ops:List Oper) (L:List Nat):Prop:= ∀a j b,L=a++j::b→ ∀i∈A5 ops j,i∈a
theorem Q5c (f:Edge→Nat) (l:List Edge): ∀(s i:Nat),(l.foldl (fun s e=>s ||| 2 ^ e.on ||| f e) s).testBit i=true→
 s.testBit i=true∨ ∃e∈l,e.on=i∨(f e).testBit i=true:=by
 induction l with
 | nil=>intro s i h;exact .inl h
 | cons e l a=>
  intro s i h
  rcases a _ _ h with h | ⟨b,c,h⟩
  ·simp only[Nat.testBit_or,Bool.or_eq_true] at h
   rcases h with (h | h) | h
   ·exact .inl h
   ·rw[Nat.testBit_two_pow] at h
    exact .inr ⟨e,by simp, .inl (by simpa using h)⟩
   ·exact .inr ⟨e,by simp, .inr h⟩
  ·exact .inr ⟨b,by simp[c],h⟩
theorem Q4a (a:List Oper): ∀(b:List Oper) (acc:List Nat),acc.length+b.length=a.length→(∀k,acc.length≤k→a[k]? =b[k-acc.length]?)→
 (∀j i,j<acc.length→(acc.getD j 0).testBit i=true→ ∃k∈A5 a j,k=i∨(k<j∧(acc.getD k 0).testBit i=true))→
 (∀j,j<a.length→ ∀k∈A5 a j,k<j)→
 ∀j i,j<a.length→((Q10 b acc).getD j 0).testBit i=true→ ∃k∈A5 a j,k=i∨(k<j∧((Q10 b acc).getD k 0).testBit i=true)
 | [],acc,q,_,c,_=>by
  intro j i t h
  exact c j i (by simp at q;omega) h
 | o::b,acc,q,g,c,n=>by
  have z:a[acc.length]? =some o:=by rw[g _ (Nat.le_refl _)];simp
  refine Q4a a b _ (by simp at q⊢;omega) ?_ ?_ n
  ·intro k l
   simp only[List.length_append,List.length_cons,List.length_nil] at l⊢
   rw[g k (by omega)]
   obtain ⟨m,y⟩: ∃m,k-acc.length=m+1:=⟨k-acc.length-1,by omega⟩
   rw[y,List.getElem?_cons_succ]
   congr 1;omega
  ·intro j i t h
   simp only[List.length_append,List.length_cons,List.length_nil] at t
   have d: ∀k,k<acc.length→(acc++[(o.after.toList.filter (Region.binds .any)).foldl (fun s e=>s ||| 2 ^ e.on ||| acc.getD e.on 0) 0]).getD k 0=acc.getD k 0:=by
    intro k l
    simp only[List.getD_eq_getElem?_getD]
    rw[List.getElem?_append_left l]
   by_cases p:j<acc.length
   ·rw[d j p] at h
    obtain ⟨k,l,h⟩:=c j i p h
    exact ⟨k,l,h.imp id fun ⟨w,u⟩=>⟨w,by rw[d k (by omega)];exact u⟩⟩
   ·have r:j=acc.length:=by omega
    subst r
    simp only[List.getD_eq_getElem?_getD,List.getElem?_append_right (Nat.le_refl _),Nat.sub_self,List.getElem?_cons_zero,Option.getD_some] at h
    rcases Q5c (fun e=>acc.getD e.on 0) _ _ _ (by simpa only[List.getD_eq_getElem?_getD] using h) with h | ⟨e,v,h⟩
    ·simp at h
    ·have f:e.on∈A5 a acc.length:=by
      unfold A5;rw[z];simp only[Option.map_some,Option.getD_some,List.mem_map];exact ⟨e,v,rfl⟩
     refine ⟨e.on,f,h.imp id fun h=>?_⟩
     have l:=n acc.length (by simp at q;omega) _ f
     exact ⟨l,by rw[d _ l];exact h⟩
theorem Ig {ops:List Oper} (h:Lp ops=true): ∀j,j<ops.length→ ∀k∈A5 ops j,k<j:=by
 intro j b k a
 simp only[Lp,List.all_eq_true,Bool.and_eq_true] at h
 unfold A5 at a
 rw[List.getElem?_eq_getElem b] at a
 simp only[Option.map_some,Option.getD_some,List.mem_map] at a
 obtain ⟨e,c,rfl⟩:=a
 have:=(h (ops[j],j) (by rw[List.mem_zipIdx_iff_getElem?];simp[b])).1.2 e c
 simpa using this
theorem Q63 {ops:List Oper} (p:Lp ops=true) {L:List Nat} (o:Cc ops L): ∀(j:Nat),j<ops.length→ ∀i b a,L=b++j::a→((Q10 ops []).getD j 0).testBit i=true→i∈b:=by
 intro j
 induction j using Nat.strongRecOn with
 | _ j n=>
  intro e i b a f l
  obtain ⟨k,q,h⟩:=Q4a ops ops [] (by simp) (by simp) (by intro j i e;simp at e) (Ig p) j i e l
  have c:=o b j a f k q
  rcases h with rfl | ⟨d,h⟩
  ·exact c
  ·obtain ⟨m,g,rfl⟩:=List.append_of_mem c
   have:=n k d (by omega) i m (g++j::a) (by rw[f];simp) h
   exact List.mem_append_left _ this
theorem Wv: ∀(n:Nat) (a:List Nat),(∀k,k<n→k∈a)→n≤a.length
 | 0,_,_=>Nat.zero_le _
 | n+1,a,h=>by
  have c:=Wv n (a.erase n) fun k b=>(List.mem_erase_of_ne (by omega)).2 (h k (by omega))
  have d:=List.length_erase_of_mem (h n (by omega))
  have e:=List.length_pos_of_mem (h n (by omega))
  omega
theorem G5: ∀(n:Nat) (l:List Nat),l.Nodup→(∀k∈l,k<n)→l.length≤n
 | 0,l,_,h=>by
  cases l with
  | nil=>simp
  | cons x l=>exact absurd (h x (by simp)) (by omega)
 | n+1,l,b,h=>by
  by_cases c:n∈l
  ·have g:=G5 n (l.erase n) (b.erase n) fun k a=>by
    have d:=h k (List.mem_of_mem_erase a)
    have f:k≠n:=fun e=>by subst e;exact (List.Nodup.not_mem_erase b) a
    omega
   have d:=List.length_erase_of_mem c
   have f:=List.length_pos_of_mem c
   omega
  ·have:=G5 n l b fun k a=>by
    have d:=h k a
    have f:k≠n:=fun e=>by subst e;exact c a
    omega
   omega
theorem Q9j {m:Region.Mode} {e:Edge} (h:Region.binds .any e=true):Region.binds m e=true:=by
 unfold Region.binds at h⊢
 cases a:e.ground<;>rw[a] at h<;>first | rfl | (exact absurd h (by simp<;>rfl)) | (simp at h;cases h)
theorem Q85 {m:Region.Mode} {ops:List Oper} {L:List Nat} (h:Zg m ops L=true) (k:Nat) (a:k<ops.length): ∀e∈(ops[k]?.map fun o=>o.after.toList).getD [],Region.binds m e=true→e.on<ops.length:=by
 intro e b c
 simp only[Zg,Bool.and_eq_true,List.all_eq_true] at h
 rw[List.getElem?_eq_getElem a] at b
 have:=h.2 ops[k] (List.getElem_mem a) e (by simpa using b)
 rw[c] at this
 simpa using this
theorem Q5U {m:Region.Mode} {ops:List Oper} {L:List Nat} (h:Zg m ops L=true): ∀k,k<ops.length→k∈L:=by
 intro k a
 simp only[Zg,Bool.and_eq_true,List.all_eq_true] at h
 simpa using h.1.2 k (by simpa using a)
theorem Q7v (m:Region.Mode) (ops:Array Oper) (R:Lp ops.toList=true) (Z:List Nat) (O:Zg m ops.toList Z=true): ∀(fuel t:Nat) (listed:Array Bool) (a:List Nat),
 fuel+a.length=ops.size→listed.size=ops.size→(∀i,i<ops.size→(listed.getD i true=true↔i∈a))→a.Nodup→(∀i∈a,i<ops.size)→Cc ops.toList a.reverse→
 (Region.linearise.go m ops fuel t listed a).Nodup∧(Region.linearise.go m ops fuel t listed a).length=ops.size∧Cc ops.toList (Region.linearise.go m ops fuel t listed a)
 | 0,t,listed,a,hf,_,_,U,_,hr=>by
  simp only[Region.linearise.go]
  exact ⟨List.pairwise_reverse.2 (U.imp fun h=>Ne.symm h),by simp;omega,hr⟩
 | fuel+1,t,listed,a,hf,B,w,U,y,hr=>by
  -- one that isn't listed may come
  have ad: ∃k,k<ops.size∧k∉a:=by
   refine Classical.byContradiction fun ab=>?_
   have H: ∀k,k<ops.size→k∈a:=fun k hk=>Classical.byContradiction fun h=>ab ⟨k,hk,h⟩
   have:=Wv ops.size a H
   omega
  simp only[Region.linearise.go]
  split
  ·rename_i i hi
   have l:=List.mem_of_getElem? hi
   simp only[List.mem_filter,List.mem_range,Bool.and_eq_true,Bool.not_eq_true'] at l
   obtain ⟨c,s,q⟩:=l
   have A:i∉a:=fun h=>by rw[(w i c).2 h] at s;cases s
   refine Q7v m ops R Z O fuel _ _ _ (by simp;omega) (by simp[B]) ?_ (List.nodup_cons.2 ⟨A,U⟩) ?_ ?_
   ·intro j hj
    by_cases n:i=j
    ·subst n;simp[Array.getD,B,c]
    ·have:(listed.setIfInBounds i true).getD j true=listed.getD j true:=by
      simp only[Array.getD_eq_getD_getElem?]
      rw[Array.getElem?_setIfInBounds_ne n]
     rw[this,w j hj]
     simp[Ne.symm n]
   ·intro j hj
    rcases List.mem_cons.1 hj with rfl | hj
    ·exact c
    ·exact y j hj
   ·rw[List.reverse_cons]
    intro W j N V k hk
    rcases List.eq_nil_or_concat N with rfl | ⟨p,x,rfl⟩
    ·have hh:=List.append_inj' V rfl
     obtain ⟨h1,h2⟩:=hh
     simp only[List.cons.injEq,and_true] at h2
     subst h2;subst h1
     have ae:=hk
     unfold A5 at hk
     rw[show ops.toList[i]? =some ops[i] by simp[c]] at hk
     simp only[Option.map_some,Option.getD_some,List.mem_map,List.mem_filter] at hk
     obtain ⟨e,⟨f,af⟩,rfl⟩:=hk
     rw[show ops[i]? =some ops[i] by simp[c]] at q
     simp only[Option.map_some,Option.getD_some,Array.all_eq_true'] at q
     have h4:=q e (by simpa using f)
     simp only[Bool.or_eq_true,Bool.not_eq_true'] at h4
     rcases h4 with h4 | h4
     ·rw[Q9j af] at h4;cases h4
     ·have ak:=Ig R i (by simpa using c) e.on ae
      have:listed.getD e.on true=true:=by
       simp only[Array.getD_eq_getD_getElem?] at h4⊢
       rw[Array.getElem?_eq_getElem (by omega)] at h4⊢
       simpa using h4
      simpa using (w e.on (by omega)).1 this
    ·rw[List.concat_eq_append,←List.cons_append,←List.append_assoc] at V
     have hh:=List.append_inj' V rfl
     exact hr W j p hh.1 k hk
  ·rename_i r
   exfalso
   obtain ⟨k0,E,z⟩:=ad
   have J:=O
   simp only[Zg,Bool.and_eq_true] at J
   -- every number of L0 that is none of an operation's has no edges: it may stand there, but isn't looked at
   have g: ∃k,k<ops.size∧k∉a∧ ∀e∈(ops.toList[k]?.map fun o=>o.after.toList).getD [],Region.binds m e=true→e.on∈a∨ops.size≤e.on:=by
    -- the first of L0 that is an operation's number and isn't listed
    have key: ∀(L b:List Nat),Q4W m ops.toList L b=true→(∀k∈b,k∈a∨ops.size≤k)→(∃k∈L,k<ops.size∧k∉a)→
     ∃k,k<ops.size∧k∉a∧ ∀e∈(ops.toList[k]?.map fun o=>o.after.toList).getD [],Region.binds m e=true→e.on∈a∨ops.size≤e.on:=by
     intro L
     induction L with
     | nil=>rintro b _ _ ⟨k,hk,_⟩;simp at hk
     | cons j L ih=>
      rintro b h hs ⟨k,hk,Y,D⟩
      simp only[Q4W,Bool.and_eq_true,List.all_eq_true] at h
      by_cases hj:j∈a∨ops.size≤j
      ·refine ih (j::b) h.2 (fun x hx=>by rcases List.mem_cons.1 hx with rfl | hx;exact hj;exact hs x hx) ⟨k,?_,Y,D⟩
       rcases List.mem_cons.1 hk with rfl | hk
       ·rcases hj with hj | hj
        ·exact absurd hj D
        ·omega
       ·exact hk
      ·have X:j<ops.size:=by
        refine Nat.lt_of_not_le fun h=>hj (.inr h)
       refine ⟨j,X,fun h=>hj (.inl h),fun e R Q=>?_⟩
       have:=h.1 e R
       rw[Q] at this
       exact hs _ (by simpa using this)
    exact key Z [] J.1.1 (by simp) ⟨k0,Q5U O k0 (by simpa using E),E,z⟩
   obtain ⟨k,d,ac,M⟩:=g
   by_cases C:k∈(List.range ops.size).filter fun i=> !listed.getD i true&&((ops[i]?).map (·.after.all fun e=> !Region.binds m e||listed.getD e.on false)).getD false
   ·have v:=List.length_pos_of_mem C
    have:=List.getElem?_eq_none_iff.1 r
    have:=Nat.mod_lt t v
    omega
   ·refine C ?_
    simp only[List.mem_filter,List.mem_range,Bool.and_eq_true,Bool.not_eq_true']
    refine ⟨d,?_,?_⟩
    ·cases hc:listed.getD k true with
     | false=>rfl
     | true=>exact absurd ((w k d).1 hc) ac
    ·rw[show ops[k]? =some ops[k] by simp[d]]
     simp only[Option.map_some,Option.getD_some,Array.all_eq_true']
     intro e f
     simp only[Bool.or_eq_true,Bool.not_eq_true']
     cases Q:Region.binds m e with
     | false=>exact .inl rfl
     | true=>
      right
      rw[show ops.toList[k]? =some ops[k] by simp[d]] at M
      rcases M e (by simpa using f) Q with h | h
      ·have u:=y _ h
       have:=(w e.on u).2 h
       simp only[Array.getD_eq_getD_getElem?] at this⊢
       rw[Array.getElem?_eq_getElem (by omega)] at this⊢
       simpa using this
      ·exact absurd h (by
        have:=Q85 O k (by simpa using d) e (by rw[show ops.toList[k]? =some ops[k] by simp[d]];simpa using f) Q
        simp at this;omega)
theorem Q4S (b:Bool) (ops:Array Oper) (t:Nat) (f:Lp ops.toList=true) (g: ∀m,∃L,Zg m ops.toList L=true):
 (Region.schedule b ops t).Nodup∧(Region.schedule b ops t).length=ops.size∧Cc ops.toList (Region.schedule b ops t):=by
 have key: ∀m t,(Region.linearise m ops t).Nodup∧(Region.linearise m ops t).length=ops.size∧Cc ops.toList (Region.linearise m ops t):=by
  intro m t
  obtain ⟨L,c⟩:=g m
  refine Q7v m ops f L c _ _ _ _ (by simp) (by simp) ?_ List.nodup_nil (by simp) ?_
  ·intro i d;simp[Array.getD,d]
  ·intro e j a h;simp at h
 unfold Region.schedule
 split<;>exact key _ _
theorem Yt: ∀(ops:List Oper),Jz (S1 ops)=true→ ∀(i j:Nat) (a b:Oper) (d:Nat),ops[i]? =some a→ops[j]? =some b→a.dst=some d→b.dst=some d→i=j
 | [],_,i,j,a,b,d,h,_,_,_=>by simp at h
 | o::c,g,i,j,a,b,d,m,n,p,r=>by
  have f: ∀(k:Nat) (q:Oper),c[k]? =some q→q.dst=some d→d∈S1 c:=by
   intro k q v s
   simp only[S1,List.mem_filterMap]
   exact ⟨q,List.mem_of_getElem? v,s⟩
  have l:Jz (S1 c)=true:=by
   simp only[S1,List.filterMap_cons] at g
   split at g
   ·exact g
   ·simp only[Jz,Bool.and_eq_true] at g;exact g.2
  have e:o.dst=some d→d∉S1 c:=by
   intro u
   simp only[S1,List.filterMap_cons,u,Jz,Bool.and_eq_true,Bool.not_eq_true'] at g
   intro t
   have:=g.1
   simp only[List.contains_eq_mem,decide_eq_false_iff_not] at this
   exact this t
  cases i with
  | zero=>
   simp only[List.getElem?_cons_zero,Option.some.injEq] at m
   subst m
   cases j with
   | zero=>rfl
   | succ j=>exact absurd (f j b (by simpa using n) r) (e p)
  | succ i=>
   cases j with
   | zero=>
    simp only[List.getElem?_cons_zero,Option.some.injEq] at n
    subst n
    exact absurd (f i a (by simpa using m) p) (e r)
   | succ j=>rw[Yt c l i j a b d (by simpa using m) (by simpa using n) p r]
theorem Ps (u:Nat→Value): ∀(S:List Ent) (s:Nat),get (Qc u S) s=(getE S s).at u
 | [],s=>by simp[Qc,get,getE,Ent.at]
 | e::S,0=>rfl
 | e::S,s+1=>Ps u S s
theorem Fs: ∀(S:List Ent) (s:Nat),getE S s=(S[s]?).getD (.val undef)
 | [],s=>by simp[getE]
 | e::S,0=>rfl
 | e::S,s+1=>by simp only[getE,List.getElem?_cons_succ];exact Fs S s
theorem Q1m: ∀(S:List Ent) (n:Nat) (e:Ent),Q2s S n e=S.set n e
 | [],n,e=>by simp[Q2s]
 | x::S,0,e=>rfl
 | x::S,n+1,e=>by simp only[Q2s,List.set_cons_succ,Q1m S n e]
theorem Q4v {x:Nat}: ∀{l:List Nat},x∈l→x∈Q1w l
 | y::l,h=>by
  simp only[Q1w,List.mem_cons,List.mem_filter]
  by_cases e:x=y
  ·exact .inl e
  ·exact .inr ⟨Q4v ((List.mem_cons.1 h).resolve_left e),by simpa using e⟩
theorem Cx {x:Nat}: ∀{l:List Nat},x∈Q1w l→x∈l
 | y::l,h=>by
  simp only[Q1w,List.mem_cons,List.mem_filter] at h⊢
  exact h.imp id fun h=>Cx h.1
theorem Q4m {S:List Ent} {j:Nat}: ∀{l:List Nat} {s:Nat},s∈l→getE S s= .ref j→j∈Q1n S l
 | x::l,s,h,e=>by
  simp only[Q1n,List.mem_append]
  rcases List.mem_cons.1 h with rfl | h
  ·left;rw[e];simp[Q4Z]
  ·right;exact Q4m h e
theorem Be {S:List Ent} {j:Nat}: ∀{l:List Nat},j∈Q1n S l→ ∃s∈l,getE S s= .ref j
 | x::l,h=>by
  simp only[Q1n,List.mem_append] at h
  rcases h with h | h
  ·refine ⟨x,by simp,?_⟩
   cases a:getE S x with
   | val v=>rw[a] at h;simp[Q4Z] at h
   | ref k=>rw[a] at h;simp[Q4Z] at h;rw[h]
  ·obtain ⟨s,b,e⟩:=Be h
   exact ⟨s,by simp[b],e⟩
theorem Q2F: ∀(a:List Nat) (b u:Nat→Value) (k:(Nat→Value)→Prop),Pu a b k→ ∃c,k c∧ ∀x,(x∈a→c x=u x)∧(x∉a→c x=b x)
 | [],b,u,k,h=>⟨b,h,fun x=>⟨fun h=>by simp at h,fun _=>rfl⟩⟩
 | j::a,b,u,k,h=>by
  obtain ⟨c,g,f⟩:=Q2F a _ u k (h (u j))
  refine ⟨c,g,fun x=>⟨fun hx=>?_,fun hx=>?_⟩⟩
  ·by_cases d:x∈a
   ·exact (f x).1 d
   ·rw[(f x).2 d]
    rcases List.mem_cons.1 hx with rfl | hx
    ·simp
    ·exact absurd hx d
  ·rw[(f x).2 (fun h=>hx (List.mem_cons_of_mem _ h))]
   have:x≠j:=fun e=>hx (by simp[e])
   simp[this]
theorem Q2E {e:Si} {u:Nat→Value} {w:World} {a:Prop}: ∀{b:List Nat},Ka e u w a b→(∀j∈b,∀φ,Vb e j=some ([],φ)→φ [] (u j) w)→a
 | [],h,_=>h
 | j::b,h,c=>by
  simp only[Ka] at h
  split at h
  ·rename_i φ f
   exact Q2E (h (c j (by simp) φ f)) fun k d=>c k (by simp[d])
  ·exact Q2E h fun k d=>c k (by simp[d])
theorem Q0S {e:Si} {u:Nat→Value} {w:World} {a:Prop}: ∀{b:List Nat},Q1k e u w a b→(∀j∈b,∀R φ,Vb e j=some (R,φ)→φ (R.map u) (u j) w)→a
 | [],h,_=>h
 | j::b,h,c=>by
  simp only[Q1k] at h
  split at h
  ·rename_i R φ f
   exact Q0S (h (c j (by simp) R φ f)) fun k d=>c k (by simp[d])
  ·exact Q0S h fun k d=>c k (by simp[d])
theorem Pp {a:Si} {i j:Nat} {φ:List Nat×(List Value→Value→World→Prop)} (h:i≠j):Vb (a++[(i,φ)]) j=Vb a j:=by
 induction a with
 | nil=>simp[Vb,h]
 | cons p a b=>obtain ⟨k,ψ⟩:=p;simp only[List.cons_append,Vb,b]
theorem Nc {a:Si} {i:Nat} {φ:List Nat×(List Value→Value→World→Prop)} (h:Vb a i=none):Vb (a++[(i,φ)]) i=some φ:=by
 induction a with
 | nil=>simp[Vb]
 | cons p a b=>
  obtain ⟨k,ψ⟩:=p
  simp only[Vb] at h
  split at h
  ·cases h
  ·rename_i c;simp only[List.cons_append,Vb,c,if_false];exact b h
def Sa (S:List Ent) (i:Nat) (o:Oper):Ent:=match mv o with | some x=>entOf S x | none=> .ref i
def O5 (S:List Ent):Nat→List Oper→List Ent
 | _,[]=>S
 | i,o::a=>O5 (putE S o.dst (Sa S i o)) (i+1) a
theorem Q4r: ∀(a:List Oper) (S:List Ent) (i k:Nat) (o:Oper),a[k]? =some o→
 O5 S i (a.take (k+1))=putE (O5 S i (a.take k)) o.dst (Sa (O5 S i (a.take k)) (i+k) o)
 | [],_,_,_,_,h=>by simp at h
 | x::a,S,i,0,o,h=>by
  simp only[List.getElem?_cons_zero,Option.some.injEq] at h
  subst h
  simp[O5]
 | x::a,S,i,k+1,o,h=>by
  simp only[List.getElem?_cons_succ] at h
  have:=Q4r a (putE S x.dst (Sa S i x)) (i+1) k o h
  simp only[List.take_succ_cons,O5]
  rw[this,show i+1+k=i+(k+1) from by omega]
def Zf (S:List Ent) (D:List Nat):Prop:= ∀e∈S,∀j,e= .ref j→j∈D
theorem Zf.getE {S:List Ent} {D:List Nat} (h:Zf S D) {s j:Nat} (e:Go.Emb.getE S s= .ref j):j∈D:=by
 rw[Fs] at e
 cases a:S[s]? with
 | none=>rw[a] at e;cases e
 | some x=>rw[a] at e;exact h x (List.mem_of_getElem? a) j e
theorem Zf.putE {S:List Ent} {D:List Nat} (h:Zf S D) (d:Option Nat) {e:Ent} (c: ∀j,e= .ref j→j∈D):Zf (Go.Emb.putE S d e) D:=by
 cases d with
 | none=>exact h
 | some d=>
  intro x a j b
  simp only[Go.Emb.putE,Q1m] at a
  rcases List.mem_or_eq_of_mem_set a with a | rfl
  ·exact h x a j b
  ·exact c j b
theorem Zf.mono {S:List Ent} {D D':List Nat} (h:Zf S D) (b: ∀j∈D,j∈D'):Zf S D':=fun e a j c=>b j (h e a j c)
theorem Zf.entOf {S:List Ent} {D:List Nat} (h:Zf S D) (x:Operand) {j:Nat} (e:Go.Emb.entOf S x= .ref j):j∈D:=by
 cases x with
 | tmp t=>exact h.getE e
 | _=>cases e
theorem Q8m {S:List Ent} {D:List Nat} (h:Zf S D) {u a:Nat→Value} (c: ∀j∈D,a j=u j):Qc a S=Qc u S:=by
 unfold Qc
 refine List.map_congr_left fun e b=>?_
 cases e with
 | val v=>rfl
 | ref j=>exact c j (h _ b j rfl)
theorem Q28 {P:Program} {ops:List Oper} {l l':List Value} {o:Oper} (f:Xu o.op=true) (h: ∀s∈R0 ops o++B4 o,get l s=get l' s):runOp P ops l o=runOp P ops l' o:=by
 funext w K
 unfold runOp
 rw[Dv f fun x c=>by
  cases x with
  | tmp s=>exact h s (List.mem_append_right _ (by simp only[B4,List.mem_filterMap];exact ⟨.tmp s,by simpa using c,rfl⟩))
  | _=>rfl]
 cases a:o.guard with
 | none=>rfl
 | some q=>
  obtain ⟨j,b⟩:=q
  simp only
  cases e:(ops[j]?).bind (·.dst) with
  | none=>rfl
  | some d=>simp only;rw[h d (List.mem_append_left _ (by simp[R0,a,e]))]
theorem Q3n {P:Program} {ops:List Oper} {l:List Value} {o:Oper} {w:World} {K d:Value→World→Prop} (a: ∀v w,K v w→d v w) (h:runOp P ops l o w K):runOp P ops l o w d:=by
 unfold runOp at*
 split at h
 ·exact K3 a h
 ·split at h
  ·exact Q0M ((Lr h).imp (fun ⟨b,c⟩=>⟨b,K3 a c⟩) (fun ⟨b,c⟩=>⟨b,a _ _ c⟩))
  ·exact h.elim
theorem Q39 {P:Program} {ops:List Oper} {W3:List Value→World→Prop} {o:Oper} {a:List Oper} {l:List Value} {w:World}
 (h:runOp P ops l o w (fun v w=>Z5 P ops W3 a (put l o.dst v) w)):Z5 P ops W3 (o::a) l w:=by
 simp only[Z5]
 unfold runOp at h
 cases c:o.guard with
 | none=>simp only[c] at h⊢;exact h
 | some q=>
  obtain ⟨j,b⟩:=q
  simp only[c] at h⊢
  split at h
  ·rename_i d e
   first | exact h | (simp only[e];exact h) | (rw[e];exact h)
  ·exact h.elim
structure Whole (P : Program) (ops : List Oper) (T : World → World → Prop) (B : World → Prop) (W3 : List Value → World → Prop) (tail : List Oper) (Φ : Nat → (Nat → Value) → World → Prop) (S : List Ent) (i : Nat) (rest : List Oper) (D : List Nat) : Prop where
  stable : ∀ k o, rest[k]? = some o → mv o = none → ∀ u w w', Φ (i + k) u w → T w w' → Φ (i + k) u w'
  loc : ∀ k o, rest[k]? = some o → mv o = none → ∀ u u', (∀ r ∈ (i + k) :: refs ops (O5 S i (rest.take k)) o, u r = u' r) → Φ (i + k) u = Φ (i + k) u'
  run : ∀ k o, rest[k]? = some o → mv o = none → Xu o.op = true → ∀ u w, B w → (∀ j ∈ refs ops (O5 S i (rest.take k)) o, Φ j u w) →
    runOp P ops (Qc u (O5 S i (rest.take k))) o w (fun v w' => T w w' ∧ ∀ u', (∀ r ∈ refs ops (O5 S i (rest.take k)) o, u' r = u r) → u' (i + k) = v → Φ (i + k) u' w')
  last : ∀ u w, B w → (∀ j ∈ D, Φ j u w) → (∀ k o, rest[k]? = some o → mv o = none → Φ (i + k) u w) → Z5 P ops W3 tail (Qc u (O5 S i rest)) w
theorem Q1f (P:Program) (ops:List Oper) (T:World→World→Prop) (B:World→Prop) (W3:List Value→World→Prop) (tail:List Oper): ∀(d:List Oper) (i:Nat) (S:List Ent) (m:Si) (done:List Nat),
 Zf S done→(∀j,j∈done→j<i∧ ∃φ,Vb m j=some φ)→(∀j φ,Vb m j=some φ→j<i∧ ∀r∈φ.1,r∈done)→chain P ops T B W3 tail i d S m done→
 ∃Φ:Nat→(Nat→Value)→World→Prop,(∀j R φ,Vb m j=some (R,φ)→Φ j=fun u w=>φ (R.map u) (u j) w)∧Whole P ops T B W3 tail Φ S i d done
 | [],i,S,m,done,L,V,H,h=>by
  refine ⟨fun j u w=>match Vb m j with | some (R,φ)=>φ (R.map u) (u j) w | none=>True,fun j R φ hj=>by simp[hj],⟨by simp,by simp,by simp,?_⟩⟩
  intro u w hB D _
  obtain ⟨q,t,g⟩:=Q2F done _ u _ h
  have p:=Q0S (t w hB) fun j hj R φ N=>by
   have:=D j hj
   simp only[N] at this
   rw[(g j).1 hj,show R.map q=R.map u from List.map_congr_left fun r f=>(g r).1 ((H j _ N).2 r f)];exact this
  rw[Q8m L fun j hj=>(g j).1 hj,Kg] at p
  exact p
 | o::d,i,S,m,done,L,V,H,h=>by
  simp only[chain] at h
  cases z:mv o with
  | some x=>
   simp only[z] at h
   have c:Sa S i o=entOf S x:=by simp[Sa,z]
   obtain ⟨Φ,t,g⟩:=Q1f P ops T B W3 tail d (i+1) _ m done (L.putE _ fun j hj=>L.entOf x hj) (fun j hj=>⟨by have:=(V j hj).1;omega,(V j hj).2⟩) (fun j φ hj=>⟨by have:=(H j φ hj).1;omega,(H j φ hj).2⟩) h
   refine ⟨Φ,t,⟨?_,?_,?_,?_⟩⟩
   ·intro k l b a
    cases k with
    | zero=>simp only[List.getElem?_cons_zero,Option.some.injEq] at b;subst b;rw[z] at a;cases a
    | succ k=>have:=g.stable k l (by simpa using b) a;rwa [show i+1+k=i+(k+1) from by omega] at this
   ·intro k l b a u q J
    cases k with
    | zero=>simp only[List.getElem?_cons_zero,Option.some.injEq] at b;subst b;rw[z] at a;cases a
    | succ k=>
     simp only[List.take_succ_cons,O5,c] at J
     have:=g.loc k l (by simpa using b) a u q (by rwa [show i+1+k=i+(k+1) from by omega])
     rwa [show i+1+k=i+(k+1) from by omega] at this
   ·intro k l b a y u w hB f
    cases k with
    | zero=>simp only[List.getElem?_cons_zero,Option.some.injEq] at b;subst b;rw[z] at a;cases a
    | succ k=>
     simp only[List.take_succ_cons,O5,c] at f⊢
     have:=g.run k l (by simpa using b) a y u w hB f
     rwa [show i+1+k=i+(k+1) from by omega] at this
   ·intro u w hB D U
    simp only[O5,c]
    refine g.last u w hB D fun k l b a=>?_
    have:=U (k+1) l (by simpa using b) a
    rwa [show i+(k+1)=i+1+k from by omega] at this
  | none=>
   have h': ∃(R:List Nat) (φ:List Value→Value→World→Prop),(∀r∈R,r∈refs ops S o)∧(∀xs,Ss T (φ xs))∧
    (Pu (refs ops S o) (fun _=>undef) fun u=> ∀w,B w→Ka m u w (runOp P ops (Qc u S) o w (dk T (φ (R.map u)) w)) (refs ops S o))∧
    chain P ops T B W3 tail (i+1) d (putE S o.dst (.ref i)) (m++[(i,R,φ)]) (done++[i]):=by
    cases O:Q7Q o with
    | true=>
     simp only[z,O,Q7f,Q3P] at h
     obtain ⟨φ,t,g,p⟩:=h
     exact ⟨_,φ,fun _ h=>h,t,g,p⟩
    | false=>
     simp only[z,O,Q9F,Q5V] at h
     obtain ⟨φ,t,g,p⟩:=h
     exact ⟨[],fun _=>φ,by simp,fun _=>t,g,p⟩
   clear h
   obtain ⟨R,φ,Q,ab,M,h⟩:=h'
   have W: ∀r∈refs ops S o,r∈done:=fun r f=>by
    obtain ⟨s,_,Z⟩:=Be (Cx f)
    exact L.entOf (.tmp s) Z
   have c:Sa S i o= .ref i:=by simp[Sa,z]
   have n:Vb m i=none:=by
    cases D:Vb m i with
    | none=>rfl
    | some ψ=>have:=(H i ψ D).1;omega
   obtain ⟨Φ,t,g⟩:=Q1f P ops T B W3 tail d (i+1) _ (m++[(i,R,φ)]) (done++[i])
    ((L.mono fun j hj=>List.mem_append_left _ hj).putE _ fun j hj=>by cases hj;simp)
    (fun j hj=>by
     rcases List.mem_append.1 hj with hj | hj
     ·obtain ⟨p,ψ,C⟩:=V j hj
      exact ⟨by omega,ψ,by rw[Pp (by omega)];exact C⟩
     ·simp at hj;subst hj;exact ⟨by omega,(R,φ),Nc n⟩)
    (fun j ψ hj=>by
     by_cases e:i=j
     ·subst e
      rw[Nc n] at hj;cases hj
      exact ⟨by omega,fun r f=>List.mem_append_left _ (W r (Q r f))⟩
     ·rw[Pp e] at hj
      obtain ⟨p,C⟩:=H j ψ hj
      exact ⟨by omega,fun r f=>List.mem_append_left _ (C r f)⟩) h
   have E:Φ i=fun u w=>φ (R.map u) (u i) w:=t i R φ (Nc n)
   have A: ∀j R' ψ,Vb m j=some (R',ψ)→Φ j=fun u w=>ψ (R'.map u) (u j) w:=fun j R' ψ hj=>t j R' ψ (by rw[Pp (by have:=(H j _ hj).1;omega)];exact hj)
   refine ⟨Φ,A,⟨?_,?_,?_,?_⟩⟩
   ·intro k l b a
    cases k with
    | zero=>
     intro u w w' ha Y
     rw[Nat.add_zero,E] at ha⊢
     exact ab _ _ _ _ ha Y
    | succ k=>have:=g.stable k l (by simpa using b) a;rwa [show i+1+k=i+(k+1) from by omega] at this
   ·intro k l b a u q J
    cases k with
    | zero=>
     simp only[List.getElem?_cons_zero,Option.some.injEq] at b
     subst b
     simp only[List.take_zero,O5,Nat.add_zero] at J
     rw[Nat.add_zero,E]
     funext w
     show φ (R.map u) (u i) w=φ (R.map q) (q i) w
     rw[show R.map u=R.map q from List.map_congr_left fun r f=>J r (List.mem_cons_of_mem _ (Q r f)),J i (by simp)]
    | succ k=>
     simp only[List.take_succ_cons,O5,c] at J
     have:=g.loc k l (by simpa using b) a u q (by rwa [show i+1+k=i+(k+1) from by omega])
     rwa [show i+1+k=i+(k+1) from by omega] at this
   ·intro k l b a y u w hB f
    cases k with
    | zero=>
     simp only[List.getElem?_cons_zero,Option.some.injEq] at b
     subst b
     simp only[List.take_zero,O5,Nat.add_zero] at f⊢
     obtain ⟨q,p,C⟩:=Q2F _ _ u _ M
     have h5:=Q2E (p w hB) fun j hj ψ hψ=>by
      have h6:=f j hj
      rw[A j [] ψ hψ] at h6
      rw[(C j).1 hj];exact h6
     rw[Q28 y (l':=Qc u S)] at h5
     ·refine Q3n ?_ h5
      rintro v w' ⟨Y,hf⟩
      refine ⟨Y,fun X aa hi=>?_⟩
      rw[E]
      show φ (R.map X) (X i) w'
      rw[hi,show R.map X=R.map q from List.map_congr_left fun r f=>by rw[aa r (Q r f),(C r).1 (Q r f)]]
      exact hf
     ·intro s O
      rw[Ps,Ps]
      cases Z:getE S s with
      | val v=>rfl
      | ref j=>exact (C j).1 (Q4v (Q4m O Z))
    | succ k=>
     simp only[List.take_succ_cons,O5,c] at f⊢
     have:=g.run k l (by simpa using b) a y u w hB f
     rwa [show i+1+k=i+(k+1) from by omega] at this
   ·intro u w hB D U
    simp only[O5,c]
    refine g.last u w hB (fun j hj=>?_) fun k l b a=>?_
    ·rcases List.mem_append.1 hj with hj | hj
     ·exact D j hj
     ·simp at hj;subst hj
      have:=U 0 o (by simp) z
      simpa using this
    ·have:=U (k+1) l (by simpa using b) a
     rwa [show i+(k+1)=i+1+k from by omega] at this
def Qq (os:List Oper) (S0:List Ent) (q:Nat):Ent:=
 match os[q]? with
 | some o=>Sa (O5 S0 0 (os.take q)) q o
 | none=> .val undef
theorem Q7p {os:List Oper} {S0:List Ent} {q:Nat} {o:Oper} (h:os[q]? =some o):O5 S0 0 (os.take (q+1))=putE (O5 S0 0 (os.take q)) o.dst (Qq os S0 q):=by
 rw[Q4r os S0 0 q o h]
 simp[Qq,h]
theorem Q6K (S:List Ent) (d:Option Nat) (e:Ent):(putE S d e).length=S.length:=by
 cases d with
 | none=>rfl
 | some d=>simp[putE,Q1m]
theorem Iy (os:List Oper) (S0:List Ent): ∀q,q≤os.length→(O5 S0 0 (os.take q)).length=S0.length
 | 0,_=>by simp[O5]
 | q+1,h=>by rw[Q7p (List.getElem?_eq_getElem (by omega)),Q6K,Iy os S0 q (by omega)]
theorem Sj {os:List Oper} {S0:List Ent} (n:Jz (S1 os)=true) (t: ∀d∈S1 os,d<S0.length): ∀q,q≤os.length→
 (∀p,p<q→ ∀o d,os[p]? =some o→o.dst=some d→(O5 S0 0 (os.take q))[d]? =some (Qq os S0 p))∧
  (∀s,(∀p,p<q→ ∀o,os[p]? =some o→o.dst≠some s)→(O5 S0 0 (os.take q))[s]? =S0[s]?)
 | 0,_=>⟨fun p g=>absurd g (by omega),fun s _=>by simp[O5]⟩
 | q+1,h=>by
  obtain ⟨u,r⟩:=Sj n t q (by omega)
  have j:os[q]? =some os[q]:=List.getElem?_eq_getElem (by omega)
  have k:=Iy os S0 q (by omega)
  rw[Q7p j]
  cases a:os[q].dst with
  | none=>
   refine ⟨fun p g o d b c=>?_,fun s l=>r s fun p g=>l p (by omega)⟩
   by_cases e:p=q
   ·subst e;rw[j] at b;cases b;rw[a] at c;cases c
   ·exact u p (by omega) o d b c
  | some i=>
   have m:i<S0.length:=t i (by simp only[S1,List.mem_filterMap];exact ⟨os[q],List.getElem_mem _,a⟩)
   simp only[putE,Q1m]
   refine ⟨fun p g o d b c=>?_,fun s l=>?_⟩
   ·by_cases e:p=q
    ·subst e;rw[j] at b;cases b;rw[a] at c;cases c
     rw[List.getElem?_set_self (by rw[k];exact m)]
    ·have f:i≠d:=by
      rintro rfl
      exact e (Yt os n p q o os[q] i b j c a)
     rw[List.getElem?_set_ne f]
     exact u p (by omega) o d b c
   ·have f:i≠s:=fun e=>l q (by omega) os[q] j (by rw[a,e])
    rw[List.getElem?_set_ne f]
    exact r s fun p g=>l p (by omega)
def Mt (os:List Oper) (p:Nat):Bool:=
 match os[p]? with
 | some o=>match mv o with
  | some (.tmp s)=> !(S1 os).contains s
  | some _=>true
  | none=>false
 | none=>false
theorem X2K {P:Program} {o:Oper} {x:Operand} (h:mv o=some x) (l:List Value) (w:World) (K:Value→World→Prop):o.guard=none∧L1 P l o w K=K (ev l x) w:=by
 unfold mv at h
 split at h
 ·cases h
 ·rename_i b
  refine ⟨b,?_⟩
  split at h
  ·rename_i y a;cases h;simp only[L1,a]
  ·rename_i y a;cases h;simp only[L1,a]
  ·cases h
theorem Q6Y {P:Program} {ops:List Oper} {W3:List Value→World→Prop} {o:Oper} {c a:List Oper} {l l':List Value} {w:World} (r:Xu o.op=true) (m: ∀s∈R0 ops o++B4 o,get l' s=get l s)
 (f: ∀v w,Z5 P ops W3 c (put l o.dst v) w→Z5 P ops W3 a (put l' o.dst v) w) (h:Z5 P ops W3 (o::c) l w):Z5 P ops W3 (o::a) l' w:=by
 have n:L1 P l' o=L1 P l o:=Dv r fun x p=>by
  cases x with
  | tmp s=>exact m s (List.mem_append_right _ (by simp only[B4,List.mem_filterMap];exact ⟨.tmp s,by simpa using p,rfl⟩))
  | _=>rfl
 simp only[Z5] at h⊢
 cases e:o.guard with
 | none=>simp only[e] at h⊢;rw[n];exact K3 f h
 | some q=>
  obtain ⟨j,b⟩:=q
  simp only[e] at h⊢
  cases i:(ops[j]?).bind (·.dst) with
  | none=>simp only[i] at h⊢;exact f _ _ h
  | some d=>
   simp only[i] at h⊢
   rw[m d (List.mem_append_left _ (by simp[R0,e,i])),n]
   exact Q0M ((Lr h).imp (fun ⟨k,g⟩=>⟨k,K3 f g⟩) (fun ⟨k,g⟩=>⟨k,f _ _ g⟩))
structure At (os : List Oper) (l0 : List Value) (pre : List Nat) (l : List Value) (u : Nat → Value) : Prop where
  len : l.length = l0.length
  done : ∀ p ∈ pre, ∀ o d, os[p]? = some o → o.dst = some d → l[d]? = some ((Qq os (l0.map .val) p).at u)
  rest : ∀ s, (∀ p ∈ pre, ∀ o, os[p]? = some o → o.dst ≠ some s) → l[s]? = l0[s]?
  refs : ∀ p ∈ pre, ∀ r, Qq os (l0.map .val) p = .ref r → r ∈ pre ∧ ∃ o, os[r]? = some o ∧ mv o = none
theorem X4h {P:Program} {ops os:List Oper} {T:World→World→Prop} {B:World→Prop} {W3:List Value→World→Prop} {m:Nat} {C:List Value} {Φ:Nat→(Nat→Value)→World→Prop}
 (an:Nat→Nat→Bool) (bm: ∀o∈os,Xu o.op=true) (hn:Jz (S1 os)=true) (hd: ∀d∈S1 os,d<C.length)
 (ad: ∀p q a b,p<q→os[p]? =some a→os[q]? =some b→(Qs a b||Qs b a)=true→an p q=true)
 (hg: ∀q o j b,os[q]? =some o→o.guard=some (j,b)→ ∃p,p<q∧os[p]? =ops[j]? ∧an p q=true)
 (hm:m≤os.length) (al: ∀q,m≤q→q<os.length→ ∀p,p<q→an p q=true∨(p<m∧Mt os p=true))
 (hT: ∀w w',B w→T w w'→B w') (hW:Whole P ops T B W3 (os.drop m) Φ (C.map .val) 0 (os.take m) [])
 (L:List Nat) (H:L.Nodup) (bq:L.length=os.length) (ab: ∀q∈L,q<os.length)
 (hC: ∀c q f,L=c++q::f→ ∀p,an p q=true→p<os.length→p∈c):
 ∀(f c:List Nat),L=c++f→(∀q∈c,q<m)→ ∀(l:List Value) (u:Nat→Value) (w:World),At os C c l u→B w→
  (∀r∈c,∀o,os[r]? =some o→mv o=none→Φ r u w∧ ∀j∈refs ops (O5 (C.map .val) 0 (os.take r)) o,j∈c)→Z5 P ops W3 (f.filterMap (os[·]?)) l w:=by
 have a8: ∀d∈S1 os,d<(C.map Ent.val).length:=by simpa using hd
 have az: ∀q,q≤m→(os.take m).take q=os.take q:=fun q hq=>by rw[List.take_take,Nat.min_eq_left hq]
 have V: ∀q,q<m→(os.take m)[q]? =os[q]? :=fun q hq=>by rw[List.getElem?_take_of_lt hq]
 -- when all of the first part is done
 have cx: ∀(c f:List Nat),L=c++f→(∀q∈c,q<m)→(∀q,q<m→q∈c)→ ∀l u w,At os C c l u→B w→
  (∀r∈c,∀o,os[r]? =some o→mv o=none→Φ r u w∧ ∀j∈refs ops (O5 (C.map .val) 0 (os.take r)) o,j∈c)→Z5 P ops W3 (f.filterMap (os[·]?)) l w:=by
  intro c f E D ao l u w hA hB hΦ
  have b5: ∀(f c:List Nat),L=c++f→m≤c.length→(∀q,q∈c↔q<c.length)→f.filterMap (os[·]?)=os.drop c.length:=by
   intro f
   induction f with
   | nil=>
    intro c E _ _
    rw[List.append_nil] at E
    rw[←E,bq];simp
   | cons q f ih=>
    intro c E c3 ay
    have cp:q∉c:=by
     rw[E] at H
     intro h
     exact (List.nodup_append.1 H).2.2 q h q (by simp) rfl
    have cs:c.length≤q:=Nat.le_of_not_lt fun h=>cp ((ay q).2 h)
    have U:=ab q (by rw[E];simp)
    have cv:q=c.length:=by
     refine Nat.le_antisymm (Nat.le_of_not_lt fun h=>?_) cs
     have:=hC c q f E c.length ((al q (by omega) U _ h).resolve_right (by omega)) (by omega)
     have:=(ay _).1 this
     omega
    subst cv
    rw[List.filterMap_cons,List.getElem?_eq_getElem U]
    simp only
    rw[ih (c++[c.length]) (by rw[E];simp) (by simp;omega) (by intro x;simp only[List.mem_append,ay,List.mem_singleton,List.length_append,List.length_cons,List.length_nil];omega)]
    simp only[List.length_append,List.length_cons,List.length_nil]
    rw[←List.drop_eq_getElem_cons U]
  have bd:c.length=m:=by
   have J:=G5 m c (by rw[E] at H;exact (List.nodup_append.1 H).1) D
   have R:=Wv m c ao
   omega
  have J:=b5 f c E (by omega) (fun q=>by rw[bd];exact ⟨D q,ao q⟩)
  rw[J,bd]
  have R:=hW.last u w hB (by simp) fun k o hk t=>by
   have a4:k<m:=by
    have:=(List.getElem?_eq_some_iff.1 hk).1
    simp at this;omega
   rw[Nat.zero_add]
   rw[V k a4] at hk
   exact (hΦ k (ao k a4) o hk t).1
  have h3:l=Qc u (O5 (C.map .val) 0 (os.take m)):=by
   obtain ⟨g1,g2⟩:=Sj hn a8 m hm
   apply List.ext_getElem?
   intro s
   rw[Qc,List.getElem?_map]
   by_cases hs: ∃p,p<m∧ ∃o,os[p]? =some o∧o.dst=some s
   ·obtain ⟨p,hp,o,i,z⟩:=hs
    rw[hA.done p (ao p hp) o s i z,g1 p hp o s i z];rfl
   ·have ae: ∀p,p<m→ ∀o,os[p]? =some o→o.dst≠some s:=fun p hp o i z=>hs ⟨p,hp,o,i,z⟩
    rw[hA.rest s (fun p hp=>ae p (D p hp)),g2 s ae,List.getElem?_map]
    cases C[s]? <;>rfl
  rw[h3];exact R
 -- moves that come late, among the tail
 have ce: ∀(f c:List Nat) (k:Nat),L=c++f→m≤k→k≤os.length→(∀q,m≤q→(q∈c↔q<k))→(∀p∈f,p<m→Mt os p=true)→
  ∀(l lf:List Value) (w:World),l.length=C.length→lf.length=C.length→(∀s,(∀p∈f,p<m→ ∀o,os[p]? =some o→o.dst≠some s)→l[s]? =lf[s]?)→
   (∀p∈f,p<m→ ∀o d x,os[p]? =some o→mv o=some x→o.dst=some d→lf[d]? =some (ev C x))→(∀s,(S1 os).contains s=false→l[s]? =C[s]?)→
   Z5 P ops W3 (os.drop k) lf w→Z5 P ops W3 (f.filterMap (os[·]?)) l w:=by
  intro f
  induction f with
  | nil=>
   intro c k E bc bl ac _ l lf w hl ba ap _ _ h
   rw[List.append_nil] at E
   have hk:k=os.length:=by
    refine Nat.le_antisymm bl (Nat.le_of_not_lt fun D=>?_)
    have cr:k∉c:=fun e=>by have:=(ac k bc).1 e;omega
    have J:=G5 os.length (k::c) (List.nodup_cons.2 ⟨cr,E▸H⟩) (fun x hx=>by
     rcases List.mem_cons.1 hx with rfl | hx
     ·exact D
     ·exact ab x (by rw[E];exact hx))
    simp at J
    rw[E] at bq;omega
   have:l=lf:=List.ext_getElem? fun s=>ap s (by simp)
   rw[this]
   rw[hk,List.drop_length] at h
   exact h
  | cons q f ih=>
   intro c k E bc bl ac ak l lf w hl ba ap a2 aa h
   have O:q∉c:=by
    rw[E] at H
    intro h
    exact (List.nodup_append.1 H).2.2 q h q (by simp) rfl
   have cj:q∉f:=by
    rw[E] at H
    exact (List.nodup_cons.1 (List.nodup_append.1 H).2.1).1
   have U:=ab q (by rw[E];simp)
   have A:os[q]? =some os[q]:=List.getElem?_eq_getElem U
   have cb:L=(c++[q])++f:=by rw[E];simp
   rw[List.filterMap_cons,A]
   simp only
   by_cases Y:q<m
   ·-- a late move
    have D:=ak q (by simp) Y
    unfold Mt at D
    rw[A] at D
    simp only at D
    cases t:mv os[q] with
    | none=>rw[t] at D;cases D
    | some x=>
     rw[t] at D
     have hx:ev l x=ev C x:=by
      cases x with
      | tmp s=>
       simp only[Bool.not_eq_true'] at D
       simp only[ev,get,List.getD_eq_getElem?_getD,aa s D]
      | _=>rfl
     obtain ⟨a7,aw⟩:=X2K (P:=P) t l w (fun v w=>Z5 P ops W3 (f.filterMap (os[·]?)) (put l os[q].dst v) w)
     simp only[Z5,a7]
     rw[aw,hx]
     refine ih (c++[q]) k cb bc bl (fun q' ax=>?_) (fun p hp=>ak p (by simp[hp])) _ lf w ?_ ba (fun s hs=>?_) (fun p hp=>a2 p (by simp[hp])) (fun s hs=>?_) h
     ·rw[←ac q' ax];simp only[List.mem_append,List.mem_singleton]
      exact ⟨fun e=>e.resolve_right (by omega), .inl⟩
     ·cases g:os[q].dst<;>simp[put,hl]
     ·cases g:os[q].dst with
      | none=>
       refine ap s fun p hp M o i=>?_
       rcases List.mem_cons.1 hp with rfl | hp
       ·rw[A] at i;cases i;rw[g];simp
       ·exact hs p hp M o i
      | some d=>
       have ar:d<C.length:=hd d (by simp only[S1,List.mem_filterMap];exact ⟨os[q],List.getElem_mem _,g⟩)
       simp only[put]
       by_cases e:d=s
       ·subst e
        rw[List.getElem?_set_self (by rw[hl];exact ar)]
        exact (a2 q (by simp) Y os[q] d x A t g).symm
       ·rw[List.getElem?_set_ne e]
        refine ap s fun p hp M o i=>?_
        rcases List.mem_cons.1 hp with rfl | hp
        ·rw[A] at i;cases i;rw[g];simpa using e
        ·exact hs p hp M o i
     ·cases g:os[q].dst with
      | none=>exact aa s hs
      | some d=>
       have aj:(S1 os).contains d=true:=by
        rw[List.contains_iff_mem];simp only[S1,List.mem_filterMap];exact ⟨os[q],List.getElem_mem _,g⟩
       simp only[put]
       rw[List.getElem?_set_ne (by rintro rfl;rw[hs] at aj;cases aj)]
       exact aa s hs
   ·have Y:m≤q:=by omega
    have ct:q=k:=by
     have J:k≤q:=Nat.le_of_not_lt fun e=>O ((ac q Y).2 e)
     refine Nat.le_antisymm (Nat.le_of_not_lt fun e=>?_) J
     have:=hC c q f E k ((al q Y U k e).resolve_right (by omega)) (by omega)
     have:=(ac k bc).1 this
     omega
    subst ct
    rw[List.drop_eq_getElem_cons U] at h
    have b2: ∀p∈f,p<m→an p q=true→False:=fun p hp M hb=>by
     have:=hC c q f E p hb (by omega)
     rw[E] at H
     exact (List.nodup_append.1 H).2.2 p this p (by simp[hp]) rfl
    refine Q6Y (bm _ (List.getElem_mem _)) (fun s hs=>?_) (fun v w' hv=>?_) h
    ·have:l[s]? =lf[s]? :=ap s fun p hp M o i z=>by
      rcases List.mem_cons.1 hp with rfl | hp
      ·omega
      refine b2 p hp M ?_
      rcases List.mem_append.1 hs with hs | hs
      ·unfold R0 at hs
       split at hs
       ·simp at hs
       ·rename_i j b bw
        split at hs
        ·rename_i d bp
         simp only[List.mem_singleton] at hs
         subst hs
         obtain ⟨p',av,bn,hb⟩:=hg q os[q] j b A bw
         obtain ⟨o',bs,b3⟩:=Option.bind_eq_some_iff.1 bp
         have:=Yt os hn p' p o' o s (by rw[bn,bs]) i b3 z
         subst this;exact hb
        ·simp at hs
      ·exact ad p q o os[q] (by omega) i A (by simp only[Qs,z,Bool.or_eq_true];left;left;simpa using hs)
     simp only[get,List.getD_eq_getElem?_getD,this]
    ·refine ih (c++[q]) (q+1) cb (by omega) (by omega) (fun q' ax=>?_) (fun p hp=>ak p (by simp[hp])) _ _ w' ?_ ?_ (fun s hs=>?_) (fun p hp M o d x i a9 z=>?_) (fun s hs=>?_) hv
     ·simp only[List.mem_append,List.mem_singleton,ac q' ax];omega
     ·cases g:os[q].dst<;>simp[put,hl]
     ·cases g:os[q].dst<;>simp[put,ba]
     ·have hb:l[s]? =lf[s]? ∨os[q].dst=some s:=by
       left
       refine ap s fun p hp M o i=>?_
       rcases List.mem_cons.1 hp with rfl | hp
       ·omega
       ·exact hs p hp M o i
      cases g:os[q].dst with
      | none=>
       rcases hb with hb | hb
       ·exact hb
       ·rw[g] at hb;cases hb
      | some d=>
       simp only[put]
       by_cases e:d=s
       ·subst e
        have ar:d<C.length:=hd d (by simp only[S1,List.mem_filterMap];exact ⟨os[q],List.getElem_mem _,g⟩)
        rw[List.getElem?_set_self (by rw[hl];exact ar),List.getElem?_set_self (by rw[ba];exact ar)]
       ·rw[List.getElem?_set_ne e,List.getElem?_set_ne e]
        rcases hb with hb | hb
        ·exact hb
        ·rw[g] at hb;cases hb;exact absurd rfl e
     ·have b9:=a2 p (by simp[hp]) M o d x i a9 z
      cases g:os[q].dst with
      | none=>exact b9
      | some d'=>
       have Z:d'≠d:=by
        rintro rfl
        have:=Yt os hn p q o os[q] d' i A z g
        omega
       simp only[put]
       rw[List.getElem?_set_ne Z];exact b9
     ·cases g:os[q].dst with
      | none=>exact aa s hs
      | some d=>
       have aj:(S1 os).contains d=true:=by
        rw[List.contains_iff_mem];simp only[S1,List.mem_filterMap];exact ⟨os[q],List.getElem_mem _,g⟩
       simp only[put]
       rw[List.getElem?_set_ne (by rintro rfl;rw[hs] at aj;cases aj)]
       exact aa s hs
 intro f
 induction f with
 | nil=>
  intro c E D l u w hA hB hΦ
  refine cx c [] E D ?_ l u w hA hB hΦ
  intro q hq
  rw[List.append_nil] at E
  refine Classical.byContradiction fun a5=>?_
  have J:=G5 os.length (q::c) (List.nodup_cons.2 ⟨a5,E▸H⟩) (fun k hk=>by
   rcases List.mem_cons.1 hk with rfl | hk
   ·omega
   ·exact ab k (by rw[E];exact hk))
  simp at J
  rw[E] at bq;omega
 | cons q f ih=>
  intro c E D l u w hA hB hΦ
  have O:q∉c:=by
   rw[E] at H
   intro h
   exact (List.nodup_append.1 H).2.2 q h q (by simp) rfl
  have U:=ab q (by rw[E];simp)
  by_cases Y:m≤q
  ·-- the tail begins
   have am: ∀p,p<m→p∉c→Mt os p=true:=fun p hp bv=>by
    rcases al q Y U p (by omega) with h | h
    ·exact absurd (hC c q f E p h (by omega)) bv
    ·exact h.2
   have bi: ∀p,Mt os p=true→ ∀o,os[p]? =some o→ ∃x,mv o=some x∧ ∀s,x= .tmp s→(S1 os).contains s=false:=by
    intro p hp o i
    unfold Mt at hp
    rw[i] at hp
    simp only at hp
    cases N:mv o with
    | none=>rw[N] at hp;cases hp
    | some x=>
     refine ⟨x,rfl,fun s hs=>?_⟩
     subst hs
     rw[N] at hp;simpa using hp
   obtain ⟨g1,g2⟩:=Sj hn a8 m hm
   have bh: ∀s,(S1 os).contains s=false→ ∀(p:Nat) o,os[p]? =some o→o.dst≠some s:=by
    intro s hs p o i z
    have:(S1 os).contains s=true:=by
     rw[List.contains_iff_mem];simp only[S1,List.mem_filterMap]
     exact ⟨o,List.mem_of_getElem? i,z⟩
    rw[hs] at this;cases this
   refine ce (q::f) c m E (Nat.le_refl _) hm (fun q' ax=>⟨fun e=>D q' e,fun e=>absurd ax (by omega)⟩) (fun p hp M=>am p M fun e=>by
    rw[E] at H
    exact (List.nodup_append.1 H).2.2 p e p hp rfl) l (Qc u (O5 (C.map .val) 0 (os.take m))) w hA.len (by simp[Qc,Iy os _ m hm]) (fun s hs=>?_) (fun p hp M o d x i a9 z=>?_) (fun s hs=>?_) ?_
   ·rw[Qc,List.getElem?_map]
    by_cases aq: ∃p,p<m∧ ∃o,os[p]? =some o∧o.dst=some s
    ·obtain ⟨p,hp,o,i,z⟩:=aq
     by_cases W:p∈c
     ·rw[hA.done p W o s i z,g1 p hp o s i z];rfl
     ·exfalso
      have b8:p∈L:=by
       refine Classical.byContradiction fun a5=>?_
       have J:=G5 os.length (p::L) (List.nodup_cons.2 ⟨a5,H⟩) (fun k hk=>by
        rcases List.mem_cons.1 hk with rfl | hk
        ·omega
        ·exact ab k hk)
       simp at J;omega
      rw[E] at b8
      rcases List.mem_append.1 b8 with h | h
      ·exact W h
      ·exact hs p h hp o i z
    ·have ae: ∀p,p<m→ ∀o,os[p]? =some o→o.dst≠some s:=fun p hp o i z=>aq ⟨p,hp,o,i,z⟩
     rw[hA.rest s (fun p hp=>ae p (D p hp)),g2 s ae,List.getElem?_map]
     cases C[s]? <;>rfl
   ·have W:p∉c:=fun e=>by
     rw[E] at H
     exact (List.nodup_append.1 H).2.2 p e p hp rfl
    rw[Qc,List.getElem?_map,g1 p M o d i z]
    simp only[Option.map_some,Option.some.injEq]
    have X:Qq os (C.map .val) p=entOf (O5 (C.map .val) 0 (os.take p)) x:=by simp[Qq,i,Sa,a9]
    rw[X]
    obtain ⟨x',ch,cn⟩:=bi p (am p M W) o i
    rw[a9] at ch;cases ch
    cases x with
    | tmp s=>
     have hs:=cn s rfl
     obtain ⟨_,k2⟩:=Sj (S0:=C.map .val) hn a8 p (by omega)
     simp only[entOf]
     rw[Fs,k2 s (fun p' _ o' bs=>bh s hs p' o' bs),List.getElem?_map]
     simp only[ev,get,List.getD_eq_getElem?_getD]
     cases C[s]? <;>rfl
    | _=>rfl
   ·exact hA.rest s fun p _ o i=>bh s hs p o i
   ·refine hW.last u w hB (by simp) fun k o hk t=>?_
    have a4:k<m:=by
     have:=(List.getElem?_eq_some_iff.1 hk).1
     simp at this;omega
    rw[Nat.zero_add]
    rw[V k a4] at hk
    refine (hΦ k (Classical.byContradiction fun bv=>?_) o hk t).1
    obtain ⟨x,hx,_⟩:=bi k (am k a4 bv) o hk
    rw[t] at hx;cases hx
  ·have Y:q<m:=by omega
   have A:os[q]? =some os[q]:=List.getElem?_eq_getElem U
   obtain ⟨g1,g2⟩:=Sj (S0:=C.map .val) hn a8 q (by omega)
   -- what a slot holds that this operation reads
   have af: ∀s,(∃p o,os[p]? =some o∧o.dst=some s∧p<q∧an p q=true)∨s∈B4 os[q]→
    get l s=(getE (O5 (C.map .val) 0 (os.take q)) s).at u∧ ∀r,getE (O5 (C.map .val) 0 (os.take q)) s= .ref r→r∈c∧ ∃o,os[r]? =some o∧mv o=none:=by
    intro s hs
    have ae:(∀p∈c,∀o,os[p]? =some o→o.dst≠some s)→(∀p,p<q→ ∀o,os[p]? =some o→o.dst≠some s)→
     get l s=(getE (O5 (C.map .val) 0 (os.take q)) s).at u∧ ∀r,getE (O5 (C.map .val) 0 (os.take q)) s= .ref r→r∈c∧ ∃o,os[r]? =some o∧mv o=none:=by
     intro J R
     rw[Fs,g2 s R,List.getElem?_map]
     simp only[get,List.getD_eq_getElem?_getD,hA.rest s J]
     cases C[s]? with
     | none=>exact ⟨rfl,fun r hr=>by cases hr⟩
     | some v=>exact ⟨rfl,fun r hr=>by cases hr⟩
    have bj: ∀p o,os[p]? =some o→o.dst=some s→p<q→p∈c→
     get l s=(getE (O5 (C.map .val) 0 (os.take q)) s).at u∧ ∀r,getE (O5 (C.map .val) 0 (os.take q)) s= .ref r→r∈c∧ ∃o,os[r]? =some o∧mv o=none:=by
     intro p o hp i av W
     rw[Fs,g1 p av o s hp i]
     simp only[get,List.getD_eq_getElem?_getD,hA.done p W o s hp i,Option.getD_some]
     first | exact ⟨rfl,hA.refs p W⟩ | exact ⟨trivial,hA.refs p W⟩
    rcases hs with ⟨p,o,hp,i,av,hb⟩ | hs
    ·exact bj p o hp i av (hC c q f E p hb (by omega))
    ·by_cases aq: ∃(p:Nat) (o:Oper),os[p]? =some o∧o.dst=some s
     ·obtain ⟨p,o,hp,i⟩:=aq
      have c2:=(List.getElem?_eq_some_iff.1 hp).1
      have aa: ∀p' o',os[p']? =some o'→o'.dst=some s→p'=p:=fun p' o' J R=>Yt os hn p' p o' o s J hp R i
      rcases Nat.lt_trichotomy p q with h | h | h
      ·have hb:=ad p q o os[q] h hp A (by simp only[Qs,i,Bool.or_eq_true];left;left;simpa using hs)
       exact bj p o hp i h (hC c q f E p hb (by omega))
      ·subst h
       exact ae (fun p' ah o' J R=>by rw[aa p' o' J R] at ah;exact O ah) (fun p' ah o' J R=>by rw[aa p' o' J R] at ah;omega)
      ·refine ae (fun p' ah o' J R=>?_) (fun p' ah o' J R=>by rw[aa p' o' J R] at ah;omega)
       have e:=aa p' o' J R
       subst e
       have hb:=ad q p' os[q] o' h A J (by simp only[Qs,R,Bool.or_eq_true];right;left;simpa using hs)
       obtain ⟨p1,p2,W⟩:=List.append_of_mem ah
       have:=hC p1 p' (p2++q::f) (by rw[E,W];simp) q hb U
       exact O (by rw[W];exact List.mem_append_left _ this)
     ·exact ae (fun p _ o J R=>aq ⟨p,o,J,R⟩) (fun p _ o J R=>aq ⟨p,o,J,R⟩)
   have br: ∀s∈R0 ops os[q]++B4 os[q],(∃p o,os[p]? =some o∧o.dst=some s∧p<q∧an p q=true)∨s∈B4 os[q]:=by
    intro s hs
    rcases List.mem_append.1 hs with hs | hs
    ·left
     unfold R0 at hs
     split at hs
     ·simp at hs
     ·rename_i j b bw
      split at hs
      ·rename_i d bp
       simp only[List.mem_singleton] at hs
       subst hs
       obtain ⟨p,av,bn,hb⟩:=hg q os[q] j b A bw
       obtain ⟨o,i,z⟩:=Option.bind_eq_some_iff.1 bp
       exact ⟨p,o,by rw[bn,i],z,av,hb⟩
      ·simp at hs
    ·exact .inr hs
   have a0:=V q Y
   rw[A] at a0
   rw[List.filterMap_cons,A]
   simp only
   -- the state behind it
   have step: ∀(v:Value) (u':Nat→Value) (w':World),(∀p∈c,(Qq os (C.map .val) p).at u'=(Qq os (C.map .val) p).at u)→v=(Qq os (C.map .val) q).at u'→
    (∀r,Qq os (C.map .val) q= .ref r→r∈q::c∧ ∃o,os[r]? =some o∧mv o=none)→B w'→(∀r∈q::c,∀o,os[r]? =some o→mv o=none→Φ r u' w'∧ ∀j∈refs ops (O5 (C.map .val) 0 (os.take r)) o,j∈q::c)→
    Z5 P ops W3 (f.filterMap (os[·]?)) (put l os[q].dst v) w':=by
    intro v u' w' hu hv hr cu b4
    have Q: ∀x,x∈c++[q]↔x∈q::c:=by intro x;simp[or_comm]
    refine ih (c++[q]) (by rw[E];simp) (fun x hx=>by rcases List.mem_cons.1 ((Q x).1 hx) with rfl | hx;exact Y;exact D x hx) _ u' w' ?_ cu (fun r hr o i N=>⟨(b4 r ((Q r).1 hr) o i N).1,fun j hj=>(Q j).2 ((b4 r ((Q r).1 hr) o i N).2 j hj)⟩)
    have a3: ∀p∈c++[q],∀r,Qq os (C.map .val) p= .ref r→r∈c++[q]∧ ∃o,os[r]? =some o∧mv o=none:=by
     intro p hp r bo
     rcases List.mem_cons.1 ((Q p).1 hp) with rfl | hp
     ·exact ⟨(Q r).2 (hr r bo).1,(hr r bo).2⟩
     ·obtain ⟨J,R⟩:=hA.refs p hp r bo
      exact ⟨List.mem_append_left _ J,R⟩
    cases g:os[q].dst with
    | none=>
     refine ⟨hA.len,?_,?_,a3⟩
     ·intro p hp o d i z
      rcases List.mem_cons.1 ((Q p).1 hp) with rfl | hp
      ·rw[A] at i;cases i;rw[g] at z;cases z
      ·rw[hu p hp];exact hA.done p hp o d i z
     ·intro s hs;exact hA.rest s fun p hp=>hs p (List.mem_append_left _ hp)
    | some d0=>
     have ar:d0<C.length:=hd d0 (by simp only[S1,List.mem_filterMap];exact ⟨os[q],List.getElem_mem _,g⟩)
     refine ⟨by simp[put,hA.len],?_,?_,a3⟩
     ·intro p hp o d i z
      rcases List.mem_cons.1 ((Q p).1 hp) with rfl | hp2
      ·rw[A] at i;cases i
       rw[g] at z;cases z
       simp only[put]
       rw[List.getElem?_set_self (by rw[hA.len];exact ar),hv]
      ·have Z:d0≠d:=by
        rintro rfl
        have:=Yt os hn p q o os[q] d0 i A z g
        subst this;exact O hp2
       simp only[put]
       rw[List.getElem?_set_ne Z,hu p hp2]
       exact hA.done p hp2 o d i z
     ·intro s hs
      have Z:d0≠s:=fun e=>hs q (by simp) os[q] A (by rw[g,e])
      simp only[put]
      rw[List.getElem?_set_ne Z]
      exact hA.rest s fun p hp=>hs p (List.mem_append_left _ hp)
   cases t:mv os[q] with
   | some x=>
    have X:Qq os (C.map .val) q=entOf (O5 (C.map .val) 0 (os.take q)) x:=by simp[Qq,A,Sa,t]
    -- a move: what the operand holds
    have hx:ev l x=(entOf (O5 (C.map .val) 0 (os.take q)) x).at u∧ ∀r,entOf (O5 (C.map .val) 0 (os.take q)) x= .ref r→r∈c∧ ∃o,os[r]? =some o∧mv o=none:=by
     cases x with
     | tmp s=>
      have hs:s∈B4 os[q]:=by
       unfold mv at t
       split at t
       ·cases t
       ·simp only[B4,List.mem_filterMap]
        split at t
        ·rename_i y hy;cases t;exact ⟨.tmp s,by rw[hy];simp[Op.operands],rfl⟩
        ·rename_i y hy;cases t;exact ⟨.tmp s,by rw[hy];simp[Op.operands],rfl⟩
        ·cases t
      exact af s (.inr hs)
     | _=>exact ⟨rfl,fun r hr=>by cases hr⟩
    have a7:os[q].guard=none:=by
     unfold mv at t
     split at t
     ·cases t
     ·assumption
    simp only[Z5,a7]
    have aw:L1 P l os[q] w (fun v w=>Z5 P ops W3 (f.filterMap (os[·]?)) (put l os[q].dst v) w)=Z5 P ops W3 (f.filterMap (os[·]?)) (put l os[q].dst (ev l x)) w:=by
     unfold mv at t
     rw[a7] at t
     simp only at t
     split at t
     ·rename_i y hy;cases t;simp only[L1,hy]
     ·rename_i y hy;cases t;simp only[L1,hy]
     ·cases t
    rw[aw]
    refine step _ u w (fun _ _=>rfl) (by rw[X];exact hx.1) (fun r hr=>by
     rw[X] at hr
     obtain ⟨J,R⟩:=hx.2 r hr
     exact ⟨List.mem_cons_of_mem _ J,R⟩) hB (fun r hr o i N=>by
     rcases List.mem_cons.1 hr with rfl | hr
     ·rw[A] at i;cases i;rw[t] at N;cases N
     ·exact ⟨(hΦ r hr o i N).1,fun j hj=>List.mem_cons_of_mem _ ((hΦ r hr o i N).2 j hj)⟩)
   | none=>
    have X:Qq os (C.map .val) q= .ref q:=by simp[Qq,A,Sa,t]
    have bf:=hW.run q os[q] a0 t (bm _ (List.getElem_mem _)) u w hB
    rw[az q (by omega),Nat.zero_add] at bf
    have co:=hW.stable
    have bu:=bf (fun j hj=>by
     obtain ⟨s,hs,he⟩:=Be (Cx hj)
     obtain ⟨J,o,R,h3⟩:=(af s (br s hs)).2 j he
     exact (hΦ j J o R h3).1)
    have ci: ∀j∈refs ops (O5 (C.map .val) 0 (os.take q)) os[q],j∈c:=fun j hj=>by
     obtain ⟨s,hs,he⟩:=Be (Cx hj)
     exact ((af s (br s hs)).2 j he).1
    refine Q39 ?_
    rw[Q28 (bm _ (List.getElem_mem _)) (l':=Qc u (O5 (C.map .val) 0 (os.take q))) (fun s hs=>by rw[Ps];exact (af s (br s hs)).1)]
    refine Q3n ?_ bu
    intro v w' ⟨b0,hφ⟩
    have Z: ∀r∈c,r≠q:=fun r hr e=>O (e▸hr)
    refine step v (fun n=>if n=q then v else u n) w' ?_ (by rw[X];simp[Ent.at]) (fun r hr=>by rw[X] at hr;cases hr;exact ⟨by simp,os[q],A,t⟩) (hT w w' hB b0) ?_
    ·intro p hp
     cases he:Qq os (C.map .val) p with
     | val x=>rfl
     | ref r=>
      have:=Z r (hA.refs p hp r he).1
      simp[Ent.at,this]
    ·intro r hr o i N
     rcases List.mem_cons.1 hr with rfl | hr
     ·rw[A] at i;cases i
      exact ⟨hφ _ (fun x hx=>by simp[Z x (ci x hx)]) (by simp),fun j hj=>List.mem_cons_of_mem _ (ci j hj)⟩
     ·obtain ⟨f1,f2⟩:=hΦ r hr o i N
      have ca:=D r hr
      have cd:=Z r hr
      have hl:=hW.loc r o (by rw[V r ca];exact i) N (fun n=>if n=q then v else u n) u (fun x hx=>by
       rw[az r (by omega),Nat.zero_add] at hx
       have:x≠q:=by
        rcases List.mem_cons.1 hx with rfl | hx
        ·exact cd
        ·exact Z x (f2 x hx)
       simp[this])
      have hs:=co r o (by rw[V r ca];exact i) N
      rw[Nat.zero_add] at hs hl
      refine ⟨?_,fun j hj=>List.mem_cons_of_mem _ (f2 j hj)⟩
      rw[hl]
      exact hs _ _ _ f1 b0
def X2V:Op→Bool
 | .move _ | .assign _ | .fieldAddr .. | .indexAddr .. | .field .. | .index .. | .binOp .. | .unOp .. | .extract .. | .pick .. | .makeFunc .. | .nilCheck _ | .slice .. =>true
 | _=>false
def ready (ops:List Oper) (a:List Nat) (j:Nat):Bool:=(A5 ops j).all (a.contains ·)
def X2C (ops:List Oper) (j:Nat):Bool:=match ops[j]? with | some o=>X2V o.op | none=>false
def Q82 (ops:List Oper):Nat→List Nat→List Nat→List Nat
 | 0,_,a=>a.reverse
 | n+1,b,a=>
  match b.find? (fun j=>X2C ops j&&ready ops a j) with
  | some j=>Q82 ops n (b.erase j) (j::a)
  | none=>match b.find? (ready ops a) with
   | some j=>Q82 ops n (b.erase j) (j::a)
   | none=>a.reverse
def K2 (ops:List Oper):List Nat:=Q82 ops ops.length (List.range ops.length) []
def Qp (ops:List Oper) (a:List Nat) (p q:Nat):Bool:=((Q10 ops []).getD (a.getD q 0) 0).testBit (a.getD p 0)
def U9 (ops:List Oper) (a:List Nat):List Oper:=a.map fun i=>ops.getD i default
def cutA (ops:List Oper) (a:List Nat):Nat→Nat
 | 0=>0
 | j+1=>if (List.range j).all (fun i=>Qp ops a i j||Mt (U9 ops a) i) then cutA ops a j else j+1
def X4j (ops:List Oper) (a:List Nat) (c n:Nat):Bool:=(List.range n).all fun q=>(List.range q).all fun p=>decide (p<c)||Qp ops a p q
def Hx (ops:List Oper) (a:List Nat) (n:Nat):Nat:=if X4j ops a (cutA ops a n) n then cutA ops a n else n
theorem Q4s (ops:List Oper) (a:List Nat): ∀n,cutA ops a n≤n∧ ∀q,cutA ops a n≤q→q<n→ ∀p,p<q→Qp ops a p q=true∨Mt (U9 ops a) p=true
 | 0=>⟨Nat.le_refl _,fun q _ h=>by omega⟩
 | j+1=>by
  obtain ⟨g,f⟩:=Q4s ops a j
  simp only[cutA]
  split
  ·rename_i h
   refine ⟨by omega,fun q d b p c=>?_⟩
   by_cases e:q=j
   ·subst e
    simpa using List.all_eq_true.1 h p (by simpa using c)
   ·exact f q d (by omega) p c
  ·exact ⟨Nat.le_refl _,fun q d b=>by omega⟩
theorem Q8h (ops:List Oper) (a:List Nat) (n:Nat):Hx ops a n≤n∧ ∀q,Hx ops a n≤q→q<n→ ∀p,p<q→Qp ops a p q=true∨(p<Hx ops a n∧Mt (U9 ops a) p=true):=by
 obtain ⟨g,i⟩:=Q4s ops a n
 unfold Hx
 split
 ·rename_i f
  refine ⟨g,fun q e b p d=>?_⟩
  by_cases c:p<cutA ops a n
  ·exact (i q e b p d).imp id fun h=>⟨c,h⟩
  ·left
   have:=List.all_eq_true.1 (List.all_eq_true.1 f q (by simpa using b)) p (by simpa using d)
   simpa [c] using this
 ·exact ⟨Nat.le_refl _,fun q e b=>by omega⟩
def X1s (ops:List Oper) (a:List Nat):Bool:=
 a.length==ops.length&&(List.range ops.length).all (a.contains ·)&&Jz a&&a.all (fun i=>decide (i<ops.length))&&
  (List.range ops.length).all fun q=>(List.range q).all fun p=> !Qp ops a q p
def So (ops:List Oper) (n:Nat):Bool:=
 Lp ops&&Q7x (Q10 ops []) ops&&Jz (S1 (U9 ops (K2 ops)))&&(S1 (U9 ops (K2 ops))).all (fun d=>decide (d<n))&&
  (Zg .any ops (List.range ops.length)&&Zg .text ops (List.range ops.length)&&Zg .gc ops (X2F .gc ops ops.length (List.range ops.length) []))&&X1s ops (K2 ops)
theorem Q0i: ∀{l:List Nat},Jz l=true→l.Nodup
 | [],_=>List.nodup_nil
 | x::l,h=>by
  simp only[Jz,Bool.and_eq_true,Bool.not_eq_true'] at h
  exact List.nodup_cons.2 ⟨by simpa using h.1,Q0i h.2⟩
theorem Q5t {ops:List Oper}: ∀(b:List Oper) (a:List Nat),a.length+b.length=ops.length→(∀k,a.length≤k→ops[k]? =b[k-a.length]?)→
 (∀j k,j<a.length→k∈A5 ops j→(a.getD j 0).testBit k=true)→ ∀j k,j<ops.length→k∈A5 ops j→((Q10 b a).getD j 0).testBit k=true
 | [],a,i,_,c=>fun j k p d=>c j k (by simp at i;omega) d
 | o::b,a,i,f,c=>by
  have u:ops[a.length]? =some o:=by rw[f _ (Nat.le_refl _)];simp
  refine Q5t b _ (by simp at i⊢;omega) ?_ ?_
  ·intro k d
   simp only[List.length_append,List.length_cons,List.length_nil] at d⊢
   rw[f k (by omega)]
   obtain ⟨m,t⟩: ∃m,k-a.length=m+1:=⟨k-a.length-1,by omega⟩
   rw[t,List.getElem?_cons_succ]
   congr 1;omega
  ·intro j k p d
   simp only[List.length_append,List.length_cons,List.length_nil] at p
   by_cases g:j<a.length
   ·simp only[List.getD_eq_getElem?_getD,List.getElem?_append_left g]
    simpa only[List.getD_eq_getElem?_getD] using c j k g d
   ·have n:j=a.length:=by omega
    subst n
    simp only[List.getD_eq_getElem?_getD,List.getElem?_append_right (Nat.le_refl _),Nat.sub_self,List.getElem?_cons_zero,Option.getD_some]
    unfold A5 at d
    rw[u] at d
    simp only[Option.map_some,Option.getD_some,List.mem_map] at d
    obtain ⟨e,r,rfl⟩:=d
    have key: ∀(l:List Edge) (s:Nat),(e∈l∨s.testBit e.on=true)→(l.foldl (fun s e=>s ||| 2 ^ e.on ||| (a[e.on]?).getD 0) s).testBit e.on=true:=by
     intro l
     induction l with
     | nil=>intro s h;simpa using h
     | cons x l q=>
      intro s h
      refine q _ ?_
      rcases h with h | h
      ·rcases List.mem_cons.1 h with rfl | h
       ·right;simp
       ·exact .inl h
      ·right;simp[h]
    exact key _ _ (.inl r)
theorem Sm {α β:Type} {f g:α→Option β}: ∀{l:List α},(∀x∈l,f x=g x)→l.filterMap f=l.filterMap g
 | [],_=>rfl
 | x::l,h=>by
  rw[List.filterMap_cons,List.filterMap_cons,h x (by simp),Sm fun y a=>h y (by simp[a])]
structure Arr (ops : List Oper) (ord : List Nat) (L : List Nat) : Prop where
  hpl : ∀ o ∈ U9 ops ord, Xu o.op = true
  hclash : ∀ p q a b, p < q → (U9 ops ord)[p]? = some a → (U9 ops ord)[q]? = some b → (Qs a b || Qs b a) = true → Qp ops ord p q = true
  hg : ∀ q o j b, (U9 ops ord)[q]? = some o → o.guard = some (j, b) → ∃ p, p < q ∧ (U9 ops ord)[p]? = ops[j]? ∧ Qp ops ord p q = true
  hn : L.Nodup
  hlt : ∀ q ∈ L, q < (U9 ops ord).length
  hC : ∀ pre q post, L = pre ++ q :: post → ∀ p, Qp ops ord p q = true → p < (U9 ops ord).length → p ∈ pre
  hLl : L.length = (U9 ops ord).length
theorem Q44 {ops:Array Oper} {n:Nat} (ac:So ops.toList n=true) (b:Bool) (t:Nat): ∃L,(Region.schedule b ops t).filterMap (ops[·]?)=L.filterMap ((U9 ops.toList (K2 ops.toList))[·]?)∧Arr ops.toList (K2 ops.toList) L∧(U9 ops.toList (K2 ops.toList)).length=ops.toList.length:=by
 simp only[So,Bool.and_eq_true] at ac
 obtain ⟨⟨⟨⟨⟨Y,hc⟩,hn⟩,hd⟩,⟨bc,bh⟩,bd⟩,N⟩:=ac
 generalize K2 ops.toList=c at*
 simp only[X1s,Bool.and_eq_true,beq_iff_eq] at N
 obtain ⟨⟨⟨⟨Z,V⟩,a2⟩,R⟩,J⟩:=N
 have ad:=Q0i a2
 have ab:(U9 ops.toList c).length=ops.toList.length:=by simp[U9,Z]
 have f: ∀p,p<ops.toList.length→c.getD p 0<ops.toList.length:=by
  intro p X
  simp only[List.getD_eq_getElem?_getD]
  rw[List.getElem?_eq_getElem (by omega)]
  have:=List.all_eq_true.1 R c[p] (List.getElem_mem _)
  simpa using this
 have d: ∀p,p<ops.toList.length→(U9 ops.toList c)[p]? =ops.toList[c.getD p 0]? :=by
  intro p X
  have r:=f p X
  simp only[List.getD_eq_getElem?_getD] at r
  rw[List.getElem?_eq_getElem (by omega:p<c.length)] at r
  simp only[Option.getD_some] at r
  simp only[U9,List.getElem?_map,List.getD_eq_getElem?_getD]
  rw[List.getElem?_eq_getElem (by omega:p<c.length)]
  simp only[Option.map_some,Option.getD_some]
  rw[List.getElem?_eq_getElem r]
  simp
 obtain ⟨aa,O,v⟩:=Q4S b ops t Y (fun m=>by cases m<;>exact ⟨_,by assumption⟩)
 have l:=Q2j b ops t
 generalize Region.schedule b ops t=L0 at aa O v l⊢
 have w: ∀i,i<ops.toList.length→i∈c:=fun i C=>by simpa using List.all_eq_true.1 V i (by simpa using C)
 have g: ∀i,i<ops.toList.length→c.idxOf i<ops.toList.length∧c.getD (c.idxOf i) 0=i:=by
  intro i C
  have r:=List.idxOf_lt_length_of_mem (w i C)
  refine ⟨by omega,?_⟩
  simp only[List.getD_eq_getElem?_getD]
  rw[List.getElem?_eq_getElem r]
  simp
 have s: ∀p,p<ops.toList.length→c.idxOf (c.getD p 0)=p:=by
  intro p X
  simp only[List.getD_eq_getElem?_getD]
  rw[List.getElem?_eq_getElem (by omega:p<c.length)]
  simp only[Option.getD_some]
  exact List.Nodup.idxOf_getElem ad p (by omega)
 have al: ∀p q,p<q→q<ops.toList.length→Qp ops.toList c q p=false:=by
  intro p q U u
  have:=List.all_eq_true.1 (List.all_eq_true.1 J q (by simpa using u)) p (by simpa using U)
  simpa using this
 have aq:L0.filterMap (ops[·]?)=(L0.map (c.idxOf ·)).filterMap ((U9 ops.toList c)[·]?):=by
  rw[List.filterMap_map]
  refine Sm fun i C=>?_
  have:=l i C
  have r:=g i (by simpa using this)
  simp only[Function.comp]
  rw[d _ r.1,r.2]
  simp
 refine ⟨L0.map (c.idxOf ·),aq,⟨?_,?_,?_,?_,?_,?_,by simp[O,Z,U9]⟩,ab⟩
 ·intro o ho
  simp only[U9,List.mem_map] at ho
  obtain ⟨i,C,rfl⟩:=ho
  have B:i<ops.toList.length:=by simpa using List.all_eq_true.1 R i C
  simp only[Lp,List.all_eq_true,Bool.and_eq_true] at Y
  have:=(Y (ops.toList[i],i) (by rw[List.mem_zipIdx_iff_getElem?];simpa using B)).1.1
  rw[List.getD_eq_getElem?_getD,List.getElem?_eq_getElem B]
  exact this
 ·intro p q a b' U ha D H
  have X:p<ops.toList.length:=by have:=(List.getElem?_eq_some_iff.1 ha).1;omega
  have u:q<ops.toList.length:=by have:=(List.getElem?_eq_some_iff.1 D).1;omega
  rw[d p X] at ha
  rw[d q u] at D
  have ak: ∀i i' x x',i<i'→ops.toList[i]? =some x→ops.toList[i']? =some x'→(Qs x x'||Qs x' x)=true→((Q10 ops.toList []).getD i' 0).testBit i=true:=by
   intro i i' x x' a1 hx a5 H
   simp only[Q7x,List.all_eq_true] at hc
   have:=hc (x',i') (by rw[List.mem_zipIdx_iff_getElem?];simpa using a5) (x,i) (by rw[List.mem_zipIdx_iff_getElem?];simpa using hx)
   simp only[a1,H,decide_true,Bool.not_true,Bool.false_or,Bool.or_self] at this
   exact this
  have ae:c.getD p 0≠c.getD q 0:=by
   intro e
   have:=s p X
   rw[e,s q u] at this
   omega
  rcases Nat.lt_or_gt_of_ne ae with h | h
  ·exact ak _ _ a b' h ha D H
  ·have r:=ak _ _ b' a h D ha (by rw[Bool.or_comm];exact H)
   have z:=al p q U u
   unfold Qp at z
   rw[r] at z;cases z
 ·intro q o j b' u a6
  have E:q<ops.toList.length:=by have:=(List.getElem?_eq_some_iff.1 u).1;omega
  rw[d q E] at u
  have Q:j∈A5 ops.toList (c.getD q 0):=by
   have am:=Y
   simp only[Lp,List.all_eq_true,Bool.and_eq_true] at am
   have:=(am (o,c.getD q 0) (by rw[List.mem_zipIdx_iff_getElem?];simpa using u)).2
   rw[a6] at this
   simp only[List.any_eq_true] at this
   obtain ⟨e,a4,aw⟩:=this
   unfold A5
   rw[u]
   simp only[Option.map_some,Option.getD_some,List.mem_map]
   exact ⟨e,a4,by simpa using aw⟩
  have ao:=Ig Y _ (f q E) j Q
  have hj:j<ops.toList.length:=by have:=f q E;omega
  have D:=Q5t (ops:=ops.toList) ops.toList [] (by simp) (by simp) (by intro j k hj;simp at hj) _ j (f q E) Q
  obtain ⟨r,z⟩:=g j hj
  have M:Qp ops.toList c (c.idxOf j) q=true:=by unfold Qp;rw[z];exact D
  refine ⟨c.idxOf j,?_,by rw[d _ r,z],M⟩
  rcases Nat.lt_trichotomy (c.idxOf j) q with h | h | h
  ·exact h
  ·rw[←h,z] at ao;omega
  ·have:=al q _ h r
   rw[M] at this;cases this
 ·refine List.pairwise_map.2 (aa.imp_of_mem ?_)
  intro x y hx hy a0 a7
  have r:=(g x (by simpa using l x hx)).2
  have z:=(g y (by simpa using l y hy)).2
  exact a0 (by rw[←r,←z,a7])
 ·intro q u
  simp only[List.mem_map] at u
  obtain ⟨i,C,rfl⟩:=u
  have:=(g i (by simpa using l i C)).1
  omega
 ·intro be q bb hL p D X
  rw[List.map_eq_append_iff] at hL
  obtain ⟨af,ax,ag,aj,A⟩:=hL
  rw[List.map_eq_cons_iff] at A
  obtain ⟨i,W,hr,C,a3⟩:=A
  subst hr C aj
  have B:i<ops.toList.length:=by simpa using l i (by rw[ag];simp)
  obtain ⟨r,z⟩:=g i B
  unfold Qp at D
  rw[z] at D
  have ar:p<ops.toList.length:=by omega
  have:=Q63 Y v i B (c.getD p 0) af W ag D
  rw[List.mem_map]
  exact ⟨c.getD p 0,this,s p ar⟩
theorem X2h (P:Program) (ops:Array Oper) (T:World→World→Prop) (B:World→Prop) (W3:List Value→World→Prop) (i:List Value) (g:So ops.toList i.length=true)
 (E: ∀w w',B w→T w w'→B w')
 (h:chain P ops.toList T B W3 ((U9 ops.toList (K2 ops.toList)).drop (Hx ops.toList (K2 ops.toList) ops.toList.length)) 0
  ((U9 ops.toList (K2 ops.toList)).take (Hx ops.toList (K2 ops.toList) ops.toList.length)) (i.map .val) [] [])
 (b:Bool) (t:Nat) (w:World) (N:B w):Z5 P ops.toList W3 ((Region.schedule b ops t).filterMap (ops[·]?)) i w:=by
 obtain ⟨L,k,f,r⟩:=Q44 g b t
 simp only[So,Bool.and_eq_true] at g
 obtain ⟨⟨⟨⟨⟨n,Q⟩,y⟩,D⟩,⟨s,H⟩,z⟩,o⟩:=g
 generalize K2 ops.toList=a at*
 obtain ⟨Φ,_,J⟩:=Q1f P ops.toList T B W3 _ _ 0 (i.map .val) [] [] (by intro e n j O;simp only[List.mem_map] at n;obtain ⟨v,_,rfl⟩:=n;cases O) (by simp) (by simp[Vb]) h
 rw[k]
 obtain ⟨l,c⟩:=Q8h ops.toList a ops.toList.length
 exact X4h (os:=U9 ops.toList a) (m:=Hx ops.toList a ops.toList.length) (T:=T) (B:=B) (Φ:=Φ) (Qp ops.toList a) f.hpl y (fun d M=>by simpa using List.all_eq_true.1 D d M) f.hclash f.hg (by omega)
  (fun q C A p u=>c q C (by omega) p u) E J L f.hn f.hLl f.hlt f.hC _ [] rfl (by simp) i (fun _=>undef) w
  ⟨rfl,by simp,fun _ _=>rfl,by simp⟩ N (by simp)
def Ux {α:Type} (P:Program) (s:Sem α):Prop:= ∀w v w',s.run P w= .ok v w'→w'=w
section
variable {P : Program} {α β : Type}
theorem Ns (a:α):Ux P (Pure.pure a:Sem α):=fun w v w' h=>by simp at h;exact h.2.symm
theorem Q6t (m:String):Ux P (stuck m:Sem α):=fun w v w' h=>by simp at h
theorem Yw {s:Sem α} {f:α→Sem β} (d:Ux P s) (c: ∀a,Ux P (f a)):Ux P (s>>=f):=fun w v w' h=>by
 rw[Sem.run_bind] at h
 cases b:s.run P w with
 | halt x w1=>rw[b] at h;simp[Result.andThen] at h
 | ok a w1=>
  rw[b] at h
  have:=d _ _ _ b
  subst this
  exact c a _ _ _ h
theorem Q3u (a:Addr) (m:Mode):Ux P (load a m):=fun w v w' h=>by
 unfold load at h
 simp only[Sem.run] at h
 split at h
 ·cases h;rfl
 ·split at h
  ·cases h;rfl
  ·cases h
theorem Q3w (t:TypeId):Ux P (typeInfo t):=fun w v w' h=>by
 unfold typeInfo at h
 simp only[Sem.run_bind,run_program,Result.andThen_ok] at h
 split at h<;>simp at h
 exact h.2.symm
theorem Q2w (t:TypeId):Ux P (underlying t):=fun w v w' h=>by
 unfold underlying at h
 simp only[Sem.run_bind,run_program,Result.andThen_ok] at h
 split at h<;>simp at h
 exact h.2.symm
theorem Q6A (t:TypeId):Ux P (isAgg t):=by
 unfold isAgg
 refine Yw (Q2w t) fun d=>?_
 split<;>exact Ns _
theorem Q5D (t:TypeId):Ux P (sizeOf t):=Yw (Q3w t) fun _=>Ns _
theorem Q2l (a:Addr): ∀(n i:Nat) (b:Array Value),Ux P (loadCellsFrom a i n b)
 | 0,i,b=>Ns _
 | n+1,i,b=>Yw (Q3u _ _) fun v=>Q2l a n (i+1) _
theorem Q4Q (t:TypeId) (a:Addr):Ux P (loadVar t a):=by
 unfold loadVar
 refine Yw (Q6A t) fun b=>?_
 split
 ·exact Yw (Q5D t) fun n=>Yw (Q2l a n 0 #[]) fun cs=>Ns _
 ·exact Q3u _ _
theorem Q5T (t:TypeId) (v:Value):Ux P (Instr.loadAt t v):=by
 unfold Instr.loadAt
 refine Yw ?_ fun a=>Q4Q t a
 unfold Instr.sureAddr
 split
 ·exact Ns _
 ·exact Q6t _
def Us (P:Program) (s:Sem α):Prop:= ∀w v w1,s.run P w= .ok v w1→w1=w∧ ∀w',s.run P w'= .ok v w'
theorem Jy (a:α):Us P (Pure.pure a:Sem α):=fun w v w' h=>by simp at h⊢;exact ⟨h.2.symm,h.1⟩
theorem Nz (m:String):Us P (stuck m:Sem α):=fun w v w' h=>by simp at h
theorem Qo {s:Sem α} {f:α→Sem β} (g:Us P s) (e: ∀a,Us P (f a)):Us P (s>>=f):=fun w v w' h=>by
 rw[Sem.run_bind] at h
 cases b:s.run P w with
 | halt x w1=>rw[b] at h;simp[Result.andThen] at h
 | ok a w1=>
  rw[b] at h
  obtain ⟨rfl,i⟩:=g _ _ _ b
  obtain ⟨j,d⟩:=e a _ _ _ h
  refine ⟨j,fun c=>?_⟩
  rw[Sem.run_bind,i c]
  exact d c
theorem Q4L (t:TypeId):Us P (typeInfo t):=fun w v w' h=>by
 unfold typeInfo at h⊢
 simp only[Sem.run_bind,run_program,Result.andThen_ok] at h⊢
 split at h<;>simp at h
 rename_i i a
 refine ⟨h.2.symm,fun w'=>?_⟩
 simp[a,h.1]
theorem Cv (t:TypeId):Us P (underlying t):=fun w v w' h=>by
 unfold underlying at h⊢
 simp only[Sem.run_bind,run_program,Result.andThen_ok] at h⊢
 split at h<;>simp at h
 rename_i i a
 refine ⟨h.2.symm,fun w'=>?_⟩
 simp[a,h.1]
theorem Q0J (v:Value) (i:Nat):Us P (Instr.extract v i):=by
 unfold Instr.extract
 split
 ·split
  ·exact Jy _
  ·exact Nz _
 ·exact Nz _
theorem Q95 (v:Value):Us P (Instr.sureAddr v):=by
 unfold Instr.sureAddr
 split
 ·exact Jy _
 ·exact Nz _
theorem Q3O {s:Sem α} (h: ∀w v w',s.run P w≠ .ok v w'):Us P s:=fun w v w' e=>absurd e (h w v w')
theorem Q3N {s:Sem α} {f:α→Sem β} (c: ∀a w v w',(f a).run P w≠ .ok v w'): ∀w v w',(s>>=f).run P w≠ .ok v w':=fun w v w' h=>by
 rw[Sem.run_bind] at h
 cases b:s.run P w with
 | halt x w1=>rw[b] at h;simp[Result.andThen] at h
 | ok a w1=>rw[b] at h;exact c a _ _ _ h
theorem Q2Y (e:Int×Int×Bool×BoundsCode): ∀w v w',(runtimePanic (.bounds e.1 e.2.1 e.2.2.1 e.2.2.2):Sem α).run P w≠ .ok v w':=by
 unfold runtimePanic
 exact Q3N fun p=>fun w v w' h=>by cases h
theorem Q2f (k:IntKind) (x y:Int) (c:BoundsCode):Us P (boundsPanic k x y c:Sem α):=Q3O (by
 unfold boundsPanic
 dsimp only
 split
 ·exact Q3N fun b=>Q2Y (_,_,_,_)
 ·exact Q3N fun b=>Q2Y (_,_,_,_))
theorem Q0I (t:TypeId) (x i:Value):Us P (Instr.indexAt t x i):=by
 unfold Instr.indexAt
 refine Qo ?_ fun q=>?_
 ·unfold asIntOf
  split
  ·exact Jy _
  ·exact Q3O fun w v w' h=>by cases h
  ·exact Nz _
 refine Qo (Cv t) fun d=>?_
 dsimp only
 have key: ∀(z:Option Addr×Nat×TypeId),Us P (match z with
  | (base,b,elem)=>do
   let __do_lift←underlying t
   have c:Bool:=decide (b≤1)&&match __do_lift with
    | TypeDesc.array b elem=>true
    | x=>false
   match base with
    | some a=>
     if 0≤q.snd∧q.snd< ↑b then do
      let __do_lift←sizeOf elem
      pure (Value.pointer (some (a.add (q.snd.toNat*__do_lift))))
     else
      if c=true then unsupported (Unsupported.noEntry "op/indexAddr.an index out of range at an array of length 0 or 1 (ledger 616)")
      else boundsPanic q.fst q.snd (↑b) BoundsCode.index
    | none=>boundsPanic q.fst q.snd 0 BoundsCode.index):=by
  rintro ⟨base,b,elem⟩
  dsimp only
  refine Qo (Cv t) fun g=>?_
  cases base with
  | none=>exact Q2f _ _ _ _
  | some a=>
   dsimp only
   by_cases f:0≤q.snd∧q.snd< ↑b
   ·rw[if_pos f]
    exact Qo (Qo (Q4L _) fun _=>Jy _) fun n=>Jy _
   ·rw[if_neg f]
    by_cases e:(decide (b≤1)&&match g with
     | TypeDesc.array b elem=>true
     | x=>false)=true
    ·rw[if_pos e]
     exact Q3O fun w v w' h=>by cases h
    ·rw[if_neg e]
     exact Q2f _ _ _ _
 split
 ·exact Qo (Q95 _) fun a=>Qo (Jy _) key
 ·exact Qo (Jy _) key
 ·exact Qo (Nz _) key
def Q3U (o:Oper):Bool:=match o.op with | .move _ | .assign _ | .load .. | .extract .. | .indexAddr .. =>true | _=>false
def Q7O (o:Oper):Bool:=match o.op with | .move _ | .assign _ | .extract .. | .indexAddr .. =>true | _=>false
theorem Q3a {s:Sem Value} {w:World} {K:Value→World→Prop} (h:op P (sv s) w K): ∃v w',s.run P w= .ok v w'∧K v w':=by
 rw[T4] at h
 unfold P2 sv at h
 rw[Sem.run_bind] at h
 cases a:s.run P w with
 | halt x w1=>rw[a] at h;exact h.elim
 | ok v w1=>rw[a] at h;exact ⟨v,w1,rfl,h⟩
theorem Q3f {s:Sem Value} {v:Value} {w w':World} {K:Value→World→Prop} (h:s.run P w= .ok v w') (k:K v w'):op P (sv s) w K:=by
 rw[T4]
 unfold P2 sv
 rw[Sem.run_bind,h]
 exact k
theorem Q5b {l:List Value} {o:Oper} {w:World} {K:Value→World→Prop} (h:Q3U o=true) (e:L1 P l o w K): ∃v,K v w∧ ∀c,c v w→L1 P l o w c:=by
 obtain ⟨d,p,j,pos,i,g⟩:=o
 cases p<;>(first | (simp[Q3U] at h;done) | skip)<;>simp only[L1] at e⊢
 ·exact ⟨_,e,fun c a=>a⟩
 ·exact ⟨_,e,fun c a=>a⟩
 ·obtain ⟨v,w',b,f⟩:=Q3a e
  have:=Q5T _ _ _ _ _ b
  subst this
  exact ⟨v,f,fun c a=>Q3f b a⟩
 ·obtain ⟨v,w',b,f⟩:=Q3a e
  have:=(Q0I _ _ _ _ _ _ b).1
  subst this
  exact ⟨v,f,fun c a=>Q3f b a⟩
 ·obtain ⟨v,w',b,f⟩:=Q3a e
  have:=(Q0J _ _ _ _ _ b).1
  subst this
  exact ⟨v,f,fun c a=>Q3f b a⟩
theorem Q5e {l:List Value} {o:Oper} {w:World} {K:Value→World→Prop} (h:Q7O o=true) (c:L1 P l o w K): ∃v,K v w∧ ∀w' b,b v w'→L1 P l o w' b:=by
 obtain ⟨d,p,k,pos,j,g⟩:=o
 cases p<;>(first | (simp[Q7O] at h;done) | skip)<;>simp only[L1] at c⊢
 ·exact ⟨_,c,fun w' b a=>a⟩
 ·exact ⟨_,c,fun w' b a=>a⟩
 ·obtain ⟨v,w',i,e⟩:=Q3a c
  obtain ⟨rfl,f⟩:=Q0I _ _ _ _ _ _ i
  exact ⟨v,e,fun w' b a=>Q3f (f w') a⟩
 ·obtain ⟨v,w',i,e⟩:=Q3a c
  obtain ⟨rfl,f⟩:=Q0J _ _ _ _ _ i
  exact ⟨v,e,fun w' b a=>Q3f (f w') a⟩
end
structure Swap (ops : List Oper) (a b : Oper) : Prop where
  pa : Xu a.op = true
  pb : Xu b.op = true
  ga : a.guard = none
  ab : ∀ d, a.dst = some d → d ∉ R0 ops b ++ B4 b
  ba : ∀ d, b.dst = some d → d ∉ R0 ops a ++ B4 a
  dd : ∀ d, a.dst = some d → b.dst ≠ some d
  gb : ∀ j c, b.guard = some (j, c) → ((ops[j]?).bind (·.dst)).isSome = true
  rd : (Q3U a = true ∧ Q3U b = true ∧ b.guard = none) ∨ Q7O a = true
section
variable {P : Program} {ops : List Oper} {W3 : List Value → World → Prop}
theorem Q2t {l:List Value} {d:Option Nat} {v:Value} {s:Nat} (h: ∀e,d=some e→e≠s):get (put l d v) s=get l s:=by
 cases d with
 | none=>rfl
 | some e=>simp only[put,get,List.getD_eq_getElem?_getD,List.getElem?_set_ne (h e rfl)]
theorem Q9h {l:List Value} {d e:Option Nat} {v u:Value} (h: ∀x,d=some x→e≠some x):put (put l d v) e u=put (put l e u) d v:=by
 cases d with
 | none=>rfl
 | some d=>cases e with
  | none=>rfl
  | some e=>simp only[put];exact List.set_comm _ _ (by intro a;subst a;exact h d rfl rfl)
theorem Q49 {o:Oper} {s:Nat} (a:Operand.tmp s∈o.op.operands):s∈B4 o:=by
 simp only[B4,List.mem_filterMap]
 exact ⟨.tmp s,by simpa using a,rfl⟩
theorem Q6p {a b:Oper} {R:List Oper} {l:List Value} {w:World} (Q:Swap ops a b) (h:Z5 P ops W3 (a::b::R) l w):Z5 P ops W3 (b::a::R) l w:=by
 obtain ⟨pa,W,V,C,O,N,X,E⟩:=Q
 have t: ∀v,L1 P (put l a.dst v) b=L1 P l b:=fun v=>Dv W fun x p=>by
  cases x with
  | tmp s=>exact Q2t fun e m f=>C e m (List.mem_append_right _ (f▸Q49 p))
  | _=>rfl
 have o: ∀v,L1 P (put l b.dst v) a=L1 P l a:=fun v=>Dv pa fun x p=>by
  cases x with
  | tmp s=>exact Q2t fun e m f=>O e m (List.mem_append_right _ (f▸Q49 p))
  | _=>rfl
 have n: ∀v u,put (put l b.dst u) a.dst v=put (put l a.dst v) b.dst u:=fun v u=>(Q9h N).symm
 simp only[Z5,V] at h⊢
 cases k:b.guard with
 | none=>
  simp only[k] at h⊢
  rcases E with ⟨Y,Z,_⟩ | fa
  ·obtain ⟨H,g,i⟩:=Q5b Y h
   rw[t] at g
   obtain ⟨J,U,L⟩:=Q5b Z g
   refine L _ ?_
   rw[o]
   exact i _ (by rw[n];exact U)
  ·obtain ⟨H,g,i⟩:=Q5e fa h
   rw[t] at g
   refine K3 (fun J w' y=>?_) g
   rw[o]
   exact i w' _ (by rw[n];exact y)
 | some q=>
  obtain ⟨j,c⟩:=q
  rcases E with ⟨_,_,B⟩ | fa
  ·rw[k] at B;cases B
  obtain ⟨d,D⟩:=Option.isSome_iff_exists.1 (X j c k)
  have A:d∈R0 ops b:=by simp[R0,k,D]
  have M: ∀v,get (put l a.dst v) d=get l d:=fun v=>Q2t fun e m f=>C e m (List.mem_append_left _ (f▸A))
  simp only[k,D] at h⊢
  obtain ⟨H,g,i⟩:=Q5e fa h
  rw[t,M] at g
  refine Q0M ((Lr g).imp (fun ⟨z,r⟩=>⟨z,K3 (fun J w' y=>?_) r⟩) (fun ⟨z,r⟩=>⟨z,?_⟩))
  ·rw[o];exact i w' _ (by rw[n];exact y)
  ·rw[o];exact i w _ (by rw[n];exact r)
theorem Q2m {a:Oper} {R R':List Oper} {l:List Value} {w:World} (b: ∀l w,Z5 P ops W3 R l w→Z5 P ops W3 R' l w) (h:Z5 P ops W3 (a::R) l w):Z5 P ops W3 (a::R') l w:=by
 simp only[Z5] at h⊢
 cases i:a.guard with
 | none=>simp only[i] at h⊢;exact K3 (fun v w f=>b _ _ f) h
 | some q=>
  obtain ⟨j,c⟩:=q
  simp only[i] at h⊢
  cases k:(ops[j]?).bind (·.dst) with
  | none=>simp only[k] at h⊢;exact b _ _ h
  | some d=>
   simp only[k] at h⊢
   exact Q0M ((Lr h).imp (fun ⟨g,e⟩=>⟨g,K3 (fun m w' f=>b _ _ f) e⟩) (fun ⟨g,e⟩=>⟨g,b _ _ e⟩))
theorem Q0u {q:Oper} {R:List Oper}: ∀(A:List Oper) {l:List Value} {w:World},(∀a∈A,Swap ops a q)→Z5 P ops W3 (A++q::R) l w→Z5 P ops W3 (q::(A++R)) l w
 | [],_,_,_,h=>h
 | a::A,l,w,c,h=>Q6p (c a (by simp)) (Q2m (R:=A++q::R) (fun _ _ h=>Q0u A (fun b d=>c b (by simp[d])) h) h)
theorem Nl: ∀(A:List Oper) {B:List Oper} {l:List Value} {w:World},Z5 P ops W3 (A++B) l w=Z5 P ops (fun l w=>Z5 P ops W3 B l w) A l w
 | [],B,l,w=>rfl
 | a::A,B,l,w=>by
  simp only[List.cons_append,Z5]
  split
  ·congr 1;funext v w;exact Nl A
  ·split
   ·congr 1;funext v w;exact Nl A
   ·exact Nl A
theorem Q8g {A B B':List Oper} {l:List Value} {w:World} (c: ∀l w,Z5 P ops W3 B l w→Z5 P ops W3 B' l w): ∀{l:List Value} {w:World},Z5 P ops W3 (A++B) l w→Z5 P ops W3 (A++B') l w:=by
 induction A with
 | nil=>exact fun h=>c _ _ h
 | cons a A b=>exact fun h=>Q2m (fun _ _ h=>b h) h
theorem Q7z (os:List Oper) (i:Nat→Nat→Bool) (j: ∀p q a b,p<q→os[p]? =some a→os[q]? =some b→i p q=false→Swap ops a b):
 ∀(n:Nat) (W3:List Value→World→Prop) (L:List Nat) (l:List Value) (w:World),L.Nodup→L.length=n→(∀q∈L,q<n)→n≤os.length→L.Pairwise (fun q p=>p<q→i p q=false)→
  Z5 P ops W3 (os.take n) l w→Z5 P ops W3 (L.filterMap (os[·]?)) l w
 | 0,W3,L,l,w,v,y,g,C,z,h=>by
  have:L=[]:=List.eq_nil_of_length_eq_zero y
  subst this;exact h
 | n+1,W3,L,l,w,v,y,g,C,z,h=>by
  have V:n∈L:=Classical.byContradiction fun s=>by
   have U:=G5 n L v fun k N=>by
    have r:=g k N
    have J:k≠n:=fun e=>s (e▸N)
    omega
   omega
  obtain ⟨A,B,rfl⟩:=List.append_of_mem V
  have f:n<os.length:=by omega
  have d:os[n]? =some os[n]:=List.getElem?_eq_getElem f
  have m:=List.nodup_append.1 v
  have E:n∉B:=(List.nodup_cons.1 m.2.1).1
  have H:n∉A:=fun e=>m.2.2 n e n (by simp) rfl
  have W:os.take (n+1)=os.take n++[os[n]]:=(List.take_append_getElem f).symm
  rw[W,Nl] at h
  have t: ∀q∈A++B,q<n:=fun q M=>by
   have U:q<n+1:=g q (by rcases List.mem_append.1 M with h | h<;>simp[h])
   have r:q≠n:=fun e=>by
    subst e
    rcases List.mem_append.1 M with h | h
    ·exact H h
    ·exact E h
   omega
  have c:(A++B).Sublist (A++n::B):=List.Sublist.append (List.Sublist.refl A) (List.sublist_cons_self n B)
  have r:=Q7z os i j n _ (A++B) l w (v.sublist c) (by simp at y⊢;omega) t (by omega) (z.sublist c) h
  rw[←Nl] at r
  rw[List.filterMap_append,List.append_assoc] at r
  rw[List.filterMap_append,List.filterMap_cons,d]
  refine Q8g (l:=l) (w:=w) (fun l w J=>?_) r
  have:=Q0u (R:=[]) (B.filterMap (os[·]?)) (fun a Q=>?_) J
  ·rwa [List.append_nil] at this
  ·obtain ⟨p,u,D⟩:=List.mem_filterMap.1 Q
   have o:=t p (List.mem_append_right _ u)
   refine j p n a _ o D d ?_
   have O:=(List.pairwise_append.1 z).2.1
   exact (List.pairwise_cons.1 O).1 p u o
end
def X1j (ops:List Oper) (a b:Oper):Bool:=
 (match a.guard with | none=>true | some _=>false)&&(match b.guard with | none=>true | some (j,_)=>match (ops[j]?).bind (·.dst) with | some _=>true | none=>false)&&
  ((Q3U a&&Q3U b&&(match b.guard with | none=>true | some _=>false))||Q7O a)
def X49 (o:Oper):Bool:=match o.op with | .call c=>(match c.callee with | .value (.func _)=>true | _=>false) | _=>false
def Q7L (ops:List Oper) (a:List Nat):Bool:=
 ops.any Q7Q&&ops.any X49&&(List.range ops.length).all fun q=>(List.range q).all fun p=>Qp ops a p q||X1j ops (ops.getD (a.getD p 0) default) (ops.getD (a.getD q 0) default)
theorem Fo {α:Type} {R:α→α→Prop}: ∀(a b:List α) {L:List α},L=b++a→(∀b q a,L=b++q::a→ ∀p∈a,R q p)→a.Pairwise R
 | [],_,_,_,_=>List.Pairwise.nil
 | q::a,b,L,c,h=>List.pairwise_cons.2 ⟨h b q a c,Fo a (b++[q]) (by rw[c];simp) h⟩
theorem X37 (P:Program) (ops:Array Oper) (W3:List Value→World→Prop) (R:List Value) (A:So ops.toList R.length=true) (N:Q7L ops.toList (K2 ops.toList)=true)
 (b:Bool) (t:Nat) (w:World) (h:Z5 P ops.toList W3 (U9 ops.toList (K2 ops.toList)) R w):Z5 P ops.toList W3 ((Region.schedule b ops t).filterMap (ops[·]?)) R w:=by
 obtain ⟨L,W,m,ag⟩:=Q44 A b t
 simp only[So,Bool.and_eq_true] at A
 obtain ⟨⟨⟨⟨⟨he,hc⟩,hn⟩,V⟩,⟨ap,aw⟩,al⟩,af⟩:=A
 generalize K2 ops.toList=f at*
 rw[W]
 refine Q7z (U9 ops.toList f) (Qp ops.toList f) (fun p q a k B u n C=>?_) _ W3 L R w m.hn rfl (fun q hq=>by rw[m.hLl];exact m.hlt q hq) (by rw[m.hLl];exact Nat.le_refl _) ?_ (by rw[m.hLl,List.take_length];exact h)
 ·have Y:q<ops.toList.length:=by have:=(List.getElem?_eq_some_iff.1 n).1;omega
  have an:p<ops.toList.length:=by omega
  have v: ∀i o,(U9 ops.toList f)[i]? =some o→ops.toList.getD (f.getD i 0) default=o:=by
   intro i o D
   unfold U9 at D
   rw[List.getElem?_map] at D
   cases ho:f[i]? with
   | none=>rw[ho] at D;cases D
   | some x=>
    rw[ho] at D
    simp only[Option.map_some,Option.some.injEq] at D
    rw[List.getD_eq_getElem?_getD (l:=f),ho];exact D
  have E:(Qs a k||Qs k a)=false:=by
   cases y:Qs a k||Qs k a with
   | false=>rfl
   | true=>rw[m.hclash p q a k B u n y] at C;cases C
  rw[Bool.or_eq_false_iff] at E
  simp only[Q7L,Bool.and_eq_true] at N
  have hs:=List.all_eq_true.1 (List.all_eq_true.1 N.2 q (by simpa using Y)) p (by simpa using B)
  rw[C,Bool.false_or,v p a u,v q k n] at hs
  simp only[X1j,Bool.and_eq_true,Bool.or_eq_true] at hs
  obtain ⟨⟨g1,U⟩,g3⟩:=hs
  have Q:a.guard=none:=by
   cases y:a.guard with
   | none=>rfl
   | some _=>rw[y] at g1;cases g1
  have c1: ∀d,a.dst=some d→d∉B4 k∧k.dst≠some d:=fun d V=>by
   have:=E.1
   unfold Qs at this
   rw[V] at this
   simp only[Bool.or_eq_false_iff] at this
   exact ⟨fun e=>by simp[e] at this,fun e=>by simp[e] at this⟩
  have c2: ∀d,k.dst=some d→d∉B4 a:=fun d V=>by
   have:=E.2
   unfold Qs at this
   rw[V] at this
   simp only[Bool.or_eq_false_iff] at this
   exact fun e=>by simp[e] at this
  refine ⟨m.hpl a (List.mem_of_getElem? u),m.hpl k (List.mem_of_getElem? n),Q,fun d g=>?_,fun d g=>?_,fun d g=>(c1 d g).2,fun j c r=>?_,?_⟩
  ·rw[List.mem_append,not_or]
   refine ⟨fun e=>?_,(c1 d g).1⟩
   unfold R0 at e
   cases r:k.guard with
   | none=>rw[r] at e;simp at e
   | some q0=>
    obtain ⟨j,c⟩:=q0
    obtain ⟨p',am,J,H⟩:=m.hg q k j c n r
    rw[r] at e
    simp only at e
    cases s:ops.toList[j]?.map (·.dst) with
    | none=>
     cases M:ops.toList[j]? with
     | none=>rw[M] at e;simp at e
     | some oj=>rw[M] at s;cases s
    | some dj=>
     cases M:ops.toList[j]? with
     | none=>rw[M] at s;cases s
     | some oj=>
      rw[M] at e J
      simp only[Option.bind_some] at e
      cases z:oj.dst with
      | none=>rw[z] at e;simp at e
      | some d2=>
       rw[z] at e
       simp only[List.mem_singleton] at e
       subst e
       have:=Yt (U9 ops.toList f) hn p' p oj a d J u z g
       subst this
       rw[H] at C;cases C
  ·rw[List.mem_append,not_or]
   exact ⟨fun e=>by simp[R0,Q] at e,c2 d g⟩
  ·rw[r] at U
   simp only at U
   cases y:(ops.toList[j]?).bind (·.dst) with
   | none=>rw[y] at U;cases U
   | some _=>rfl
  ·rcases g3 with ⟨⟨g3,g4⟩,g5⟩ | g3
   ·refine .inl ⟨g3,g4,?_⟩
    cases y:k.guard with
    | none=>rfl
    | some _=>rw[y] at g5;cases g5
   ·exact .inr g3
 ·refine Fo L [] (L:=L) rfl fun Z q O X p hp B=>?_
  cases C:Qp ops.toList f p q with
  | false=>rfl
  | true=>
   have h1:=m.hC Z q O X p C (m.hlt p (by rw[X];simp[hp]))
   have h2:=m.hn
   rw[X] at h2
   exact absurd rfl ((List.nodup_append.1 h2).2.2 p h1 p (by simp[hp]))
theorem X13: ∃f:World→(World→Prop)→Prop,f=fun w A=>A w.drew:=⟨_,rfl⟩
noncomputable def sq:World→(World→Prop)→Prop:=Classical.choose X13
theorem X1i:sq=fun w A=>A w.drew:=Classical.choose_spec X13
def Q50:List Ent→Nat→Ent→(List Ent→Prop)→Prop
 | [],_,_,k=>k []
 | _::l,0,e,k=>k (e::l)
 | x::l,n+1,e,k=>Q50 l n e (fun l'=>k (x::l'))
def Q4V (S:List Ent) (d:Option Nat) (e:Ent) (k:List Ent→Prop):Prop:=
 match d with
 | some d=>Q50 S d e k
 | none=>k S
def Q80:List Ent→Nat→(Ent→Prop)→Prop
 | [],_,k=>k (.val undef)
 | x::_,0,k=>k x
 | _::l,n+1,k=>Q80 l n k
def Q9t (S:List Ent) (x:Operand) (k:Ent→Prop):Prop:=
 match x with
 | .tmp t=>Q80 S t k
 | .const v=>k (.val v)
 | .global g=>k (.val (.pointer (some ⟨g,0,none⟩)))
 | .func f=>k (.val (.func (.func f) #[] #[]))
def Q1A (u:Nat→Value):List Ent→(List Value→Prop)→Prop
 | [],k=>k []
 | .val v::S,k=>Q1A u S (fun l=>k (v::l))
 | .ref j::S,k=>Q1A u S (fun l=>k (u j::l))
def Q8u:List Value→(List Ent→Prop)→Prop
 | [],k=>k []
 | v::l,k=>Q8u l (fun S=>k (.val v::S))
theorem Q5z: ∀(S:List Ent) (n:Nat) (e:Ent) (k:List Ent→Prop),Q50 S n e k=k (Q2s S n e)
 | [],_,_,_=>rfl
 | _::_,0,_,_=>rfl
 | _::l,n+1,e,k=>by simp only[Q50,Q2s,Q5z l n e]
theorem Q2z (S:List Ent) (d:Option Nat) (e:Ent) (k:List Ent→Prop):Q4V S d e k=k (putE S d e):=by
 cases d with
 | none=>rfl
 | some d=>exact Q5z S d e k
theorem Q5k: ∀(S:List Ent) (n:Nat) (k:Ent→Prop),Q80 S n k=k (getE S n)
 | [],_,_=>rfl
 | _::_,0,_=>rfl
 | _::l,n+1,k=>Q5k l n k
theorem Q9y (S:List Ent) (x:Operand) (k:Ent→Prop):Q9t S x k=k (entOf S x):=by
 cases x with
 | tmp t=>exact Q5k S t k
 | _=>rfl
theorem Q2o (u:Nat→Value): ∀(S:List Ent) (k:List Value→Prop),Q1A u S k=k (Qc u S)
 | [],_=>rfl
 | .val v::S,k=>by simp only[Q1A,Q2o u S];rfl
 | .ref j::S,k=>by simp only[Q1A,Q2o u S];rfl
theorem Q76: ∀(l:List Value) (k:List Ent→Prop),Q8u l k=k (l.map .val)
 | [],_=>rfl
 | v::l,k=>by simp only[Q8u,Q76 l];rfl
noncomputable def Cb (P:Program) (ops:List Oper) (T:World→World→Prop) (B:World→Prop) (W3:List Value→World→Prop) (tail:List Oper):Nat→List Oper→List Ent→Si→List Nat→Prop
 | _,[],S,b,done=>Pu done (fun _=>undef) fun u=> ∀w,B w→Q1k b u w (Q1A u S fun l=>Qd P ops W3 tail l w) done
 | i,o::a,S,b,done=>
  match mv o with
  | some x=>Q9t S x fun e=>Q4V S o.dst e fun S=>Cb P ops T B W3 tail (i+1) a S b done
  | none=>match Q7Q o with
   | true=>Sr T (fun φ=>Pu (refs ops S o) (fun _=>undef) fun u=> ∀w,B w→Ka b u w (runOp P ops (Qc u S) o w (dk T (φ ((refs ops S o).map u)) w)) (refs ops S o))
    (fun φ=>Q4V S o.dst (.ref i) fun c=>Cb P ops T B W3 tail (i+1) a c (b++[(i,refs ops S o,φ)]) (done++[i]))
   | false=>Q5 T (fun φ=>Pu (refs ops S o) (fun _=>undef) fun u=> ∀w,B w→Ka b u w (runOp P ops (Qc u S) o w (dk T φ w)) (refs ops S o))
    (fun φ=>Q4V S o.dst (.ref i) fun c=>Cb P ops T B W3 tail (i+1) a c (b++[(i,[],fun _=>φ)]) (done++[i]))
theorem Cw (P:Program) (ops:List Oper) (T:World→World→Prop) (B:World→Prop) (W3:List Value→World→Prop) (tail:List Oper): ∀(a:List Oper) (i:Nat) (S:List Ent) (b:Si) (done:List Nat),
 Cb P ops T B W3 tail i a S b done=chain P ops T B W3 tail i a S b done
 | [],i,S,b,done=>by simp only[Cb,chain,Q2o]
 | o::a,i,S,b,done=>by
  simp only[Cb,chain]
  split
  ·rw[Q9y,Q2z,Cw]
  ·split
   ·congr 1
    funext φ
    rw[Q2z,Cw]
   ·congr 1
    funext φ
    rw[Q2z,Cw]
noncomputable def X18 (P:Program) (ops:List Oper) (W3:List Value→World→Prop) (l:List Value) (w:World):Prop:=
 dr w fun T B=>Q8u l fun S=>Cb P ops T B W3 ((U9 ops (K2 ops)).drop (Hx ops (K2 ops) ops.length)) 0 ((U9 ops (K2 ops)).take (Hx ops (K2 ops) ops.length)) S [] []
def Q1C (a b:List Nat):Bool:=a.all (b.contains ·)&&b.all (a.contains ·)
theorem Se {a b:List Nat} (h:Q1C a b=true) (i:Nat):a.contains i=b.contains i:=by
 simp only[Q1C,Bool.and_eq_true,List.all_eq_true] at h
 rw[Bool.eq_iff_iff]
 constructor
 ·intro c;exact h.1 i (by simpa using c)
 ·intro c;exact h.2 i (by simpa using c)
abbrev V7:=List (Option (List Nat×List Nat))
def V7.slots (a:V7):List (Option (List Nat)):=a.map (·.map (·.1))
theorem V7.slots_get (a:V7) (k:Nat):a.slots.getD k none=(a.getD k none).map (·.1):=by
 simp only[V7.slots,List.getD_eq_getElem?_getD,List.getElem?_map]
 cases a[k]? <;>rfl
noncomputable def Ws (P:Program) (a:V7) (b:List (Option (List Nat))):Nat→Code→He→List Value→World→Prop
 | _, .skip,Q,l,w=>Q .normal l w
 | _, .label _,Q,l,w=>Q .normal l w
 | _, .exit id,Q,l,w=>Q (.exit id) l w
 | _, .ret,Q,l,w=>Q .ret l w
 | _, .region _ ops false,Q,l,w=>Qd P ops.toList (fun l w=>Q .normal l w) ops.toList l w
 | _, .region _ ops true,Q,l,w=>match So ops.toList l.length with
  | true=>match Q7L ops.toList (K2 ops.toList) with
   | true=>sq w fun w=>Qd P ops.toList (fun l w=>Q .normal l w) (U9 ops.toList (K2 ops.toList)) l w
   | false=>X18 P ops.toList (fun l w=>Q .normal l w) l w
  | false=>False
 | k, .seq x y,Q,l,w=>match a.getD k none with
  | none=>Ws P a b (k+1) x (thn (fun l w=>Ws P a b (k+1+Qk x) y Q l w) Q) l w
  | some (f,g)=>match Q1C g (O4 b (k+1) x) with
   | true=>jn w (fun J w=>Ws P a b (k+1) x (thn (fun l' w'=>J (Ov l' f) w') Q) l w)
    (fun z d w=>Gm f g z d 0 l fun l=>Ws P a b (k+1+Qk x) y Q l w)
   | false=>False
 | k, .cond c x y,Q,l,w=>X1 (ev l c) (Ws P a b k x Q l w) (Ws P a b (k+Qk x) y Q l w)
 | k, .block id c,Q,l,w=>Ws P a b k c (Q3c id Q) l w
 | k, .loop c,Q,l,w=>match a.getD k none with
  | none=>False
  | some (f,g)=>match Q1C g (O4 b (k+1) c) with
   | true=>lp (Ov l f) w (fun e x d w=>Gm f g x d 0 l fun l=>Ws P a b (k+1) c (thn (fun l' w'=>e (Ov l' f) w') Q) l w)
   | false=>False
 | _,_,_,_,_=>False
theorem Q0q {next a:List Value→World→Prop} {Q b:He} (c: ∀l w,next l w→a l w) (d: ∀e l w,Q e l w→b e l w): ∀e l w,thn next Q e l w→thn a b e l w:=by
 intro e l w h;cases e<;>first | exact c _ _ h | exact d _ _ _ h
theorem X0S (P:Program) (q:V7) (c:Code): ∀(k:Nat) (Q j:He) (l:List Value) (w:World),(∀e l w,Q e l w→j e l w)→
 Ws P q q.slots k c Q l w→Df P q.slots k c j l w:=by
 induction c with
 | skip=>intro k Q j l w g h;exact g _ _ _ h
 | label n=>intro k Q j l w g h;exact g _ _ _ h
 | exit id=>intro k Q j l w g h;exact g _ _ _ h
 | ret=>intro k Q j l w g h;exact g _ _ _ h
 | goto n=>intro k Q j l w g h;exact h.elim
 | refuse s=>intro k Q j l w g h;exact h.elim
 | scope c=>intro k Q j l w g h;exact h.elim
 | rangeFunc f p a b=>intro k Q j l w g h;exact h.elim
 | region id ops A=>
  intro k Q j l w g h
  cases A with
  | true=>
   simp only[Ws] at h
   split at h
   ·rename_i v
    intro t
    have u:Z5 P ops.toList (fun l w=>Q .normal l w) ((Region.schedule (P.follows .mixedOrders) ops t).filterMap (ops[·]?)) l w.drew:=by
     split at h
     ·rename_i U
      simp only[X1i,Kg] at h
      exact X37 P ops _ l v U _ t _ h
     ·simp only[X18,X1f,Q8I,Q76,Cw] at h
      obtain ⟨T,B,h0,hT,h⟩:=h
      exact X2h P ops T B _ l v hT h (P.follows .mixedOrders) t w.drew h0
    refine Uc P _ _ _ (S1 ops.toList) l _ _ _ ?_ (Qj.refl _ _) (fun l w H _=>g _ _ _ H) u
    intro o E d u
    simp only[List.mem_filterMap] at E
    obtain ⟨i,_,hi⟩:=E
    simp only[S1,List.contains_eq_mem,List.mem_filterMap,decide_eq_true_eq]
    exact ⟨o,by simpa using Array.mem_of_getElem? hi,u⟩
   ·exact h.elim
  | false=>
   simp only[Ws] at h
   rw[Kg] at h
   refine Uc P _ _ _ (S1 ops.toList) l _ _ _ ?_ (Qj.refl _ _) (fun l w H _=>g _ _ _ H) h
   intro o E d u
   simp only[S1,List.contains_eq_mem,List.mem_filterMap,decide_eq_true_eq]
   exact ⟨o,E,u⟩
 | seq x y m r=>
  intro k Q j l w g h
  simp only[Ws,Df] at h⊢
  rw[V7.slots_get]
  split at h
  ·rename_i C
   simp only[C,Option.map_none]
   exact m _ _ _ _ _ (Q0q (fun l w h=>r _ _ _ _ _ g h) g) h
  ·rename_i X Y C
   simp only[C,Option.map_some]
   split at h
   ·rename_i M
    obtain ⟨J,h1,Z⟩:=Q5O h
    refine Ur J (m _ _ _ _ _ (Q0q (fun l w h=>h) g) h1) fun z d w hz=>?_
    have V:=Z z d w hz
    rw[Q4d,Ba _ _ _ (Se M)] at V
    exact r _ _ _ _ _ g V
   ·exact h.elim
 | cond c x y m r=>
  intro k Q j l w g h
  exact Q4B (m k _ _ _ _ g) (r _ _ _ _ _ g) h
 | block id c N=>
  intro k Q j l w g h
  refine N k _ _ _ _ ?_ h
  intro e l' w' D
  cases e with
  | exit ab=>simp only[Q3c] at D⊢;split<;>rename_i O<;>simp only[O,if_true,if_false] at D<;>exact g _ _ _ D
  | _=>exact g _ _ _ D
 | loop c N=>
  intro k Q j l w g h
  simp only[Ws,Df] at h⊢
  split at h
  ·exact h.elim
  ·rename_i X Y C
   have R:(q.slots.getD k none).getD []=X:=by rw[V7.slots_get,C];rfl
   split at h
   ·rename_i M
    subst R
    refine Q4h (fun L x d w W=>?_) h
    rw[Q4d,Ba _ _ _ (Se M)] at W
    exact N _ _ _ _ _ (Q0q (fun l w h=>h) g) W
   ·exact h.elim
def Q2R (P:Program) (t:TypeId) (a:Value) (w:World) (K:Value→Prop):Prop:= ∃v,(do loadVar t (←asAddr a):Sem Value).run P w= .ok v w∧K v
theorem Q3m: ∃f:Program→TypeId→Value→World→(Value→Prop)→Prop,f=Q2R:=⟨_,rfl⟩
noncomputable def Y7:Program→TypeId→Value→World→(Value→Prop)→Prop:=Classical.choose Q3m
theorem Q2Z:Y7=Q2R:=Classical.choose_spec Q3m
noncomputable def Q58 (P:Program) (l:List Value) (K:List Value→World→Prop):List ResultVar→List Value→World→Prop
 | [],b,w=>K b.reverse w
 | .tmp t::c,b,w=>Q58 P l K c (get l t::b) w
 | .cell a t::c,b,w=>Y7 P t (get l a) w fun v=>Q58 P l K c (v::b) w
def Q35:List Value→Value
 | [v]=>v
 | vs=> .tuple vs.toArray
noncomputable def results (P:Program) (a:List ResultVar) (K:Value→World→Prop) (l:List Value) (w:World):Prop:=
 Q58 P l (fun vs w=>K (Q35 vs) w) a [] w
noncomputable def Q7Y (P:Program) (fn:Func) (K:Value→World→Prop):He
 | .normal,l,w | .ret,l,w=>results P fn.results.toList K l w
 | _,_,_=>False
def X0a (K:Value→World→Prop) (e:Ending) (w:World):Prop:=match e with | .returned v=>K v w | _=>False
theorem Q67 (a:Array Value) (t:Nat):a.getD t undef=get a.toList t:=by
 simp[get,List.getD_eq_getElem?_getD]
theorem Q9d (vs:List Value):(if h:vs.toArray.size=1 then vs.toArray[0] else Value.tuple vs.toArray)=Q35 vs:=by
 match vs with
 | []=>rfl
 | [v]=>rfl
 | _::_::_=>rfl
theorem Q2H (P:Program) (l:List Value) (K:List Value→World→Prop) (f:ResultVar→Sem Value)
 (c: ∀t,f (.tmp t)=Pure.pure (get l t)) (d: ∀a t,f (.cell a t)=(do loadVar t (←asAddr (get l a)))): ∀(e:List ResultVar) (b:List Value) (w:World),Q58 P l K e b w→
 ∃vs,(e.mapM f).run P w= .ok vs w∧K (b.reverse++vs) w
 | [],b,w,h=>⟨[],by simp,by rw[List.append_nil];exact h⟩
 | .tmp t::e,b,w,h=>by
  obtain ⟨vs,g,i⟩:=Q2H P l K f c d e _ w h
  refine ⟨get l t::vs,?_,by simpa using i⟩
  rw[List.mapM_cons,c]
  simp[g]
 | .cell a t::e,b,w,h=>by
  simp only[Q58,Q2Z] at h
  obtain ⟨v,j,h⟩:=h
  obtain ⟨vs,g,i⟩:=Q2H P l K f c d e _ w h
  refine ⟨v::vs,?_,by simpa using i⟩
  rw[List.mapM_cons,d,Sem.run_bind,j]
  simp[g]
def X2w (a:Array Value):ResultVar→Sem Value
 | .tmp t=>Pure.pure (a.getD t undef)
 | .cell b t=>do loadVar t (←asAddr (a.getD b undef))
theorem Q6b (fn:Func) (a:Array Value):Go.results fn a=(do
 let vs←fn.results.mapM (X2w a)
 Pure.pure (if h:vs.size=1 then vs[0] else .tuple vs)):=by
 unfold Go.results
 congr 1
theorem Q2h (P:Program) (fn:Func) (K:Value→World→Prop) (a:Array Value) (w:World) (h:results P fn.results.toList K a.toList w):
 ∃v,(Go.results fn a).run P w= .ok v w∧K v w:=by
 rw[Q6b,Array.mapM_eq_mapM_toList]
 obtain ⟨vs,b,c⟩:=Q2H P a.toList (fun vs w=>K (Q35 vs) w) (X2w a) (fun t=>by rw[←Q67];rfl) (fun d t=>by rw[←Q67];rfl) fn.results.toList [] w h
 refine ⟨Q35 vs,?_,by simpa using c⟩
 rw[Sem.run_bind,Sem.run_map,b]
 simp only[Result.andThen_ok,Sem.run_pure,Q9d]
def Q14 (fn:Func) (a:List Value):List Value:=a++List.replicate (fn.ntmps-a.length) undef
theorem Q5y {P:Program} {f:FuncId} {fn:Func} {c:Code} {b:List Value} {w:World} {K:Value→World→Prop} (d:List (Option (List Nat)))
 (k:P.funcs[f]? =some fn) (j:fn.body=some c) (h:Df P d 0 c (Q7Y P fn K) (Q14 fn b) w):Calls P f b.toArray w (X0a K):=by
 refine calls_of_wp k j (wp_mono (Q9m P d c 0 (Q7Y P fn K) _ w rfl ?_) ?_)
 ·have:(b.toArray++Array.replicate (fn.ntmps-b.toArray.size) undef).toList=Q14 fn b:=by simp[Q14]
  simp only[this];exact h
 ·intro e a w ⟨i,g⟩
  cases e with
  | normal=>exact ⟨i,Q2h P fn K _ _ g⟩
  | ret=>exact ⟨i,Q2h P fn K _ _ g⟩
  | _=>exact g.elim
theorem Wq {P:Program} {f:FuncId} {fn:Func} {a:List Value} {w:World} {K:Value→World→Prop}
 (g:P.funcs[f]? =some fn) (d:fn.body.isSome=true) (i:(fn.name== "runtime.NumGoroutine")=false) (h:Calls P f a.toArray w (X0a K)):Q1 P f a w K:=by
 have j:(callFunc f a.toArray).run P w= .ok (.enter f a.toArray) w:=by
  unfold callFunc
  simp only[Sem.run_bind,run_program,Result.andThen_ok,g,i,Bool.false_eq_true,if_false]
  cases b:fn.body with
  | none=>rw[b] at d;cases d
  | some c=>simp
 unfold Q1
 rw[T4]
 unfold P2
 rw[j]
 refine h.mono fun e w' k=>?_
 cases e<;>exact k
theorem Q3S {P:Program} {f:FuncId} {fn:Func} {a:List Value} {w:World} {K:Value→World→Prop}
 (g:P.funcs[f]? =some fn) (d:fn.body.isSome=true) (i:(fn.name== "runtime.NumGoroutine")=false) (h:Q1 P f a w K):Calls P f a.toArray w (X0a K):=by
 have j:(callFunc f a.toArray).run P w= .ok (.enter f a.toArray) w:=by
  unfold callFunc
  simp only[Sem.run_bind,run_program,Result.andThen_ok,g,i,Bool.false_eq_true,if_false]
  cases b:fn.body with
  | none=>rw[b] at d;cases d
  | some c=>simp
 unfold Q1 at h
 rw[T4] at h
 unfold P2 at h
 rw[j] at h
 refine Calls.mono h fun e w' k=>?_
 cases e<;>exact k
theorem X1A {P:Program} {f:FuncId} {fn:Func} {b:List Value} {w:World} {K:Value→World→Prop} (a:V7)
 (e:P.funcs[f]? =some fn) (d:fn.body.isSome=true) (i:(fn.name== "runtime.NumGoroutine")=false)
 (h:Ws P a a.slots 0 (fn.body.getD .skip) (Q7Y P fn K) (Q14 fn b) w):Q1 P f b w K:=by
 refine Wq e d i ?_
 obtain ⟨c,g⟩:=Option.isSome_iff_exists.1 d
 rw[g] at h
 exact Q5y a.slots e g (X0S P a c 0 _ _ _ _ (fun _ _ _ h=>h) h)
theorem Q9 {P:Program} {f:FuncId} {fn:Func} {a:List Value} {w:World} {K:Value→World→Prop} {g:Prop} (b:V7)
 (e:P.funcs[f]? =some fn) (c:fn.body.isSome=true) (d:(fn.name== "runtime.NumGoroutine")=false)
 (i:g=Ws P b b.slots 0 (fn.body.getD .skip) (Q7Y P fn K) (Q14 fn a) w) (h:g):Q1 P f a w K:=
 X1A b e c d (i▸h)
theorem Z6 {P:Program} {f:FuncId} {first caps:List Value} {a:List Value} {w:World} {K:Value→World→Prop} (h:Q1 P f (first++a++caps) w K):Z3 P (.func (.func f) first.toArray caps.toArray) a w K:=by
 simpa [Z3,Q1,Deferred.ofValue,invoke,pure_bind,List.append_toArray] using h
end Go.Emb

namespace Go.Proofs.YtjdiakhipmggjaaGreatDoor
noncomputable abbrev P : Program := Tryz.prog
namespace F
abbrev c7 : Nat := 10
abbrev cN : Nat := 12
abbrev ay : Nat := 13
abbrev aH : Nat := 14
abbrev cO : Nat := 15
abbrev c1 : Nat := 16
abbrev c2 : Nat := 17
abbrev af : Nat := 18
abbrev ab : Nat := 19
abbrev az : Nat := 20
abbrev bM : Nat := 21
abbrev b3 : Nat := 22
abbrev bx : Nat := 23
abbrev ah : Nat := 24
abbrev aA : Nat := 25
abbrev ai : Nat := 26
abbrev aB : Nat := 27
abbrev bz : Nat := 28
abbrev cv : Nat := 29
abbrev aO : Nat := 30
abbrev ce : Nat := 31
abbrev c3 : Nat := 32
abbrev aI : Nat := 33
abbrev aP : Nat := 34
abbrev bA : Nat := 35
abbrev a2 : Nat := 36
abbrev aQ : Nat := 37
abbrev bB : Nat := 38
abbrev c4 : Nat := 40
abbrev cF : Nat := 41
abbrev cy : Nat := 42
abbrev cz : Nat := 43
abbrev j : Nat := 44
abbrev ba : Nat := 45
abbrev o : Nat := 46
abbrev bi : Nat := 47
abbrev bj : Nat := 48
abbrev b4 : Nat := 49
abbrev aR : Nat := 50
abbrev aF : Nat := 51
abbrev aC : Nat := 52
abbrev n : Nat := 53
abbrev cs : Nat := 54
abbrev bC : Nat := 55
abbrev bN : Nat := 56
abbrev bb : Nat := 57
abbrev bk : Nat := 58
abbrev bO : Nat := 59
abbrev bP : Nat := 60
abbrev bQ : Nat := 61
abbrev bR : Nat := 62
abbrev bS : Nat := 63
abbrev aZ : Nat := 64
abbrev aJ : Nat := 65
abbrev aD : Nat := 66
abbrev b5 : Nat := 67
abbrev cS : Nat := 68
abbrev s : Nat := 69
abbrev aS : Nat := 70
abbrev bD : Nat := 71
abbrev b6 : Nat := 72
abbrev p : Nat := 73
abbrev bE : Nat := 74
abbrev k : Nat := 75
abbrev bF : Nat := 76
abbrev cG : Nat := 77
abbrev cA : Nat := 78
abbrev a7 : Nat := 79
abbrev ac : Nat := 80
abbrev c8 : Nat := 81
abbrev h : Nat := 82
abbrev b7 : Nat := 83
abbrev w : Nat := 84
abbrev c9 : Nat := 85
abbrev c : Nat := 86
abbrev y : Nat := 87
abbrev aG : Nat := 88
abbrev bl : Nat := 89
abbrev al : Nat := 90
abbrev am : Nat := 91
abbrev aY : Nat := 92
abbrev a : Nat := 93
abbrev aK : Nat := 94
abbrev cg : Nat := 95
abbrev bc : Nat := 96
abbrev c5 : Nat := 97
abbrev a8 : Nat := 98
abbrev bm : Nat := 99
abbrev bn : Nat := 100
abbrev b : Nat := 101
abbrev bd : Nat := 102
abbrev aj : Nat := 103
abbrev b0 : Nat := 104
abbrev b8 : Nat := 105
abbrev a0 : Nat := 106
abbrev a1 : Nat := 107
abbrev aL : Nat := 108
abbrev aN : Nat := 109
abbrev bo : Nat := 110
abbrev x : Nat := 111
abbrev bG : Nat := 113
abbrev z : Nat := 114
abbrev cw : Nat := 115
abbrev bH : Nat := 116
abbrev q : Nat := 117
abbrev e : Nat := 118
abbrev a3 : Nat := 119
abbrev ag : Nat := 120
abbrev cn : Nat := 121
abbrev co : Nat := 122
abbrev a9 : Nat := 123
abbrev ak : Nat := 124
abbrev aT : Nat := 125
abbrev cp : Nat := 126
abbrev aE : Nat := 127
abbrev cq : Nat := 128
abbrev ap : Nat := 129
abbrev cr : Nat := 130
abbrev aq : Nat := 131
abbrev bw : Nat := 132
abbrev bT : Nat := 133
abbrev an : Nat := 134
abbrev b9 : Nat := 135
abbrev ad : Nat := 136
abbrev ae : Nat := 137
abbrev v : Nat := 138
abbrev ca : Nat := 139
abbrev i : Nat := 140
abbrev ch : Nat := 141
abbrev g : Nat := 142
abbrev cP : Nat := 143
abbrev cC : Nat := 144
abbrev aU : Nat := 145
abbrev bI : Nat := 146
abbrev bJ : Nat := 147
abbrev bp : Nat := 148
abbrev bq : Nat := 149
abbrev br : Nat := 150
abbrev aV : Nat := 151
abbrev be : Nat := 152
abbrev aW : Nat := 153
abbrev r : Nat := 154
abbrev cx : Nat := 155
abbrev cT : Nat := 156
abbrev ci : Nat := 157
abbrev ao : Nat := 158
abbrev cQ : Nat := 159
abbrev d : Nat := 160
abbrev ar : Nat := 161
abbrev cj : Nat := 162
abbrev c6 : Nat := 163
abbrev ck : Nat := 164
abbrev ct : Nat := 165
abbrev f : Nat := 166
abbrev cb : Nat := 167
abbrev bW : Nat := 168
abbrev bX : Nat := 169
abbrev bU : Nat := 170
abbrev bg : Nat := 171
abbrev au : Nat := 172
abbrev bh : Nat := 173
abbrev cH : Nat := 174
abbrev av : Nat := 175
abbrev cU : Nat := 179
abbrev cf : Nat := 180
abbrev u : Nat := 181
abbrev a4 : Nat := 182
abbrev b1 : Nat := 183
abbrev aM : Nat := 184
abbrev bK : Nat := 185
abbrev bs : Nat := 186
abbrev ax : Nat := 187
abbrev aX : Nat := 190
abbrev cD : Nat := 191
abbrev cc : Nat := 192
abbrev cl : Nat := 193
abbrev l : Nat := 194
abbrev bY : Nat := 195
abbrev cm : Nat := 196
abbrev cL : Nat := 197
abbrev m : Nat := 198
abbrev bZ : Nat := 199
abbrev aa : Nat := 202
abbrev b2 : Nat := 203
abbrev cd : Nat := 204
abbrev a5 : Nat := 208
abbrev cM : Nat := 209
abbrev cE : Nat := 210
abbrev cI : Nat := 211
abbrev a6 : Nat := 212
abbrev bt : Nat := 215
abbrev cV : Nat := 219
abbrev cu : Nat := 220
abbrev t : Nat := 221
abbrev cR : Nat := 222
abbrev cB : Nat := 224
abbrev bu : Nat := 225
abbrev bv : Nat := 226
abbrev aw : Nat := 227
abbrev bL : Nat := 228
abbrev cJ : Nat := 229
abbrev bf : Nat := 230
abbrev c0 : Nat := 231
abbrev cK : Nat := 232
abbrev bV : Nat := 233
end F
namespace T
abbrev x : Nat := 0
abbrev a1 : Nat := 2
abbrev e : Nat := 3
abbrev u : Nat := 4
abbrev a3 : Nat := 5
abbrev c : Nat := 9
abbrev av : Nat := 12
abbrev an : Nat := 21
abbrev r : Nat := 22
abbrev y : Nat := 23
abbrev i : Nat := 26
abbrev a5 : Nat := 29
abbrev g : Nat := 33
abbrev f : Nat := 37
abbrev aq : Nat := 43
abbrev z : Nat := 44
abbrev a : Nat := 46
abbrev n : Nat := 51
abbrev h : Nat := 54
abbrev k : Nat := 65
abbrev o : Nat := 69
abbrev ak : Nat := 74
abbrev l : Nat := 76
abbrev m : Nat := 78
abbrev a2 : Nat := 80
abbrev a0 : Nat := 82
abbrev j : Nat := 83
abbrev b : Nat := 85
abbrev a4 : Nat := 88
abbrev a7 : Nat := 91
abbrev v : Nat := 94
abbrev q : Nat := 95
abbrev s : Nat := 96
abbrev d : Nat := 98
abbrev p : Nat := 100
abbrev ac : Nat := 120
abbrev ao : Nat := 126
abbrev w : Nat := 136
abbrev a9 : Nat := 139
abbrev ae : Nat := 140
abbrev a8 : Nat := 146
abbrev a6 : Nat := 148
abbrev au : Nat := 154
abbrev aj : Nat := 156
abbrev al : Nat := 157
abbrev aa : Nat := 165
abbrev ag : Nat := 168
abbrev t : Nat := 172
abbrev ax : Nat := 184
abbrev ab : Nat := 190
abbrev ah : Nat := 197
abbrev ai : Nat := 200
abbrev ar : Nat := 203
abbrev am : Nat := 205
abbrev aw : Nat := 220
abbrev ad : Nat := 225
abbrev af : Nat := 226
abbrev ap : Nat := 235
abbrev ay : Nat := 241
end T
namespace G
abbrev b : Nat := 0
abbrev e : Nat := 1
abbrev d : Nat := 2
abbrev a : Nat := 3
abbrev c : Nat := 4
end G
end Go.Proofs.YtjdiakhipmggjaaGreatDoor

set_option maxRecDepth 100000
namespace Go.Proofs.YtjdiakhipmggjaaGreatDoor
open Go.Emb
def Q5K:V7:=[none,none,none,none,some ([1,10],[1,3,10,11,12,13,14,15,16,17,18]),none,none,none,none,none]
def Q0h (w:World) (K:Value→World→Prop):Prop:= E3 P T.b [(0,(.string ⟨#[79,98,106,101,99,116]⟩))] w fun k w=>E3 P T.o [(0,(.string ⟨#[119,104,97,116]⟩)),(1,(.string ⟨#[116,101,120,116]⟩))] w fun i w=>buildSlice P T.k 1 [(0,i)] w fun m w=>E3 P T.b [(0,(.string ⟨#[70,97,117,108,116]⟩)),(1,(.string ⟨#[79,98,106,101,99,116]⟩)),(6,m)] w fun j w=>buildSlice P T.i 2 [(0,k),(1,j)] w fun l w=>Q2 P T.ao (.pointer (some ⟨G.b,0,none⟩)) w fun n w=>lp (α:=Value×Value) (l,(.int .i64 0)) w fun a b o w=>Q3 P .lss T.e (.tmp 10) (.const (.int .i64 6)) b.2 (.int .i64 6) w fun d w=>X1 d (C2 P T.ao n b.2 w fun f w=>E3 P T.b [(0,f),(1,(.string ⟨#[70,97,117,108,116]⟩)),(5,(.bool true))] w fun e w=>buildSlice P T.i 1 [(0,e)] w fun g w=>X2 P .append [T.i,T.i] T.i [false,false] [b.1,g] w fun h w=>Q3 P .add T.e (.tmp 10) (.const (.int .i64 1)) b.2 (.int .i64 1) w fun c w=>a (h,c) w) (K b.1 w)
theorem Q6f {w:World} {K:Value→World→Prop} (h:Q0h w K):Q1 P F.cF [] w K:=Q9 Q5K Tryz.func41 rfl (by decide) (by kernel_rfl) h
def Q5R:V7:=[none,none,none,some ([8],[2,4,8,9,10,11,12,13,14,15,16,17,18,19,20,21,22,23,24,25,26,27,28,29,30,31,32,33]),none,none,none,none,none,none,none]
def Q19 (Z:Value) (w:World) (K:Value→World→Prop):Prop:= box P T.b Z w fun b w=>fieldAddr P T.b b 7 w fun X w=>Q2 P T.j X w fun W w=>X2 P .len [T.j] T.e [false] [W] w fun Y w=>lp (α:=Value) (.int .i64 0) w fun h J d_ w=>Q3 P .lss T.e (.tmp 8) (.tmp 7) J Y w fun t9 w=>X1 t9 (indexAddr P T.j W J w fun v w=>Q2 P T.d v w fun o w=>W1 P T.d w fun a w=>X9 P T.d a o w fun _u w=>fieldAddr P T.d a 1 w fun Q w=>Q2 P T.h Q w fun O w=>X2 P .len [T.h] T.e [false] [O] w fun M w=>Q3 P .gtr T.e (.tmp 14) (.const (.int .i64 32)) M (.int .i64 32) w fun f w=>Q0 f false w (fieldAddr P T.d a 6) fun u w=>Q0 f false w (Q2 P T.s u) fun y w=>Q0 f false w (X2 P .len [T.s] T.e [false] [y]) fun D w=>Q0 f false w (Q3 P .gtr T.e (.tmp 19) (.const (.int .i64 32)) D (.int .i64 32)) fun V w=>pick P f (.bool true) V w fun d w=>Q0 d false w (fieldAddr P T.d a 5) fun C w=>Q0 d false w (Q2 P T.q C) fun j w=>Q0 d false w (X2 P .len [T.q] T.e [false] [j]) fun r w=>Q0 d false w (Q3 P .gtr T.e (.tmp 25) (.const (.int .i64 200)) r (.int .i64 200)) fun A w=>pick P d (.bool true) A w fun g w=>Q0 g false w (fieldAddr P T.d a 4) fun E w=>Q0 g false w (Q2 P T.e E) fun t w=>Q0 g false w (Q3 P .gtr T.e (.tmp 30) (.const (.int .i64 64)) t (.int .i64 64)) fun k w=>pick P g (.bool true) k w fun i w=>X1 i (K (.bool true) w) (Q3 P .add T.e (.tmp 8) (.const (.int .i64 1)) J (.int .i64 1) w fun R w=>h R w)) (fieldAddr P T.b b 2 w fun m w=>Q2 P T.h m w fun L w=>X2 P .len [T.h] T.e [false] [L] w fun p w=>Q3 P .gtr T.e (.tmp 36) (.const (.int .i64 32)) p (.int .i64 32) w fun c w=>Q0 c false w (fieldAddr P T.b b 6) fun N w=>Q0 c false w (Q2 P T.k N) fun s w=>Q0 c false w (X2 P .len [T.k] T.e [false] [s]) fun n w=>Q0 c false w (Q3 P .gtr T.e (.tmp 41) (.const (.int .i64 32)) n (.int .i64 32)) fun B w=>pick P c (.bool true) B w fun e w=>Q0 e false w (fieldAddr P T.b b 7) fun H w=>Q0 e false w (Q2 P T.j H) fun l w=>Q0 e false w (X2 P .len [T.j] T.e [false] [l]) fun U w=>Q0 e false w (Q3 P .gtr T.e (.tmp 47) (.const (.int .i64 32)) U (.int .i64 32)) fun q w=>pick P e (.bool true) q w fun z w=>K z w)
theorem Q52 {a:Value} {w:World} {K:Value→World→Prop} (h:Q19 a w K):Q1 P F.cG [a] w K:=Q9 Q5R Tryz.func77 rfl (by decide) (by kernel_rfl) h
def Xx:V7:=[none,none,none,some ([8],[4,5,8,9,10,11,12,13,14,15,16,17,18]),none,none,none,none,none,none,none]
def B6 (g j:Value) (w:World) (K:Value→World→Prop):Prop:= X2 P .len [T.j] T.e [false] [g] w fun h w=>lp (α:=Value) (.int .i64 0) w fun a b k w=>Q3 P .lss T.e (.tmp 8) (.tmp 7) b h w fun i w=>X1 i (indexAddr P T.j g b w fun d w=>Q2 P T.d d w fun e w=>Z3 P j [e] w fun f w=>X1 f (K b w) (Q3 P .add T.e (.tmp 8) (.const (.int .i64 1)) b (.int .i64 1) w fun c w=>a c w)) (K (.int .i64 (-1)) w)
theorem Xk {a b:Value} {w:World} {K:Value→World→Prop} (h:B6 a b w K):Q1 P F.g [a,b] w K:=Q9 Xx Tryz.func142 rfl (by decide) (by kernel_rfl) h
def S7 (b d:Value) (w:World) (K:Value→World→Prop):Prop:= Q1 P F.g [b,d] w fun a w=>Q3 P .geq T.e (.tmp 7) (.const (.int .i64 0)) a (.int .i64 0) w fun c w=>K c w
theorem Qr {a b:Value} {w:World} {K:Value→World→Prop} (h:S7 a b w K):Q1 P F.a [a,b] w K:=Q9 (List.replicate 2 none) Tryz.func93 rfl (by decide) (by kernel_rfl) h
def Nh:V7:=[none,none,none,some ([8],[4,5,8,9,10,11,12,13,14,15,16,17,18]),none,none,none,none,none,none,none]
def Qh (g j:Value) (w:World) (K:Value→World→Prop):Prop:= X2 P .len [T.h] T.e [false] [g] w fun h w=>lp (α:=Value) (.int .i64 0) w fun a b k w=>Q3 P .lss T.e (.tmp 8) (.tmp 7) b h w fun i w=>X1 i (indexAddr P T.h g b w fun d w=>Q2 P T.c d w fun e w=>Q3 P .eql T.c (.tmp 11) (.tmp 15) j e w fun f w=>X1 f (K b w) (Q3 P .add T.e (.tmp 8) (.const (.int .i64 1)) b (.int .i64 1) w fun c w=>a c w)) (K (.int .i64 (-1)) w)
theorem Np {a b:Value} {w:World} {K:Value→World→Prop} (h:Qh a b w K):Q1 P F.ar [a,b] w K:=Q9 Nh Tryz.func161 rfl (by decide) (by kernel_rfl) h
def T7 (b d:Value) (w:World) (K:Value→World→Prop):Prop:= Q1 P F.ar [b,d] w fun a w=>Q3 P .geq T.e (.tmp 7) (.const (.int .i64 0)) a (.int .i64 0) w fun c w=>K c w
theorem Vr {a b:Value} {w:World} {K:Value→World→Prop} (h:T7 a b w K):Q1 P F.ag [a,b] w K:=Q9 (List.replicate 2 none) Tryz.func120 rfl (by decide) (by kernel_rfl) h
def Bi (b:Value) (w:World) (K:Value→World→Prop):Prop:= box P T.d b w fun a w=>fieldAddr P T.d a 3 w fun d w=>Q2 P T.u d w fun c w=>K c w
theorem Q2P {a:Value} {w:World} {K:Value→World→Prop} (h:Bi a w K):Q1 P F.cn [a] w K:=Q9 (List.replicate 2 none) Tryz.func121 rfl (by decide) (by kernel_rfl) h
def Bg (c:Value) (w:World) (K:Value→World→Prop):Prop:= box P T.d c w fun a w=>fieldAddr P T.d a 3 w fun e w=>Q2 P T.u e w fun d w=>J8 P .not d w fun b w=>K b w
theorem Q3i {a:Value} {w:World} {K:Value→World→Prop} (h:Bg a w K):Q1 P F.co [a] w K:=Q9 (List.replicate 2 none) Tryz.func122 rfl (by decide) (by kernel_rfl) h
def Vk:V7:=[none,none,none,some ([8],[4,5,8,9,10,11,12,13,14,15,16,17,18]),none,none,none,none,none,none,none]
def T0 (g j:Value) (w:World) (K:Value→World→Prop):Prop:= X2 P .len [T.h] T.e [false] [g] w fun h w=>lp (α:=Value) (.int .i64 0) w fun a b k w=>Q3 P .lss T.e (.tmp 8) (.tmp 7) b h w fun i w=>X1 i (indexAddr P T.h g b w fun d w=>Q2 P T.c d w fun e w=>Z3 P j [e] w fun f w=>X1 f (K b w) (Q3 P .add T.e (.tmp 8) (.const (.int .i64 1)) b (.int .i64 1) w fun c w=>a c w)) (K (.int .i64 (-1)) w)
theorem Vj {a b:Value} {w:World} {K:Value→World→Prop} (h:T0 a b w K):Q1 P F.v [a,b] w K:=Q9 Vk Tryz.func138 rfl (by decide) (by kernel_rfl) h
def K0 (b d:Value) (w:World) (K:Value→World→Prop):Prop:= Q1 P F.v [b,d] w fun a w=>Q3 P .geq T.e (.tmp 7) (.const (.int .i64 0)) a (.int .i64 0) w fun c w=>K c w
theorem Jh {a b:Value} {w:World} {K:Value→World→Prop} (h:K0 a b w K):Q1 P F.c [a,b] w K:=Q9 (List.replicate 2 none) Tryz.func86 rfl (by decide) (by kernel_rfl) h
def Vx (b e:Value) (w:World) (K:Value→World→Prop):Prop:= Q2 P T.a4 e w fun c w=>Z3 P c [b] w fun d w=>J8 P .not d w fun a w=>K a w
theorem By {a b:Value} {w:World} {K:Value→World→Prop} (h:Vx a b w K):Q1 P F.cj [a,b] w K:=Q9 (List.replicate 2 none) Tryz.func162 rfl (by decide) (by kernel_rfl) h
def Ny (c f:Value) (w:World) (K:Value→World→Prop):Prop:= box P T.a4 f w fun a w=>H1 P (.func F.cj) [] [a] w fun e w=>Q1 P F.c [c,e] w fun b w=>J8 P .not b w fun d w=>K d w
theorem Pr {a b:Value} {w:World} {K:Value→World→Prop} (h:Ny a b w K):Q1 P F.a9 [a,b] w K:=Q9 (List.replicate 2 none) Tryz.func123 rfl (by decide) (by kernel_rfl) h
def Q8n:V7:=[none,none,none,some ([],[4,6,9,10,11,12,13,14,15]),none,none,none,none,none,none]
def Q2K (g i:Value) (w:World) (K:Value→World→Prop):Prop:= rng P T.c g w fun h w=>lp (α:=Unit) () w fun a k j w=>W3 P h true T.x w fun f w=>ext P f 0 w fun e w=>X1 e (ext P f 2 w fun c w=>Z3 P i [c] w fun b w=>J8 P .not b w fun d w=>X1 d (K (.bool false) w) (a () w)) (K (.bool true) w)
theorem Q7T {a b:Value} {w:World} {K:Value→World→Prop} (h:Q2K a b w K):Q1 P F.cD [a,b] w K:=Q9 Q8n Tryz.func191 rfl (by decide) (by kernel_rfl) h
def Q0E (b:Value) (w:World) (K:Value→World→Prop):Prop:= Q3 P .geq T.an (.tmp 3) (.const (.int .i32 65)) b (.int .i32 65) w fun a w=>Q0 a true w (fun w J=>J b w) fun e w=>Q0 a true w (Q3 P .leq T.an (.tmp 6) (.const (.int .i32 90)) e (.int .i32 90)) fun c w=>pick P a c (.bool false) w fun d w=>K d w
theorem Q5h {a:Value} {w:World} {K:Value→World→Prop} (h:Q0E a w K):Q1 P F.ck [a] w K:=Q9 (List.replicate 2 none) Tryz.func164 rfl (by decide) (by kernel_rfl) h
def Q1a (b:Value) (w:World) (K:Value→World→Prop):Prop:= Q3 P .geq T.an (.tmp 3) (.const (.int .i32 97)) b (.int .i32 97) w fun a w=>Q0 a true w (fun w J=>J b w) fun e w=>Q0 a true w (Q3 P .leq T.an (.tmp 6) (.const (.int .i32 122)) e (.int .i32 122)) fun c w=>pick P a c (.bool false) w fun d w=>K d w
theorem Q56 {a:Value} {w:World} {K:Value→World→Prop} (h:Q1a a w K):Q1 P F.cl [a] w K:=Q9 (List.replicate 2 none) Tryz.func193 rfl (by decide) (by kernel_rfl) h
def Ti (c:Value) (w:World) (K:Value→World→Prop):Prop:= Q1 P F.ck [c] w fun h w=>Q0 h false w (fun w J=>J c w) fun l w=>Q0 h false w (Q1 P F.cl [l]) fun k w=>pick P h (.bool true) k w fun b w=>Q0 b false w (fun w J=>J c w) fun j w=>Q0 b false w (Q3 P .geq T.an (.tmp 10) (.const (.int .i32 48)) j (.int .i32 48)) fun e w=>Q0 b false w (fun w J=>J e w) fun a w=>Q0 a true w (fun w J=>J c w) fun g w=>Q0 a true w (Q3 P .leq T.an (.tmp 13) (.const (.int .i32 57)) g (.int .i32 57)) fun d w=>Q0 b false w (pick P a d (.bool false)) fun f w=>pick P b (.bool true) f w fun i w=>K i w
theorem Q4T {a:Value} {w:World} {K:Value→World→Prop} (h:Ti a w K):Q1 P F.cc [a] w K:=Q9 (List.replicate 2 none) Tryz.func192 rfl (by decide) (by kernel_rfl) h
def Q20 (c:Value) (w:World) (K:Value→World→Prop):Prop:= Q3 P .eql T.c (.tmp 3) (.const (.string ⟨#[]⟩)) c (.string ⟨#[]⟩) w fun d w=>Q0 d false w (fun w J=>J c w) fun p w=>Q0 d false w (X2 P .len [T.c] T.e [false] [p]) fun n w=>Q0 d false w (Q3 P .gtr T.e (.tmp 7) (.const (.int .i64 32)) n (.int .i64 32)) fun o w=>pick P d (.bool true) o w fun b w=>Q0 b false w (fun w J=>J c w) fun e w=>Q0 b false w (C2 P T.c e (.int .i64 0)) fun m w=>Q0 b false w (Q3 P .geq T.a3 (.tmp 12) (.const (.int .u8 48)) m (.int .u8 48)) fun l w=>Q0 b false w (fun w J=>J l w) fun a w=>Q0 a true w (fun w J=>J c w) fun k w=>Q0 a true w (C2 P T.c k (.int .i64 0)) fun j w=>Q0 a true w (Q3 P .leq T.a3 (.tmp 16) (.const (.int .u8 57)) j (.int .u8 57)) fun g w=>Q0 b false w (pick P a g (.bool false)) fun h w=>pick P b (.bool true) h w fun i w=>X1 i (K (.bool false) w) (Q1 P F.cD [c,(.func (.func F.cc) #[] #[])] w fun f w=>K f w)
theorem Q6s {a:Value} {w:World} {K:Value→World→Prop} (h:Q20 a w K):Q1 P F.c6 [a] w K:=Q9 (List.replicate 5 none) Tryz.func163 rfl (by decide) (by kernel_rfl) h
def Q1e (c:Value) (w:World) (K:Value→World→Prop):Prop:= Q1 P F.c6 [c] w fun a w=>Q0 a true w (fun w J=>J c w) fun f w=>Q0 a true w (C2 P T.c f (.int .i64 0)) fun d w=>Q0 a true w (conv P T.a3 T.an d) fun e w=>Q0 a true w (Q1 P F.ck [e]) fun g w=>pick P a g (.bool false) w fun b w=>K b w
theorem Q5P {a:Value} {w:World} {K:Value→World→Prop} (h:Q1e a w K):Q1 P F.ak [a] w K:=Q9 (List.replicate 2 none) Tryz.func124 rfl (by decide) (by kernel_rfl) h
def Lc (o m n:Value) (w:World) (K:Value→World→Prop):Prop:= dr w fun a b=>Q5 a (fun c=> ∀w,b w→Q2 P T.ac m w (dk a c w)) fun c=>Q5 a (fun g=> ∀d w,b w→c d w→Z3 P d [o] w (dk a g w)) fun g=>Q5 a (fun e=> ∀w,b w→Q2 P T.ac m w (dk a e w)) fun e=>Q5 a (fun h=> ∀w,b w→Q2 P T.c n w (dk a h w)) fun h=>∀d j k l w,b w→c d w→g j w→e k w→h l w→ Z3 P k [l] w fun i w=>Q3 P .eql T.c (.tmp 7) (.tmp 10) j i w fun f w=>K f w
theorem Fy {b c a:Value} {w:World} {K:Value→World→Prop} (h:Lc b c a w K):Q1 P F.ct [b,c,a] w K:=Q9 (List.replicate 2 none) Tryz.func165 rfl (by decide) (by kernel_rfl) h
def Tz:V7:=[none,none,none,some ([9],[4,5,6,9,10,11,12,13,14,15,16,17,18,19]),none,none,none,none,none,none,none]
def Dh (g n:Value) (w:World) (K:Value→World→Prop):Prop:= box P T.ac n w fun a w=>X2 P .len [T.h] T.e [false] [g] w fun m w=>lp (α:=Value) (.int .i64 0) w fun c d o w=>Q3 P .lss T.e (.tmp 9) (.tmp 8) d m w fun l w=>X1 l (indexAddr P T.h g d w fun h w=>Q2 P T.c h w fun f w=>W1 P T.c w fun b w=>X9 P T.c b f w fun _u w=>R6 P T.h g none (some d) none w fun j w=>H1 P (.func F.ct) [] [a,b] w fun k w=>Q1 P F.c [j,k] w fun e w=>X1 e (K (.bool false) w) (Q3 P .add T.e (.tmp 9) (.const (.int .i64 1)) d (.int .i64 1) w fun i w=>c i w)) (K (.bool true) w)
theorem Aa {a b:Value} {w:World} {K:Value→World→Prop} (h:Dh a b w K):Q1 P F.aT [a,b] w K:=Q9 Tz Tryz.func125 rfl (by decide) (by kernel_rfl) h
def Q2T (a:Value) (w:World) (K:Value→World→Prop):Prop:= K a w
theorem Q36 {a:Value} {w:World} {K:Value→World→Prop} (h:Q2T a w K):Q1 P F.cp [a] w K:=Q9 (List.replicate 2 none) Tryz.func126 rfl (by decide) (by kernel_rfl) h
def Yz:V7:=[none,none,none,some ([8],[4,5,8,9,10,11,12,13,14,15,16,17,18]),none,none,none,none,none,none,none]
def G1 (g j:Value) (w:World) (K:Value→World→Prop):Prop:= X2 P .len [T.k] T.e [false] [g] w fun h w=>lp (α:=Value) (.int .i64 0) w fun a b k w=>Q3 P .lss T.e (.tmp 8) (.tmp 7) b h w fun i w=>X1 i (indexAddr P T.k g b w fun d w=>Q2 P T.o d w fun e w=>Z3 P j [e] w fun f w=>X1 f (K b w) (Q3 P .add T.e (.tmp 8) (.const (.int .i64 1)) b (.int .i64 1) w fun c w=>a c w)) (K (.int .i64 (-1)) w)
theorem Yo {a b:Value} {w:World} {K:Value→World→Prop} (h:G1 a b w K):Q1 P F.i [a,b] w K:=Q9 Yz Tryz.func140 rfl (by decide) (by kernel_rfl) h
def C9 (b d:Value) (w:World) (K:Value→World→Prop):Prop:= Q1 P F.i [b,d] w fun a w=>Q3 P .geq T.e (.tmp 7) (.const (.int .i64 0)) a (.int .i64 0) w fun c w=>K c w
theorem Xe {a b:Value} {w:World} {K:Value→World→Prop} (h:C9 a b w K):Q1 P F.f [a,b] w K:=Q9 (List.replicate 2 none) Tryz.func166 rfl (by decide) (by kernel_rfl) h
def Ub (q o r:Value) (w:World) (K:Value→World→Prop):Prop:= box P T.o q w fun b w=>dr w fun a c=>Q5 a (fun e=> ∀w,c w→Q2 P T.aa o w (dk a e w)) fun e=>Q5 a (fun g=> ∀w,c w→Q2 P T.o b w (dk a g w)) fun g=>Q5 a (fun k=> ∀d f w,c w→e d w→g f w→Z3 P d [f] w (dk a k w)) fun k=>Q5 a (fun j=> ∀w,c w→Q2 P T.aa o w (dk a j w)) fun j=>Q5 a (fun l=> ∀w,c w→Q2 P T.o r w (dk a l w)) fun l=>∀d f m n p w,c w→e d w→g f w→k m w→j n w→l p w→ Z3 P n [p] w fun i w=>Q3 P .eql T.c (.tmp 7) (.tmp 10) m i w fun h w=>K h w
theorem Sb {b c a:Value} {w:World} {K:Value→World→Prop} (h:Ub b c a w K):Q1 P F.cb [b,c,a] w K:=Q9 (List.replicate 2 none) Tryz.func167 rfl (by decide) (by kernel_rfl) h
def Bz:V7:=[none,none,none,some ([9],[4,5,6,9,10,11,12,13,14,15,16,17,18,19]),none,none,none,none,none,none,none]
def Vp (g n:Value) (w:World) (K:Value→World→Prop):Prop:= box P T.aa n w fun a w=>X2 P .len [T.k] T.e [false] [g] w fun m w=>lp (α:=Value) (.int .i64 0) w fun c d o w=>Q3 P .lss T.e (.tmp 9) (.tmp 8) d m w fun l w=>X1 l (indexAddr P T.k g d w fun h w=>Q2 P T.o h w fun f w=>W1 P T.o w fun b w=>X9 P T.o b f w fun _u w=>R6 P T.k g none (some d) none w fun j w=>H1 P (.func F.cb) [] [a,b] w fun k w=>Q1 P F.f [j,k] w fun e w=>X1 e (K (.bool false) w) (Q3 P .add T.e (.tmp 9) (.const (.int .i64 1)) d (.int .i64 1) w fun i w=>c i w)) (K (.bool true) w)
theorem Bn {a b:Value} {w:World} {K:Value→World→Prop} (h:Vp a b w K):Q1 P F.aE [a,b] w K:=Q9 Bz Tryz.func127 rfl (by decide) (by kernel_rfl) h
def Cu (b:Value) (w:World) (K:Value→World→Prop):Prop:= box P T.o b w fun a w=>fieldAddr P T.o a 0 w fun d w=>Q2 P T.c d w fun c w=>K c w
theorem Q2W {a:Value} {w:World} {K:Value→World→Prop} (h:Cu a w K):Q1 P F.cq [a] w K:=Q9 (List.replicate 2 none) Tryz.func128 rfl (by decide) (by kernel_rfl) h
def Ja (q o r:Value) (w:World) (K:Value→World→Prop):Prop:= box P T.d q w fun b w=>dr w fun a c=>Q5 a (fun e=> ∀w,c w→Q2 P T.a9 o w (dk a e w)) fun e=>Q5 a (fun g=> ∀w,c w→Q2 P T.d b w (dk a g w)) fun g=>Q5 a (fun k=> ∀d f w,c w→e d w→g f w→Z3 P d [f] w (dk a k w)) fun k=>Q5 a (fun j=> ∀w,c w→Q2 P T.a9 o w (dk a j w)) fun j=>Q5 a (fun l=> ∀w,c w→Q2 P T.d r w (dk a l w)) fun l=>∀d f m n p w,c w→e d w→g f w→k m w→j n w→l p w→ Z3 P n [p] w fun i w=>Q3 P .eql T.c (.tmp 7) (.tmp 10) m i w fun h w=>K h w
theorem Ri {b c a:Value} {w:World} {K:Value→World→Prop} (h:Ja b c a w K):Q1 P F.bW [b,c,a] w K:=Q9 (List.replicate 2 none) Tryz.func168 rfl (by decide) (by kernel_rfl) h
def Cm:V7:=[none,none,none,some ([9],[4,5,6,9,10,11,12,13,14,15,16,17,18,19]),none,none,none,none,none,none,none]
def Vc (g n:Value) (w:World) (K:Value→World→Prop):Prop:= box P T.a9 n w fun a w=>X2 P .len [T.j] T.e [false] [g] w fun m w=>lp (α:=Value) (.int .i64 0) w fun c d o w=>Q3 P .lss T.e (.tmp 9) (.tmp 8) d m w fun l w=>X1 l (indexAddr P T.j g d w fun h w=>Q2 P T.d h w fun f w=>W1 P T.d w fun b w=>X9 P T.d b f w fun _u w=>R6 P T.j g none (some d) none w fun j w=>H1 P (.func F.bW) [] [a,b] w fun k w=>Q1 P F.a [j,k] w fun e w=>X1 e (K (.bool false) w) (Q3 P .add T.e (.tmp 9) (.const (.int .i64 1)) d (.int .i64 1) w fun i w=>c i w)) (K (.bool true) w)
theorem Cn {a b:Value} {w:World} {K:Value→World→Prop} (h:Vc a b w K):Q1 P F.ap [a,b] w K:=Q9 Cm Tryz.func129 rfl (by decide) (by kernel_rfl) h
def Bd (b:Value) (w:World) (K:Value→World→Prop):Prop:= box P T.d b w fun a w=>fieldAddr P T.d a 0 w fun d w=>Q2 P T.c d w fun c w=>K c w
theorem Q34 {a:Value} {w:World} {K:Value→World→Prop} (h:Bd a w K):Q1 P F.cr [a] w K:=Q9 (List.replicate 2 none) Tryz.func130 rfl (by decide) (by kernel_rfl) h
def Je (d g:Value) (w:World) (K:Value→World→Prop):Prop:= box P T.o d w fun a w=>Q2 P T.ag g w fun e w=>Q2 P T.o a w fun b w=>Z3 P e [b] w fun f w=>J8 P .not f w fun c w=>K c w
theorem Ra {a b:Value} {w:World} {K:Value→World→Prop} (h:Je a b w K):Q1 P F.bX [a,b] w K:=Q9 (List.replicate 2 none) Tryz.func169 rfl (by decide) (by kernel_rfl) h
def Vg (c f:Value) (w:World) (K:Value→World→Prop):Prop:= box P T.ag f w fun a w=>H1 P (.func F.bX) [] [a] w fun e w=>Q1 P F.f [c,e] w fun b w=>J8 P .not b w fun d w=>K d w
theorem Cs {a b:Value} {w:World} {K:Value→World→Prop} (h:Vg a b w K):Q1 P F.aq [a,b] w K:=Q9 (List.replicate 2 none) Tryz.func131 rfl (by decide) (by kernel_rfl) h
def Q0r (b:Value) (w:World) (K:Value→World→Prop):Prop:= Q3 P .eql T.c (.tmp 3) (.const (.string ⟨#[105,110,116]⟩)) b (.string ⟨#[105,110,116]⟩) w fun c w=>Q0 c false w (fun w J=>J b w) fun h w=>Q0 c false w (Q3 P .eql T.c (.tmp 6) (.const (.string ⟨#[98,111,111,108]⟩)) h (.string ⟨#[98,111,111,108]⟩)) fun g w=>pick P c (.bool true) g w fun e w=>Q0 e false w (fun w J=>J b w) fun f w=>Q0 e false w (Q3 P .eql T.c (.tmp 10) (.const (.string ⟨#[116,101,120,116]⟩)) f (.string ⟨#[116,101,120,116]⟩)) fun a w=>pick P e (.bool true) a w fun d w=>K d w
theorem Q6e {a:Value} {w:World} {K:Value→World→Prop} (h:Q0r a w K):Q1 P F.aN [a] w K:=Q9 (List.replicate 2 none) Tryz.func109 rfl (by decide) (by kernel_rfl) h
def Uz (g k:Value) (w:World) (K:Value→World→Prop):Prop:= X2 P .len [T.c] T.e [false] [g] w fun o w=>X2 P .len [T.c] T.e [false] [k] w fun n w=>Q3 P .geq T.e (.tmp 6) (.tmp 8) o n w fun a w=>Q0 a true w (fun w J=>J g w) fun d w=>Q0 a true w (fun w J=>J g w) fun h w=>Q0 a true w (X2 P .len [T.c] T.e [false] [h]) fun f w=>Q0 a true w (fun w J=>J k w) fun c w=>Q0 a true w (X2 P .len [T.c] T.e [false] [c]) fun e w=>Q0 a true w (Q3 P .sub T.e (.tmp 13) (.tmp 15) f e) fun j w=>Q0 a true w (R6 P T.c d (some j) none none) fun l w=>Q0 a true w (fun w J=>J k w) fun b w=>Q0 a true w (Q3 P .eql T.c (.tmp 17) (.tmp 18) l b) fun i w=>pick P a i (.bool false) w fun m w=>K m w
theorem Ck {a b:Value} {w:World} {K:Value→World→Prop} (h:Uz a b w K):Q1 P F.aa [a,b] w K:=Q9 (List.replicate 2 none) Tryz.func202 rfl (by decide) (by kernel_rfl) h
def Oo (b c:Value) (w:World) (K:Value→World→Prop):Prop:= Q1 P F.aa [b,c] w fun a w=>K a w
theorem Q00 {a b:Value} {w:World} {K:Value→World→Prop} (h:Oo a b w K):Q1 P F.bK [a,b] w K:=Q9 (List.replicate 2 none) Tryz.func185 rfl (by decide) (by kernel_rfl) h
def Jo (a f:Value) (w:World) (K:Value→World→Prop):Prop:= Q1 P F.aa [a,f] w fun g w=>X1 g (X2 P .len [T.c] T.e [false] [a] w fun e w=>X2 P .len [T.c] T.e [false] [f] w fun d w=>Q3 P .sub T.e (.tmp 10) (.tmp 12) e d w fun c w=>R6 P T.c a none (some c) none w fun b w=>K b w) (K a w)
theorem Ca {a b:Value} {w:World} {K:Value→World→Prop} (h:Jo a b w K):Q1 P F.cd [a,b] w K:=Q9 (List.replicate 5 none) Tryz.func204 rfl (by decide) (by kernel_rfl) h
def Nv (b c:Value) (w:World) (K:Value→World→Prop):Prop:= Q1 P F.cd [b,c] w fun a w=>K a w
theorem Ib {a b:Value} {w:World} {K:Value→World→Prop} (h:Nv a b w K):Q1 P F.bs [a,b] w K:=Q9 (List.replicate 2 none) Tryz.func186 rfl (by decide) (by kernel_rfl) h
def Q6I:V7:=[none,none,none,some ([0,4],[0,4,5,6,7,8,9,10]),none,none,none]
def Q2b (d:Value) (w:World) (K:Value→World→Prop):Prop:= lp (α:=Value×Value) (d,(.int .i64 0)) w fun a b g w=>Q1 P F.bK [b.1,(.string ⟨#[91,93]⟩)] w fun f w=>X1 f (Q1 P F.bs [b.1,(.string ⟨#[91,93]⟩)] w fun e w=>Q3 P .add T.e (.tmp 9) (.const (.int .i64 1)) b.2 (.int .i64 1) w fun c w=>a (e,c) w) (K (.tuple #[b.1,b.2]) w)
theorem Q6T {a:Value} {w:World} {K:Value→World→Prop} (h:Q2b a w K):Q1 P F.cx [a] w K:=Q9 Q6I Tryz.func155 rfl (by decide) (by kernel_rfl) h
def Q0Z (k:Value) (w:World) (K:Value→World→Prop):Prop:= Q1 P F.cx [k] w fun i w=>ext P i 0 w fun j w=>ext P i 1 w fun l w=>Q3 P .leq T.e (.tmp 10) (.const (.int .i64 3)) l (.int .i64 3) w fun a w=>Q0 a true w (fun w J=>J j w) fun e w=>Q0 a true w (Q1 P F.aN [e]) fun d w=>Q0 a true w (fun w J=>J d w) fun b w=>Q0 b false w (fun w J=>J j w) fun g w=>Q0 b false w (Q1 P F.ak [g]) fun h w=>Q0 a true w (pick P b (.bool true) h) fun c w=>pick P a c (.bool false) w fun f w=>K f w
theorem Q6m {a:Value} {w:World} {K:Value→World→Prop} (h:Q0Z a w K):Q1 P F.z [a] w K:=Q9 (List.replicate 3 none) Tryz.func114 rfl (by decide) (by kernel_rfl) h
def Gh (b:Value) (w:World) (K:Value→World→Prop):Prop:= Q1 P F.c6 [b] w fun a w=>Q0 a true w (fun w J=>J b w) fun e w=>Q0 a true w (Q1 P F.ak [e]) fun c w=>Q0 a true w (J8 P .not c) fun d w=>pick P a d (.bool false) w fun f w=>K f w
theorem Q3M {a:Value} {w:World} {K:Value→World→Prop} (h:Gh a w K):Q1 P F.bT [a] w K:=Q9 (List.replicate 2 none) Tryz.func133 rfl (by decide) (by kernel_rfl) h
def Cz (e:Value) (w:World) (K:Value→World→Prop):Prop:= box P T.o e w fun a w=>fieldAddr P T.o a 0 w fun g w=>Q2 P T.c g w fun f w=>Q1 P F.bT [f] w fun b w=>Q0 b true w (fieldAddr P T.o a 1) fun d w=>Q0 b true w (Q2 P T.c d) fun h w=>Q0 b true w (Q1 P F.z [h]) fun i w=>pick P b i (.bool false) w fun c w=>K c w
theorem Q2J {a:Value} {w:World} {K:Value→World→Prop} (h:Cz a w K):Q1 P F.bw [a] w K:=Q9 (List.replicate 2 none) Tryz.func132 rfl (by decide) (by kernel_rfl) h
def Za (d g:Value) (w:World) (K:Value→World→Prop):Prop:= box P T.d d w fun a w=>Q2 P T.ae g w fun e w=>Q2 P T.d a w fun b w=>Z3 P e [b] w fun f w=>J8 P .not f w fun c w=>K c w
theorem Hh {a b:Value} {w:World} {K:Value→World→Prop} (h:Za a b w K):Q1 P F.bU [a,b] w K:=Q9 (List.replicate 2 none) Tryz.func170 rfl (by decide) (by kernel_rfl) h
def Ud (c f:Value) (w:World) (K:Value→World→Prop):Prop:= box P T.ae f w fun a w=>H1 P (.func F.bU) [] [a] w fun e w=>Q1 P F.a [c,e] w fun b w=>J8 P .not b w fun d w=>K d w
theorem Rs {a b:Value} {w:World} {K:Value→World→Prop} (h:Ud a b w K):Q1 P F.an [a,b] w K:=Q9 (List.replicate 2 none) Tryz.func134 rfl (by decide) (by kernel_rfl) h
def Sq (C A:Value) (w:World) (K:Value→World→Prop):Prop:= box P T.t C w fun a w=>fieldAddr P T.t a 0 w fun E w=>Q2 P T.e E w fun B w=>Q3 P .geq T.e (.tmp 5) (.const (.int .i64 0)) B (.int .i64 0) w fun f w=>Q0 f true w (fieldAddr P T.t a 1) fun D w=>Q0 f true w (Q2 P T.e D) fun H w=>Q0 f true w (fieldAddr P T.t a 0) fun o w=>Q0 f true w (Q2 P T.e o) fun i w=>Q0 f true w (Q3 P .gtr T.e (.tmp 9) (.tmp 11) H i) fun y w=>pick P f y (.bool false) w fun c w=>Q0 c true w (fieldAddr P T.t a 1) fun v w=>Q0 c true w (Q2 P T.e v) fun t w=>Q0 c true w (Q2 P T.e A) fun n w=>Q0 c true w (Q3 P .leq T.e (.tmp 16) (.tmp 17) t n) fun p w=>pick P c p (.bool false) w fun e w=>Q0 e true w (fieldAddr P T.t a 2) fun j w=>Q0 e true w (Q2 P T.e j) fun l w=>Q0 e true w (Q3 P .geq T.e (.tmp 22) (.const (.int .i64 0)) l (.int .i64 0)) fun r w=>pick P e r (.bool false) w fun b w=>Q0 b true w (fieldAddr P T.t a 2) fun q w=>Q0 b true w (Q2 P T.e q) fun m w=>Q0 b true w (Q2 P T.e A) fun k w=>Q0 b true w (Q3 P .lss T.e (.tmp 27) (.tmp 28) m k) fun s w=>pick P b s (.bool false) w fun d w=>Q0 d true w (fieldAddr P T.t a 3) fun g w=>Q0 d true w (Q2 P T.c g) fun z w=>Q0 d true w (Q1 P F.ak [z]) fun h w=>pick P d h (.bool false) w fun u w=>K u w
theorem Q2r {a b:Value} {w:World} {K:Value→World→Prop} (h:Sq a b w K):Q1 P F.bg [a,b] w K:=Q9 (List.replicate 2 none) Tryz.func171 rfl (by decide) (by kernel_rfl) h
def Yp:V7:=[none,none,none,some ([8],[4,5,8,9,10,11,12,13,14,15,16,17,18]),none,none,none,none,none,none,none]
def F5 (g j:Value) (w:World) (K:Value→World→Prop):Prop:= X2 P .len [T.q] T.e [false] [g] w fun h w=>lp (α:=Value) (.int .i64 0) w fun a b k w=>Q3 P .lss T.e (.tmp 8) (.tmp 7) b h w fun i w=>X1 i (indexAddr P T.q g b w fun d w=>Q2 P T.v d w fun e w=>Z3 P j [e] w fun f w=>X1 f (K b w) (Q3 P .add T.e (.tmp 8) (.const (.int .i64 1)) b (.int .i64 1) w fun c w=>a c w)) (K (.int .i64 (-1)) w)
theorem Yl {a b:Value} {w:World} {K:Value→World→Prop} (h:F5 a b w K):Q1 P F.a5 [a,b] w K:=Q9 Yp Tryz.func208 rfl (by decide) (by kernel_rfl) h
def C8 (b d:Value) (w:World) (K:Value→World→Prop):Prop:= Q1 P F.a5 [b,d] w fun a w=>Q3 P .geq T.e (.tmp 7) (.const (.int .i64 0)) a (.int .i64 0) w fun c w=>K c w
theorem Xd {a b:Value} {w:World} {K:Value→World→Prop} (h:C8 a b w K):Q1 P F.l [a,b] w K:=Q9 (List.replicate 2 none) Tryz.func194 rfl (by decide) (by kernel_rfl) h
def Zw (d g:Value) (w:World) (K:Value→World→Prop):Prop:= box P T.v d w fun a w=>Q2 P T.ai g w fun e w=>Q2 P T.v a w fun b w=>Z3 P e [b] w fun f w=>J8 P .not f w fun c w=>K c w
theorem Hw {a b:Value} {w:World} {K:Value→World→Prop} (h:Zw a b w K):Q1 P F.bY [a,b] w K:=Q9 (List.replicate 2 none) Tryz.func195 rfl (by decide) (by kernel_rfl) h
def Vd (c f:Value) (w:World) (K:Value→World→Prop):Prop:= box P T.ai f w fun a w=>H1 P (.func F.bY) [] [a] w fun e w=>Q1 P F.l [c,e] w fun b w=>J8 P .not b w fun d w=>K d w
theorem Cq {a b:Value} {w:World} {K:Value→World→Prop} (h:Vd a b w K):Q1 P F.au [a,b] w K:=Q9 (List.replicate 2 none) Tryz.func172 rfl (by decide) (by kernel_rfl) h
def Jm:V7:=[none,none,none,some ([8],[4,5,8,9,10,11,12,13,14,15,16,17,18]),none,none,none,none,none,none,none]
def P0 (g j:Value) (w:World) (K:Value→World→Prop):Prop:= X2 P .len [T.ap] T.e [false] [g] w fun h w=>lp (α:=Value) (.int .i64 0) w fun a b k w=>Q3 P .lss T.e (.tmp 8) (.tmp 7) b h w fun i w=>X1 i (indexAddr P T.ap g b w fun d w=>Q2 P T.ad d w fun e w=>Z3 P j [e] w fun f w=>X1 f (K b w) (Q3 P .add T.e (.tmp 8) (.const (.int .i64 1)) b (.int .i64 1) w fun c w=>a c w)) (K (.int .i64 (-1)) w)
theorem Ui {a b:Value} {w:World} {K:Value→World→Prop} (h:P0 a b w K):Q1 P F.t [a,b] w K:=Q9 Jm Tryz.func221 rfl (by decide) (by kernel_rfl) h
def Te (d g:Value) (w:World) (K:Value→World→Prop):Prop:= box P T.ad d w fun a w=>fieldAddr P T.ad a 0 w fun e w=>Q2 P T.c e w fun b w=>Q2 P T.c g w fun f w=>Q3 P .eql T.c (.tmp 5) (.tmp 6) b f w fun c w=>K c w
theorem Q4J {a b:Value} {w:World} {K:Value→World→Prop} (h:Te a b w K):Q1 P F.cR [a,b] w K:=Q9 (List.replicate 2 none) Tryz.func222 rfl (by decide) (by kernel_rfl) h
def Q25 (c:Value) (w:World) (K:Value→World→Prop):Prop:= box P T.c c w fun a w=>R6 P T.af (.pointer (some ⟨G.a,0,none⟩)) none none none w fun e w=>H1 P (.func F.cR) [] [a] w fun d w=>Q1 P F.t [e,d] w fun b w=>K b w
theorem Q6o {a:Value} {w:World} {K:Value→World→Prop} (h:Q25 a w K):Q1 P F.cM [a] w K:=Q9 (List.replicate 2 none) Tryz.func209 rfl (by decide) (by kernel_rfl) h
def Q0X (p:Value) (w:World) (K:Value→World→Prop):Prop:= Q1 P F.cM [p] w fun o w=>Q3 P .lss T.e (.tmp 8) (.const (.int .i64 0)) o (.int .i64 0) w fun q w=>X1 q (K (.tuple #[(.bool false),(.bool false),(.bool false)]) w) (dr w fun a l=>Q5 a (fun d=> ∀w,l w→indexAddr P T.af (.pointer (some ⟨G.a,0,none⟩)) o w (dk a d w)) fun d=>Q5 a (fun b=> ∀c w,l w→d c w→fieldAddr P T.ad c 1 w (dk a b w)) fun b=>Q5 a (fun g=> ∀w,l w→indexAddr P T.af (.pointer (some ⟨G.a,0,none⟩)) o w (dk a g w)) fun g=>Q5 a (fun e=> ∀h w,l w→g h w→fieldAddr P T.ad h 2 w (dk a e w)) fun e=>Q5 a (fun k=> ∀i w,l w→b i w→Q2 P T.u i w (dk a k w)) fun k=>Q5 a (fun j=> ∀f w,l w→e f w→Q2 P T.u f w (dk a j w)) fun j=>∀c i h f n m w,l w→d c w→b i w→g h w→e f w→k n w→j m w→ K (.tuple #[n,m,(.bool true)]) w)
theorem Q5s {a:Value} {w:World} {K:Value→World→Prop} (h:Q0X a w K):Q1 P F.cm [a] w K:=Q9 (List.replicate 6 none) Tryz.func196 rfl (by decide) (by kernel_rfl) h
def Q2c (d:Value) (w:World) (K:Value→World→Prop):Prop:= Q1 P F.cx [d] w fun c w=>ext P c 0 w fun f w=>ext P c 1 w fun e w=>Q1 P F.z [d] w fun a w=>J8 P .not a w fun b w=>X1 b (K (.int .i64 0) w) (K e w)
theorem Q6v {a:Value} {w:World} {K:Value→World→Prop} (h:Q2c a w K):Q1 P F.cw [a] w K:=Q9 (List.replicate 6 none) Tryz.func115 rfl (by decide) (by kernel_rfl) h
def Vh (b c:Value) (w:World) (K:Value→World→Prop):Prop:= Q1 P F.c0 [b,c] w fun a w=>K a w
theorem Cp {a b:Value} {w:World} {K:Value→World→Prop} (h:Vh a b w K):Q1 P F.aw [a,b] w K:=Q9 (List.replicate 2 none) Tryz.func227 rfl (by decide) (by kernel_rfl) h
def Q07:V7:=[none,none,none,none,none,none,none,none,none,none,none,none,none,none,none,none,none,some ([8,10],[4,8,10,11,12,13,57,58,59,60,61,62,63,64,65,66,67,68,69,70,71,72,73,74,75,76,77,78,79,80,81,82,83,84,85,86,87,88,89,90,91,92,93,94,95,96,97,98,99,100,101,102,103,104,105,106,107,108,109,110,111,112,113,114,115,116,117,118,119,120,121,122,123,124,125,126,127,128,129,130,131,132,133,134,135,136,137,138,139,140,141,142]),none,none,some ([8],[4,8,11,60,61,62,63,64,65,66,67,68,69,70,71,72,73,74,75,76,77]),none,none,none,none,none,none,none,none,none,none,none,none,none,none,none,none,none,none,none,none,none,none,none]
def Ox (h m:Value) (w:World) (K:Value→World→Prop):Prop:= X2 P .len [T.c] T.e [false] [m] w fun e w=>Q3 P .eql T.e (.tmp 17) (.const (.int .i64 0)) e (.int .i64 0) w fun k w=>Q0 k false w (fun w J=>J m w) fun aw w=>Q0 k false w (fun w J=>J h w) fun ag w=>Q0 k false w (Q3 P .eql T.c (.tmp 20) (.tmp 21) aw ag) fun a7 w=>pick P k (.bool true) a7 w fun am w=>X1 am (K (.int .i64 0) w) (Q3 P .eql T.e (.tmp 25) (.const (.int .i64 1)) e (.int .i64 1) w fun ak w=>X1 ak (C2 P T.c m (.int .i64 0) w fun an w=>Q1 P F.aw [h,an] w fun ai w=>K ai w) (X2 P .len [T.c] T.e [false] [h] w fun a3 w=>Q3 P .geq T.e (.tmp 32) (.tmp 34) e a3 w fun aq w=>X1 aq (K (.int .i64 (-1)) w) (Q2 P T.e (.pointer (some ⟨G.c,0,none⟩)) w fun af w=>Q3 P .leq T.e (.tmp 37) (.tmp 38) e af w fun l w=>Q0 l true w (fun w J=>J h w) fun ac w=>Q0 l true w (X2 P .len [T.c] T.e [false] [ac]) fun al w=>Q0 l true w (Q3 P .leq T.e (.tmp 42) (.const (.int .i64 64)) al (.int .i64 64)) fun a8 w=>pick P l a8 (.bool false) w fun ay w=>X1 ay (Q1 P F.cu [h,m] w fun be w=>K be w) (C2 P T.c m (.int .i64 0) w fun U w=>C2 P T.c m (.int .i64 1) w fun bb w=>X2 P .len [T.c] T.e [false] [h] w fun az w=>Q3 P .sub T.e (.tmp 53) (.tmp 54) az e w fun ae w=>Q3 P .add T.e (.tmp 55) (.const (.int .i64 1)) ae (.int .i64 1) w fun q w=>lp (α:=Value×Value) ((.int .i64 0),(.int .i64 0)) w fun i g d_ w=>Q3 P .lss T.e (.tmp 57) (.tmp 58) g.1 q w fun aj w=>X1 aj (jn (α:=Value) w (fun u w=>C2 P T.c h g.1 w fun ax w=>Q3 P .neq T.a3 (.tmp 62) (.tmp 63) ax U w fun a9 w=>X1 a9 (Q3 P .add T.e (.tmp 66) (.const (.int .i64 1)) g.1 (.int .i64 1) w fun ao w=>R6 P T.c h (some ao) (some q) none w fun a4 w=>Q1 P F.aw [a4,U] w fun t w=>Q3 P .lss T.e (.tmp 72) (.const (.int .i64 0)) t (.int .i64 0) w fun ab w=>X1 ab (K (.int .i64 (-1)) w) (Q3 P .add T.e (.tmp 75) (.const (.int .i64 1)) t (.int .i64 1) w fun ap w=>Q3 P .add T.e (.tmp 74) (.tmp 76) g.1 ap w fun bc w=>u bc w)) (u g.1 w)) fun j d_ w=>Q3 P .add T.e (.tmp 79) (.const (.int .i64 1)) j (.int .i64 1) w fun aa w=>C2 P T.c h aa w fun bf w=>Q3 P .eql T.a3 (.tmp 81) (.tmp 82) bf bb w fun b w=>Q0 b true w (fun w J=>J h w) fun ba w=>Q0 b true w (fun w J=>J j w) fun a2 w=>Q0 b true w (fun w J=>J j w) fun ad w=>Q0 b true w (fun w J=>J e w) fun ar w=>Q0 b true w (Q3 P .add T.e (.tmp 87) (.tmp 88) ad ar) fun a6 w=>Q0 b true w (R6 P T.c ba (some a2) (some a6) none) fun a5 w=>Q0 b true w (fun w J=>J m w) fun ah w=>Q0 b true w (Q3 P .eql T.c (.tmp 90) (.tmp 91) a5 ah) fun av w=>pick P b av (.bool false) w fun bd w=>X1 bd (K j w) (Q3 P .add T.e (.tmp 95) (.const (.int .i64 1)) j (.int .i64 1) w fun c w=>Q3 P .add T.e (.tmp 97) (.const (.int .i64 1)) g.2 (.int .i64 1) w fun p w=>Q2 P T.e (.pointer (some ⟨G.c,0,none⟩)) w fun Y w=>Q3 P .leq T.e (.tmp 99) (.tmp 100) e Y w fun d w=>Q0 d true w (fun w J=>J p w) fun M w=>Q0 d true w (fun w J=>J c w) fun B w=>Q0 d true w (Q1 P F.cV [B]) fun y w=>Q0 d true w (Q3 P .gtr T.e (.tmp 103) (.tmp 105) M y) fun Z w=>pick P d Z (.bool false) w fun X w=>X1 X (R6 P T.c h (some c) none none w fun L w=>Q1 P F.cu [L,m] w fun n w=>Q3 P .geq T.e (.tmp 113) (.const (.int .i64 0)) n (.int .i64 0) w fun O w=>X1 O (Q3 P .add T.e (.tmp 115) (.tmp 116) n c w fun r w=>K r w) (K (.int .i64 (-1)) w)) (Q2 P T.e (.pointer (some ⟨G.c,0,none⟩)) w fun V w=>Q3 P .gtr T.e (.tmp 118) (.tmp 119) e V w fun a w=>Q0 a true w (fun w J=>J p w) fun D w=>Q0 a true w (fun w J=>J c w) fun N w=>Q0 a true w (Q3 P .shr T.e (.tmp 123) (.const (.int .u64 4)) N (.int .u64 4)) fun R w=>Q0 a true w (Q3 P .add T.e (.const (.int .i64 4)) (.tmp 124) (.int .i64 4) R) fun v w=>Q0 a true w (Q3 P .geq T.e (.tmp 122) (.tmp 125) D v) fun s w=>pick P a s (.bool false) w fun f w=>Q0 f true w (fun w J=>J c w) fun W w=>Q0 f true w (fun w J=>J q w) fun E w=>Q0 f true w (Q3 P .lss T.e (.tmp 129) (.tmp 130) W E) fun C w=>pick P f C (.bool false) w fun H w=>X1 H (R6 P T.c h (some c) none none w fun z w=>Q1 P F.cK [z,m] w fun o w=>Q3 P .lss T.e (.tmp 138) (.const (.int .i64 0)) o (.int .i64 0) w fun A w=>X1 A (K (.int .i64 (-1)) w) (Q3 P .add T.e (.tmp 140) (.tmp 141) c o w fun Q w=>K Q w)) (i (c,p) w)))) (K (.int .i64 (-1)) w)))))
theorem Ar {a b:Value} {w:World} {K:Value→World→Prop} (h:Ox a b w K):Q1 P F.bL [a,b] w K:=Q9 Q07 Tryz.func228 rfl (by decide) (by kernel_rfl) h
def Ho (l n:Value) (w:World) (K:Value→World→Prop):Prop:= Q1 P F.bL [l,n] w fun h w=>Q3 P .geq T.e (.tmp 11) (.const (.int .i64 0)) h (.int .i64 0) w fun m w=>X1 m (dr w fun e k=>Q5 e (fun g=> ∀w,k w→R6 P T.c l none (some h) none w (dk e g w)) fun g=>Q5 e (fun b=> ∀w,k w→X2 P .len [T.c] T.e [false] [n] w (dk e b w)) fun b=>Q5 e (fun a=> ∀c w,k w→b c w→Q3 P .add T.e (.tmp 17) (.tmp 19) h c w (dk e a w)) fun a=>Q5 e (fun f=> ∀d w,k w→a d w→R6 P T.c l (some d) none none w (dk e f w)) fun f=>∀i c d j w,k w→g i w→b c w→a d w→f j w→ K (.tuple #[i,j,(.bool true)]) w) (K (.tuple #[l,(.string ⟨#[]⟩),(.bool false)]) w)
theorem Q1Y {a b:Value} {w:World} {K:Value→World→Prop} (h:Ho a b w K):Q1 P F.cJ [a,b] w K:=Q9 (List.replicate 6 none) Tryz.func229 rfl (by decide) (by kernel_rfl) h
def Tg (e f:Value) (w:World) (K:Value→World→Prop):Prop:= Q1 P F.cJ [e,f] w fun c w=>ext P c 0 w fun d w=>ext P c 1 w fun a w=>ext P c 2 w fun b w=>K (.tuple #[d,a,b]) w
theorem Q4O {a b:Value} {w:World} {K:Value→World→Prop} (h:Tg a b w K):Q1 P F.cB [a,b] w K:=Q9 (List.replicate 2 none) Tryz.func224 rfl (by decide) (by kernel_rfl) h
end Go.Proofs.YtjdiakhipmggjaaGreatDoor

set_option maxRecDepth 100000
namespace Go.Proofs.YtjdiakhipmggjaaGreatDoor
open Go.Emb
def Q0F (t:Value) (w:World) (K:Value→World→Prop):Prop:= Q1 P F.cB [t,(.string ⟨#[46]⟩)] w fun d w=>ext P d 0 w fun f w=>ext P d 1 w fun e w=>ext P d 2 w fun s w=>J8 P .not s w fun b w=>Q0 b false w (fun w J=>J f w) fun n w=>Q0 b false w (Q1 P F.ak [n]) fun o w=>Q0 b false w (J8 P .not o) fun q w=>pick P b (.bool true) q w fun c w=>Q0 c false w (fun w J=>J e w) fun k w=>Q0 c false w (Q1 P F.c6 [k]) fun p w=>Q0 c false w (J8 P .not p) fun h w=>pick P c (.bool true) h w fun a w=>Q0 a false w (fun w J=>J e w) fun l w=>Q0 a false w (C2 P T.c l (.int .i64 0)) fun j w=>Q0 a false w (conv P T.a3 T.an j) fun r w=>Q0 a false w (Q1 P F.cl [r]) fun m w=>Q0 a false w (J8 P .not m) fun i w=>pick P a (.bool true) i w fun g w=>X1 g (K (.tuple #[(.string ⟨#[]⟩),(.string ⟨#[]⟩),(.int .i64 30)]) w) (K (.tuple #[f,e,(.int .i64 0)]) w)
theorem Q5G {a:Value} {w:World} {K:Value→World→Prop} (h:Q0F a w K):Q1 P F.cI [a] w K:=Q9 (List.replicate 6 none) Tryz.func211 rfl (by decide) (by kernel_rfl) h
def Q6C:V7:=[none,none,none,none,none,none,none,some ([27],[27,28,29]),none,none,none,none,none,none]
def Q29 (g d:Value) (w:World) (K:Value→World→Prop):Prop:= Q3 P .eql T.c (.tmp 8) (.const (.string ⟨#[119,111,114,100]⟩)) g (.string ⟨#[119,111,114,100]⟩) w fun r w=>X1 r (X2 P .len [T.c] T.e [false] [d] w fun D w=>Q3 P .leq T.e (.tmp 12) (.const (.int .i64 64)) D (.int .i64 64) w fun f w=>Q0 f true w (fun w J=>J d w) fun C w=>Q0 f true w (Q1 P F.aZ [C]) fun A w=>pick P f A (.bool false) w fun c w=>Q0 c true w (fun w J=>J d w) fun v w=>Q0 c true w (Q1 P F.cE [v,(.string ⟨#[10]⟩)]) fun H w=>Q0 c true w (J8 P .not H) fun o w=>pick P c o (.bool false) w fun p w=>K p w) (Q3 P .eql T.c (.tmp 8) (.const (.string ⟨#[110,101,119]⟩)) g (.string ⟨#[110,101,119]⟩) w fun i w=>X1 i (Q1 P F.ak [d] w fun t w=>K t w) (jn (α:=Value) w (fun L w=>Q3 P .eql T.c (.tmp 8) (.const (.string ⟨#[105,115]⟩)) g (.string ⟨#[105,115]⟩) w fun h w=>X1 h (L h w) (Q3 P .eql T.c (.tmp 8) (.const (.string ⟨#[99,97,115,116]⟩)) g (.string ⟨#[99,97,115,116]⟩) w fun y w=>L y w)) fun N Q w=>X1 N (Q1 P F.z [d] w fun a w=>Q0 a true w (fun w J=>J d w) fun E w=>Q0 a true w (Q1 P F.aN [E]) fun l w=>Q0 a true w (J8 P .not l) fun B w=>pick P a B (.bool false) w fun m w=>K m w) (Q3 P .eql T.c (.tmp 8) (.const (.string ⟨#[97,114,114,97,121]⟩)) g (.string ⟨#[97,114,114,97,121]⟩) w fun n w=>X1 n (Q1 P F.z [d] w fun b w=>Q0 b true w (fun w J=>J d w) fun u w=>Q0 b true w (Q1 P F.cw [u]) fun q w=>Q0 b true w (Q3 P .lss T.e (.tmp 43) (.const (.int .i64 3)) q (.int .i64 3)) fun j w=>pick P b j (.bool false) w fun z w=>K z w) (Q1 P F.cI [d] w fun e w=>ext P e 0 w fun O w=>ext P e 1 w fun M w=>ext P e 2 w fun s w=>Q3 P .eql T.y (.tmp 52) (.const (.int .i64 0)) s (.int .i64 0) w fun k w=>K k w))))
theorem Q6Q {a b:Value} {w:World} {K:Value→World→Prop} (h:Q29 a b w K):Q1 P F.cL [a,b] w K:=Q9 Q6C Tryz.func197 rfl (by decide) (by kernel_rfl) h
def Q65:V7:=[none,none,none,none,none,some ([16],[16,17,18,19,20,21,22,23,24,25,26,27,28,29,30,31,32,33,34,35,36,37,38,39]),none,none,none,none]
def Q0V (B:Value) (w:World) (K:Value→World→Prop):Prop:= box P T.v B w fun a w=>fieldAddr P T.v a 0 w fun A w=>Q2 P T.c A w fun C w=>Q1 P F.cm [C] w fun r w=>ext P r 0 w fun o w=>ext P r 1 w fun b w=>ext P r 2 w fun v w=>J8 P .not v w fun u w=>X1 u (K (.int .i64 40) w) (jn (α:=Value) w (fun p w=>J8 P .not o w fun d w=>Q0 d true w (fieldAddr P T.v a 1) fun z w=>Q0 d true w (Q2 P T.a1 z) fun k w=>Q0 d true w (Q3 P .neq T.a1 (.tmp 21) (.const (.int .i64 0)) k (.int .i64 0)) fun m w=>pick P d m (.bool false) w fun f w=>X1 f (p f w) (J8 P .not b w fun c w=>Q0 c true w (fieldAddr P T.v a 2) fun n w=>Q0 c true w (Q2 P T.c n) fun l w=>Q0 c true w (Q3 P .neq T.c (.tmp 28) (.const (.string ⟨#[]⟩)) l (.string ⟨#[]⟩)) fun q w=>pick P c q (.bool false) w fun e w=>X1 e (p e w) (Q0 b true w (fieldAddr P T.v a 0) fun y w=>Q0 b true w (Q2 P T.c y) fun g w=>Q0 b true w (fieldAddr P T.v a 2) fun s w=>Q0 b true w (Q2 P T.c s) fun i w=>Q0 b true w (Q1 P F.cL [g,i]) fun h w=>Q0 b true w (J8 P .not h) fun j w=>pick P b j (.bool false) w fun t w=>p t w))) fun D E w=>X1 D (K (.int .i64 41) w) (K (.int .i64 0) w))
theorem Q64 {a:Value} {w:World} {K:Value→World→Prop} (h:Q0V a w K):Q1 P F.cH [a] w K:=Q9 Q65 Tryz.func174 rfl (by decide) (by kernel_rfl) h
def Ci (c:Value) (w:World) (K:Value→World→Prop):Prop:= box P T.v c w fun a w=>Q2 P T.v a w fun e w=>Q1 P F.cH [e] w fun d w=>Q3 P .eql T.y (.tmp 4) (.const (.int .i64 0)) d (.int .i64 0) w fun b w=>K b w
theorem Q2x {a:Value} {w:World} {K:Value→World→Prop} (h:Ci a w K):Q1 P F.bh [a] w K:=Q9 (List.replicate 2 none) Tryz.func173 rfl (by decide) (by kernel_rfl) h
def Yj:V7:=[none,none,none,some ([8],[4,5,8,9,10,11,12,13,14,15,16,17,18]),none,none,none,none,none,none,none]
def G3 (g j:Value) (w:World) (K:Value→World→Prop):Prop:= X2 P .len [T.s] T.e [false] [g] w fun h w=>lp (α:=Value) (.int .i64 0) w fun a b k w=>Q3 P .lss T.e (.tmp 8) (.tmp 7) b h w fun i w=>X1 i (indexAddr P T.s g b w fun d w=>Q2 P T.t d w fun e w=>Z3 P j [e] w fun f w=>X1 f (K b w) (Q3 P .add T.e (.tmp 8) (.const (.int .i64 1)) b (.int .i64 1) w fun c w=>a c w)) (K (.int .i64 (-1)) w)
theorem Ys {a b:Value} {w:World} {K:Value→World→Prop} (h:G3 a b w K):Q1 P F.a6 [a,b] w K:=Q9 Yj Tryz.func212 rfl (by decide) (by kernel_rfl) h
def B1 (b d:Value) (w:World) (K:Value→World→Prop):Prop:= Q1 P F.a6 [b,d] w fun a w=>Q3 P .geq T.e (.tmp 7) (.const (.int .i64 0)) a (.int .i64 0) w fun c w=>K c w
theorem Xb {a b:Value} {w:World} {K:Value→World→Prop} (h:B1 a b w K):Q1 P F.m [a,b] w K:=Q9 (List.replicate 2 none) Tryz.func198 rfl (by decide) (by kernel_rfl) h
def Jg (d g:Value) (w:World) (K:Value→World→Prop):Prop:= box P T.t d w fun a w=>Q2 P T.ah g w fun e w=>Q2 P T.t a w fun b w=>Z3 P e [b] w fun f w=>J8 P .not f w fun c w=>K c w
theorem Rb {a b:Value} {w:World} {K:Value→World→Prop} (h:Jg a b w K):Q1 P F.bZ [a,b] w K:=Q9 (List.replicate 2 none) Tryz.func199 rfl (by decide) (by kernel_rfl) h
def Va (c f:Value) (w:World) (K:Value→World→Prop):Prop:= box P T.ah f w fun a w=>H1 P (.func F.bZ) [] [a] w fun e w=>Q1 P F.m [c,e] w fun b w=>J8 P .not b w fun d w=>K d w
theorem Cr {a b:Value} {w:World} {K:Value→World→Prop} (h:Va a b w K):Q1 P F.av [a,b] w K:=Q9 (List.replicate 2 none) Tryz.func175 rfl (by decide) (by kernel_rfl) h
def Gw (a0:Value) (w:World) (K:Value→World→Prop):Prop:= box P T.d a0 w fun b w=>fieldAddr P T.d b 0 w fun t5 w=>Q2 P T.c t5 w fun t6 w=>Q1 P F.bT [t6] w fun t7 w=>J8 P .not t7 w fun i w=>Q0 i false w (fieldAddr P T.d b 1) fun R w=>Q0 i false w (Q2 P T.h R) fun u w=>Q0 i false w (Q1 P F.a9 [u,(.func (.func F.z) #[] #[])]) fun ah w=>Q0 i false w (J8 P .not ah) fun ag w=>pick P i (.bool true) ag w fun c w=>Q0 c false w (fieldAddr P T.d b 2) fun ab w=>Q0 c false w (Q2 P T.c ab) fun O w=>Q0 c false w (Q3 P .neq T.c (.tmp 17) (.const (.string ⟨#[]⟩)) O (.string ⟨#[]⟩)) fun U w=>Q0 c false w (fun w J=>J U w) fun g w=>Q0 g true w (fieldAddr P T.d b 2) fun am w=>Q0 g true w (Q2 P T.c am) fun A w=>Q0 g true w (Q1 P F.z [A]) fun E w=>Q0 g true w (J8 P .not E) fun Y w=>Q0 c false w (pick P g Y (.bool false)) fun l w=>pick P c (.bool true) l w fun H w=>X1 H (K (.bool false) w) (fieldAddr P T.d b 3 w fun W w=>Q2 P T.u W w fun L w=>X1 L (fieldAddr P T.d b 4 w fun C w=>Q2 P T.e C w fun Z w=>Q3 P .eql T.e (.tmp 29) (.const (.int .i64 0)) Z (.int .i64 0) w fun f w=>Q0 f true w (fieldAddr P T.d b 5) fun j w=>Q0 f true w (Q2 P T.q j) fun ai w=>Q0 f true w (X2 P .len [T.q] T.e [false] [ai]) fun s w=>Q0 f true w (Q3 P .eql T.e (.tmp 34) (.const (.int .i64 0)) s (.int .i64 0)) fun ad w=>pick P f ad (.bool false) w fun d w=>Q0 d true w (fieldAddr P T.d b 6) fun z w=>Q0 d true w (Q2 P T.s z) fun ae w=>Q0 d true w (X2 P .len [T.s] T.e [false] [ae]) fun D w=>Q0 d true w (Q3 P .eql T.e (.tmp 40) (.const (.int .i64 0)) D (.int .i64 0)) fun t w=>pick P d t (.bool false) w fun X w=>K X w) (fieldAddr P T.d b 5 w fun M w=>Q2 P T.q M w fun n w=>X2 P .len [T.q] T.e [false] [n] w fun aa w=>W1 P T.e w fun B w=>X9 P T.e B aa w fun _u w=>H1 P (.func F.bg) [] [B] w fun o w=>Q2 P T.e B w fun ak w=>Q3 P .gtr T.e (.tmp 47) (.const (.int .i64 0)) ak (.int .i64 0) w fun a w=>Q0 a true w (fieldAddr P T.d b 4) fun r w=>Q0 a true w (Q2 P T.e r) fun V w=>Q0 a true w (fieldAddr P T.d b 1) fun v w=>Q0 a true w (Q2 P T.h v) fun p w=>Q0 a true w (X2 P .len [T.h] T.e [false] [p]) fun k w=>Q0 a true w (Q3 P .gtr T.e (.tmp 51) (.tmp 54) V k) fun y w=>pick P a y (.bool false) w fun h w=>Q0 h true w (fieldAddr P T.d b 5) fun q w=>Q0 h true w (Q2 P T.q q) fun Q w=>Q0 h true w (Q1 P F.au [Q,(.func (.func F.bh) #[] #[])]) fun N w=>pick P h N (.bool false) w fun e w=>Q0 e true w (fieldAddr P T.d b 6) fun af w=>Q0 e true w (Q2 P T.s af) fun al w=>Q0 e true w (fun w J=>J o w) fun m w=>Q0 e true w (Q1 P F.av [al,m]) fun aj w=>pick P e aj (.bool false) w fun ac w=>K ac w))
theorem Q3L {a:Value} {w:World} {K:Value→World→Prop} (h:Gw a w K):Q1 P F.b9 [a] w K:=Q9 (List.replicate 10 none) Tryz.func135 rfl (by decide) (by kernel_rfl) h
def Td (a0:Value) (w:World) (K:Value→World→Prop):Prop:= box P T.b a0 w fun b w=>fieldAddr P T.b b 0 w fun t7 w=>Q2 P T.c t7 w fun t8 w=>fieldAddr P T.b b 1 w fun t9 w=>Q2 P T.c t9 w fun a6 w=>buildSlice P T.h 2 [(0,t8),(1,a6)] w fun av w=>fieldAddr P T.b b 2 w fun bc w=>Q2 P T.h bc w fun ac w=>X2 P .append [T.h,T.h] T.h [false,false] [av,ac] w fun r w=>dr w fun o u=>Q5 o (fun m=> ∀w,u w→R6 P T.h r (some (.int .i64 1)) none none w (dk o m w)) fun m=>Q5 o (fun f=> ∀w,u w→fieldAddr P T.b b 0 w (dk o f w)) fun f=>Q5 o (fun l=> ∀j w,u w→f j w→Q2 P T.c j w (dk o l w)) fun l=>∀t j s w,u w→m t w→f j w→l s w→ Q1 P F.ag [t,s] w fun W w=>fieldAddr P T.b b 7 w fun ag w=>Q2 P T.j ag w fun N w=>Q1 P F.a [N,(.func (.func F.cn) #[] #[])] w fun a1 w=>fieldAddr P T.b b 7 w fun U w=>Q2 P T.j U w fun ak w=>Q1 P F.a [ak,(.func (.func F.co) #[] #[])] w fun a2 w=>Q1 P F.a9 [r,(.func (.func F.ak) #[] #[])] w fun ay w=>J8 P .not ay w fun q w=>Q0 q false w (fun w J=>J W w) fun ao w=>pick P q (.bool true) ao w fun d w=>Q0 d false w (fieldAddr P T.b b 2) fun ar w=>Q0 d false w (Q2 P T.h ar) fun Z w=>Q0 d false w (Q1 P F.aT [Z,(.func (.func F.cp) #[] #[])]) fun L w=>Q0 d false w (J8 P .not L) fun E w=>pick P d (.bool true) E w fun M w=>X1 M (K (.bool false) w) (fieldAddr P T.b b 3 w fun O w=>Q2 P T.u O w fun a w=>Q0 a true w (fieldAddr P T.b b 4) fun a3 w=>Q0 a true w (Q2 P T.u a3) fun am w=>Q0 a true w (J8 P .not am) fun a9 w=>Q0 a true w (fun w J=>J a9 w) fun h w=>Q0 h false w (fieldAddr P T.b b 1) fun bd w=>Q0 h false w (Q2 P T.c bd) fun az w=>Q0 h false w (Q3 P .neq T.c (.tmp 48) (.const (.string ⟨#[79,98,106,101,99,116]⟩)) az (.string ⟨#[79,98,106,101,99,116]⟩)) fun a8 w=>Q0 a true w (pick P h (.bool true) a8) fun aq w=>Q0 a true w (fun w J=>J aq w) fun e w=>Q0 e false w (fieldAddr P T.b b 6) fun D w=>Q0 e false w (Q2 P T.k D) fun an w=>Q0 e false w (X2 P .len [T.k] T.e [false] [an]) fun ah w=>Q0 e false w (Q3 P .gtr T.e (.tmp 54) (.const (.int .i64 0)) ah (.int .i64 0)) fun H w=>Q0 a true w (pick P e (.bool true) H) fun ax w=>Q0 a true w (fun w J=>J ax w) fun p w=>Q0 p false w (fun w J=>J a2 w) fun z w=>Q0 a true w (pick P p (.bool true) z) fun R w=>pick P a R (.bool false) w fun a4 w=>X1 a4 (K (.bool false) w) (fieldAddr P T.b b 4 w fun al w=>Q2 P T.u al w fun n w=>Q0 n true w (fieldAddr P T.b b 5) fun ai w=>Q0 n true w (Q2 P T.u ai) fun ad w=>pick P n ad (.bool false) w fun g w=>Q0 g false w (fun w J=>J a1 w) fun aw w=>Q0 g false w (fun w J=>J aw w) fun k w=>Q0 k true w (fieldAddr P T.b b 4) fun A w=>Q0 k true w (Q2 P T.u A) fun C w=>Q0 k true w (J8 P .not C) fun v w=>Q0 g false w (pick P k v (.bool false)) fun aj w=>pick P g (.bool true) aj w fun Y w=>X1 Y (K (.bool false) w) (fieldAddr P T.b b 6 w fun ba w=>Q2 P T.k ba w fun V w=>Q1 P F.aE [V,(.func (.func F.cq) #[] #[])] w fun aa w=>J8 P .not aa w fun c w=>Q0 c false w (fieldAddr P T.b b 7) fun X w=>Q0 c false w (Q2 P T.j X) fun af w=>Q0 c false w (Q1 P F.ap [af,(.func (.func F.cr) #[] #[])]) fun y w=>Q0 c false w (J8 P .not y) fun a5 w=>pick P c (.bool true) a5 w fun ap w=>X1 ap (K (.bool false) w) (fieldAddr P T.b b 6 w fun B w=>Q2 P T.k B w fun ab w=>Q1 P F.aq [ab,(.func (.func F.bw) #[] #[])] w fun i w=>Q0 i true w (fieldAddr P T.b b 7) fun Q w=>Q0 i true w (Q2 P T.j Q) fun ae w=>Q0 i true w (Q1 P F.an [ae,(.func (.func F.b9) #[] #[])]) fun bb w=>pick P i bb (.bool false) w fun a7 w=>K a7 w))))
theorem Q4G {a:Value} {w:World} {K:Value→World→Prop} (h:Td a w K):Q1 P F.cA [a] w K:=Q9 (List.replicate 15 none) Tryz.func78 rfl (by decide) (by kernel_rfl) h
def Tc (e:Value) (w:World) (K:Value→World→Prop):Prop:= box P T.b e w fun a w=>Q2 P T.b a w fun d w=>Q1 P F.cG [d] w fun b w=>X1 b (K (.int .i64 51) w) (Q2 P T.b a w fun c w=>Q1 P F.cA [c] w fun f w=>J8 P .not f w fun g w=>X1 g (K (.int .i64 50) w) (K (.int .i64 0) w))
theorem Q4K {a:Value} {w:World} {K:Value→World→Prop} (h:Tc a w K):Q1 P F.cy [a] w K:=Q9 (List.replicate 7 none) Tryz.func42 rfl (by decide) (by kernel_rfl) h
def Qi (a:Value) (w:World) (K:Value→World→Prop):Prop:= Q3 P .eql T.h (.tmp 3) (.const (.slice none 0 0)) a (.slice none 0 0) w fun d w=>X1 d (K (.slice none 0 0) w) (buildSlice P T.h 0 [] w fun b w=>X2 P .append [T.h,T.h] T.h [false,false] [b,a] w fun c w=>K c w)
theorem Mq {a:Value} {w:World} {K:Value→World→Prop} (h:Qi a w K):Q1 P F.a7 [a] w K:=Q9 (List.replicate 5 none) Tryz.func79 rfl (by decide) (by kernel_rfl) h
def K9 (a:Value) (w:World) (K:Value→World→Prop):Prop:= Q3 P .eql T.k (.tmp 3) (.const (.slice none 0 0)) a (.slice none 0 0) w fun d w=>X1 d (K (.slice none 0 0) w) (buildSlice P T.k 0 [] w fun b w=>X2 P .append [T.k,T.k] T.k [false,false] [b,a] w fun c w=>K c w)
theorem Jj {a:Value} {w:World} {K:Value→World→Prop} (h:K9 a w K):Q1 P F.ac [a] w K:=Q9 (List.replicate 5 none) Tryz.func80 rfl (by decide) (by kernel_rfl) h
def K8 (a:Value) (w:World) (K:Value→World→Prop):Prop:= Q3 P .eql T.q (.tmp 3) (.const (.slice none 0 0)) a (.slice none 0 0) w fun d w=>X1 d (K (.slice none 0 0) w) (buildSlice P T.q 0 [] w fun b w=>X2 P .append [T.q,T.q] T.q [false,false] [b,a] w fun c w=>K c w)
theorem Jn {a:Value} {w:World} {K:Value→World→Prop} (h:K8 a w K):Q1 P F.ad [a] w K:=Q9 (List.replicate 5 none) Tryz.func136 rfl (by decide) (by kernel_rfl) h
def K7 (a:Value) (w:World) (K:Value→World→Prop):Prop:= Q3 P .eql T.s (.tmp 3) (.const (.slice none 0 0)) a (.slice none 0 0) w fun d w=>X1 d (K (.slice none 0 0) w) (buildSlice P T.s 0 [] w fun b w=>X2 P .append [T.s,T.s] T.s [false,false] [b,a] w fun c w=>K c w)
theorem Jv {a:Value} {w:World} {K:Value→World→Prop} (h:K7 a w K):Q1 P F.ae [a] w K:=Q9 (List.replicate 5 none) Tryz.func137 rfl (by decide) (by kernel_rfl) h
def Th (D:Value) (w:World) (K:Value→World→Prop):Prop:= box P T.d D w fun a w=>W1 P T.d w fun B w=>dr w fun b c=>Q5 b (fun o=> ∀w,c w→fieldAddr P T.d a 1 w (dk b o w)) fun o=>Q5 b (fun n=> ∀w,c w→fieldAddr P T.d a 5 w (dk b n w)) fun n=>Q5 b (fun s=> ∀w,c w→fieldAddr P T.d a 6 w (dk b s w)) fun s=>Q5 b (fun q=> ∀k w,c w→o k w→Q2 P T.h k w (dk b q w)) fun q=>Q5 b (fun t=> ∀m w,c w→q m w→Q1 P F.a7 [m] w (dk b t w)) fun t=>Q5 b (fun r=> ∀l w,c w→n l w→Q2 P T.q l w (dk b r w)) fun r=>Q5 b (fun u=> ∀j w,c w→r j w→Q1 P F.ad [j] w (dk b u w)) fun u=>Q5 b (fun e=> ∀p w,c w→s p w→Q2 P T.s p w (dk b e w)) fun e=>Q5 b (fun f=> ∀w,c w→fieldAddr P T.d a 1 w (dk b f w)) fun f=>Q5 b (fun g=> ∀d w,c w→e d w→Q1 P F.ae [d] w (dk b g w)) fun g=>∀k l p m A j C d i h w,c w→o k w→n l w→s p w→q m w→t A w→r j w→u C w→e d w→f i w→g h w→ X9 P T.h i A w fun _u w=>fieldAddr P T.d a 5 w fun z w=>X9 P T.q z C w fun _u w=>fieldAddr P T.d a 6 w fun v w=>X9 P T.s v h w fun _u w=>Q2 P T.d a w fun y w=>X9 P T.d B y w fun _u w=>Y7 P T.d B w fun E=>K E w
theorem Q4I {a:Value} {w:World} {K:Value→World→Prop} (h:Th a w K):Q1 P F.c8 [a] w K:=Q9 (List.replicate 3 none) Tryz.func81 rfl (by decide) (by kernel_rfl) h
def Q4N:V7:=[none,none,none,none,none,some ([3,17],[3,5,17,18,19,20,21,22,23,24,25,26]),none,none,none,none,none,none]
def Tf (Q:Value) (w:World) (K:Value→World→Prop):Prop:= box P T.b Q w fun a w=>W1 P T.b w fun N w=>dr w fun b g=>Q5 b (fun p=> ∀w,g w→fieldAddr P T.b a 2 w (dk b p w)) fun p=>Q5 b (fun s=> ∀w,g w→fieldAddr P T.b a 6 w (dk b s w)) fun s=>Q5 b (fun r=> ∀o w,g w→p o w→Q2 P T.h o w (dk b r w)) fun r=>Q5 b (fun H=> ∀n w,g w→r n w→Q1 P F.a7 [n] w (dk b H w)) fun H=>Q5 b (fun e=> ∀q w,g w→s q w→Q2 P T.k q w (dk b e w)) fun e=>Q5 b (fun h=> ∀w,g w→fieldAddr P T.b a 2 w (dk b h w)) fun h=>Q5 b (fun i=> ∀d w,g w→e d w→Q1 P F.ac [d] w (dk b i w)) fun i=>∀o q n O d m k w,g w→p o w→s q w→r n w→H O w→e d w→h m w→i k w→ X9 P T.h m O w fun _u w=>fieldAddr P T.b a 6 w fun L w=>X9 P T.k L k w fun _u w=>fieldAddr P T.b a 7 w fun J w=>Q2 P T.j J w fun l w=>X2 P .len [T.j] T.e [false] [l] w fun E w=>lp (α:=Value×Value) ((.slice none 0 0),(.int .i64 0)) w fun f j U w=>Q3 P .lss T.e (.tmp 17) (.tmp 16) j.2 E w fun z w=>X1 z (indexAddr P T.j l j.2 w fun C w=>Q2 P T.d C w fun M w=>W1 P T.d w fun c w=>X9 P T.d c M w fun _u w=>Q2 P T.d c w fun v w=>Q1 P F.c8 [v] w fun B w=>buildSlice P T.j 1 [(0,B)] w fun t w=>X2 P .append [T.j,T.j] T.j [false,false] [j.1,t] w fun y w=>Q3 P .add T.e (.tmp 17) (.const (.int .i64 1)) j.2 (.int .i64 1) w fun A w=>f (y,A) w) (fieldAddr P T.b a 7 w fun u w=>X9 P T.j u j.1 w fun _u w=>Q2 P T.b a w fun D w=>X9 P T.b N D w fun _u w=>Y7 P T.b N w fun R=>K R w)
theorem Q4M {a:Value} {w:World} {K:Value→World→Prop} (h:Tf a w K):Q1 P F.cz [a] w K:=Q9 Q4N Tryz.func43 rfl (by decide) (by kernel_rfl) h
def Up (f h:Value) (w:World) (K:Value→World→Prop):Prop:= nilCheck P f w fun g w=>fieldAddr P T.a0 g 1 w fun d w=>Q2 P T.a2 d w fun b w=>lookup P T.a2 b h true w fun a w=>ext P a 0 w fun e w=>ext P a 1 w fun c w=>K c w
theorem Ea {a b:Value} {w:World} {K:Value→World→Prop} (h:Up a b w K):Q1 P F.j [a,b] w K:=Q9 (List.replicate 3 none) Tryz.func44 rfl (by decide) (by kernel_rfl) h
def Lv (r u:Value) (w:World) (K:Value→World→Prop):Prop:= W1 P T.b w fun t w=>dr w fun a h=>Q5 a (fun m=> ∀w,h w→nilCheck P r w (dk a m w)) fun m=>Q5 a (fun n=> ∀l w,h w→m l w→fieldAddr P T.a0 l 0 w (dk a n w)) fun n=>Q5 a (fun f=> ∀w,h w→nilCheck P r w (dk a f w)) fun f=>Q5 a (fun d=> ∀e w,h w→f e w→fieldAddr P T.a0 e 1 w (dk a d w)) fun d=>Q5 a (fun p=> ∀k w,h w→n k w→Q2 P T.i k w (dk a p w)) fun p=>Q5 a (fun b=> ∀c w,h w→d c w→Q2 P T.a2 c w (dk a b w)) fun b=>Q5 a (fun i=> ∀g w,h w→b g w→lookup P T.a2 g u false w (dk a i w)) fun i=>∀l k e c s g j w,h w→m l w→n k w→f e w→d c w→p s w→b g w→i j w→ indexAddr P T.i s j w fun q w=>Q2 P T.b q w fun o w=>X9 P T.b t o w fun _u w=>Y7 P T.b t w fun v=>K v w
theorem Kj {a b:Value} {w:World} {K:Value→World→Prop} (h:Lv a b w K):Q1 P F.h [a,b] w K:=Q9 (List.replicate 2 none) Tryz.func82 rfl (by decide) (by kernel_rfl) h
def Gr:V7:=[none,none,none,none,none,none,some ([29],[4,6,29,30,31,32,33,34,35,36,37,38,39,40,41,42,43,44]),none,none,none,none,none,none,none]
def Lj (g R:Value) (w:World) (K:Value→World→Prop):Prop:= box P T.b R w fun a w=>fieldAddr P T.b a 1 w fun O w=>Q2 P T.c O w fun Q w=>Q1 P F.j [g,Q] w fun v w=>J8 P .not v w fun b w=>Q0 b false w (fun w J=>J g w) fun M w=>Q0 b false w (fieldAddr P T.b a 1) fun E w=>Q0 b false w (Q2 P T.c E) fun L w=>Q0 b false w (Q1 P F.h [M,L]) fun C w=>Q0 b false w (F3 P T.b C 3) fun u w=>pick P b (.bool true) u w fun d w=>Q0 d false w (fun w J=>J g w) fun N w=>Q0 d false w (fieldAddr P T.b a 1) fun n w=>Q0 d false w (Q2 P T.c n) fun q w=>Q0 d false w (Q1 P F.h [N,q]) fun B w=>Q0 d false w (F3 P T.b B 5) fun i w=>pick P d (.bool true) i w fun r w=>X1 r (K (.int .i64 61) w) (fieldAddr P T.b a 2 w fun z w=>Q2 P T.h z w fun h w=>X2 P .len [T.h] T.e [false] [h] w fun o w=>lp (α:=Value) (.int .i64 0) w fun e y U w=>Q3 P .lss T.e (.tmp 29) (.tmp 28) y o w fun t w=>X1 t (indexAddr P T.h h y w fun k w=>Q2 P T.c k w fun f w=>Q1 P F.j [g,f] w fun D w=>J8 P .not D w fun c w=>Q0 c false w (fun w J=>J g w) fun m w=>Q0 c false w (fun w J=>J f w) fun H w=>Q0 c false w (Q1 P F.h [m,H]) fun p w=>Q0 c false w (F3 P T.b p 3) fun l w=>Q0 c false w (J8 P .not l) fun A w=>pick P c (.bool true) A w fun s w=>X1 s (K (.int .i64 62) w) (Q3 P .add T.e (.tmp 29) (.const (.int .i64 1)) y (.int .i64 1) w fun j w=>e j w)) (K (.int .i64 0) w))
theorem Fm {a b:Value} {w:World} {K:Value→World→Prop} (h:Lj a b w K):Q1 P F.ba [a,b] w K:=Q9 Gr Tryz.func45 rfl (by decide) (by kernel_rfl) h
def Yg:V7:=[none,none,none,some ([8],[4,5,8,9,10,11,12,13,14,15,16,17,18]),none,none,none,none,none,none,none]
def G7 (g j:Value) (w:World) (K:Value→World→Prop):Prop:= X2 P .len [T.i] T.e [false] [g] w fun h w=>lp (α:=Value) (.int .i64 0) w fun a b k w=>Q3 P .lss T.e (.tmp 8) (.tmp 7) b h w fun i w=>X1 i (indexAddr P T.i g b w fun d w=>Q2 P T.b d w fun e w=>Z3 P j [e] w fun f w=>X1 f (K b w) (Q3 P .add T.e (.tmp 8) (.const (.int .i64 1)) b (.int .i64 1) w fun c w=>a c w)) (K (.int .i64 (-1)) w)
theorem Yh {a b:Value} {w:World} {K:Value→World→Prop} (h:G7 a b w K):Q1 P F.o [a,b] w K:=Q9 Yg Tryz.func46 rfl (by decide) (by kernel_rfl) h
def Pv:V7:=[none,none,none,some ([7],[6,7,9,10,11,12,16,17,18,19,20,21,22,23,24,25,26,27,28,29,30,31,32,33,34,35,36,37,38,39,40,41,42,43,44,45,46,47,48,49,50,51,52]),none,none,none,none,none,none,none,none,none,none,none,none,none]
def Nd (R W V:Value) (w:World) (K:Value→World→Prop):Prop:= buildSlice P T.h 1 [(0,W)] w fun N w=>Ko P T.a2 none w fun u w=>lp (α:=Value) N w fun b L X w=>X2 P .len [T.h] T.e [false] [L] w fun E w=>Q3 P .gtr T.e (.tmp 17) (.const (.int .i64 0)) E (.int .i64 0) w fun H w=>X1 H (indexAddr P T.h L (.int .i64 0) w fun Q w=>Q2 P T.c Q w fun j w=>R6 P T.h L (some (.int .i64 1)) none none w fun t w=>lookup P T.a2 u j true w fun q w=>ext P q 0 w fun U w=>ext P q 1 w fun d w=>Q0 d false w (fun w J=>J R w) fun v w=>Q0 d false w (fun w J=>J j w) fun O w=>Q0 d false w (Q1 P F.j [v,O]) fun z w=>Q0 d false w (J8 P .not z) fun M w=>pick P d (.bool true) M w fun C w=>X1 C (b t w) (mapUpdate P T.a2 u j (.int .i64 1) w fun _u w=>Q1 P F.h [R,j] w fun A w=>W1 P T.b w fun a w=>X9 P T.b a A w fun _u w=>Q2 P T.b a w fun D w=>Z3 P V [D] w fun y w=>X1 y (K (.bool true) w) (dr w fun c p=>Q5 c (fun g=> ∀w,p w→fieldAddr P T.b a 1 w (dk c g w)) fun g=>Q5 c (fun k=> ∀w,p w→fieldAddr P T.b a 2 w (dk c k w)) fun k=>Q5 c (fun i=> ∀f w,p w→g f w→Q2 P T.c f w (dk c i w)) fun i=>Q5 c (fun e=> ∀m w,p w→i m w→buildSlice P T.h 1 [(0,m)] w (dk c e w)) fun e=>Q5 c (fun n=> ∀l w,p w→e l w→X2 P .append [T.h,T.h] T.h [false,false] [t,l] w (dk c n w)) fun n=>Q5 c (fun o=> ∀h w,p w→k h w→Q2 P T.h h w (dk c o w)) fun o=>∀f h m l r s w,p w→g f w→k h w→i m w→e l w→n r w→o s w→ X2 P .append [T.h,T.h] T.h [false,false] [r,s] w fun B w=>b B w))) (K (.bool false) w)
theorem Pz {b c a:Value} {w:World} {K:Value→World→Prop} (h:Nd b c a w K):Q1 P F.w [b,c,a] w K:=Q9 Pv Tryz.func84 rfl (by decide) (by kernel_rfl) h
def Uk (d h:Value) (w:World) (K:Value→World→Prop):Prop:= box P T.b d w fun a w=>fieldAddr P T.b a 0 w fun e w=>Q2 P T.c e w fun b w=>fieldAddr P T.b h 0 w fun g w=>Q2 P T.c g w fun c w=>Q3 P .eql T.c (.tmp 5) (.tmp 7) b c w fun f w=>K f w
theorem Rw {a b:Value} {w:World} {K:Value→World→Prop} (h:Uk a b w K):Q1 P F.c9 [a,b] w K:=Q9 (List.replicate 2 none) Tryz.func85 rfl (by decide) (by kernel_rfl) h
def Vz (d f b:Value) (w:World) (K:Value→World→Prop):Prop:= Q2 P T.r f w fun a w=>H1 P (.func F.c9) [] [b] w fun c w=>Q1 P F.w [a,d,c] w fun e w=>K e w
theorem Bs {b c a:Value} {w:World} {K:Value→World→Prop} (h:Vz b c a w K):Q1 P F.b7 [b,c,a] w K:=Q9 (List.replicate 2 none) Tryz.func83 rfl (by decide) (by kernel_rfl) h
def Mu (j m:Value) (w:World) (K:Value→World→Prop):Prop:= box P T.r j w fun c w=>box P T.b m w fun a w=>H1 P (.func F.b7) [] [c,a] w fun i w=>fieldAddr P T.b a 1 w fun k w=>Q2 P T.c k w fun l w=>Z3 P i [l] w fun b w=>Q0 b false w (fieldAddr P T.b a 2) fun g w=>Q0 b false w (Q2 P T.h g) fun f w=>Q0 b false w (fun w J=>J i w) fun d w=>Q0 b false w (Q1 P F.c [f,d]) fun e w=>pick P b (.bool true) e w fun h w=>K h w
theorem Pb {a b:Value} {w:World} {K:Value→World→Prop} (h:Mu a b w K):Q1 P F.bi [a,b] w K:=Q9 (List.replicate 3 none) Tryz.func47 rfl (by decide) (by kernel_rfl) h
def Sh:V7:=[none,none,none,some ([8],[4,5,8,9,10,11,12,13,14,15,16,17,18]),none,none,none,none,none,none,none]
def Uj (g j:Value) (w:World) (K:Value→World→Prop):Prop:= X2 P .len [T.a7] T.e [false] [g] w fun h w=>lp (α:=Value) (.int .i64 0) w fun a b k w=>Q3 P .lss T.e (.tmp 8) (.tmp 7) b h w fun i w=>X1 i (indexAddr P T.a7 g b w fun d w=>Q2 P T.e d w fun e w=>Q3 P .eql T.e (.tmp 11) (.tmp 15) j e w fun f w=>X1 f (K b w) (Q3 P .add T.e (.tmp 8) (.const (.int .i64 1)) b (.int .i64 1) w fun c w=>a c w)) (K (.int .i64 (-1)) w)
theorem Sc {a b:Value} {w:World} {K:Value→World→Prop} (h:Uj a b w K):Q1 P F.ca [a,b] w K:=Q9 Sh Tryz.func139 rfl (by decide) (by kernel_rfl) h
def Yb (b d:Value) (w:World) (K:Value→World→Prop):Prop:= Q1 P F.ca [b,d] w fun a w=>Q3 P .geq T.e (.tmp 7) (.const (.int .i64 0)) a (.int .i64 0) w fun c w=>K c w
theorem Eg {a b:Value} {w:World} {K:Value→World→Prop} (h:Yb a b w K):Q1 P F.aG [a,b] w K:=Q9 (List.replicate 2 none) Tryz.func88 rfl (by decide) (by kernel_rfl) h
def Bp:V7:=[none,none,none,none,some ([35],[7,35,36,37,38,39,40,41,42,43,44,45,46,47]),none,none,none,none]
def Qw (a0 a1 a2 a3 a4:Value) (w:World) (K:Value→World→Prop):Prop:= Q2 P T.e a1 w fun t9 w=>Q3 P .lss T.e (.tmp 8) (.tmp 9) a0 t9 w fun z w=>Q0 z false w (Q2 P T.a7 a2) fun aw w=>Q0 z false w (fun w J=>J a0 w) fun av w=>Q0 z false w (Q1 P F.aG [aw,av]) fun aq w=>pick P z (.bool true) aq w fun ar w=>X1 ar (K (.tuple #[]) w) (dr w fun a b=>Q5 a (fun A=> ∀w,b w→Q2 P T.r a3 w (dk a A w)) fun A=>Q5 a (fun i=> ∀N w,b w→A N w→nilCheck P N w (dk a i w)) fun i=>Q5 a (fun y=> ∀v w,b w→i v w→fieldAddr P T.a0 v 0 w (dk a y w)) fun y=>Q5 a (fun n=> ∀B w,b w→y B w→Q2 P T.i B w (dk a n w)) fun n=>Q5 a (fun e=> ∀H w,b w→n H w→indexAddr P T.i H a0 w (dk a e w)) fun e=>Q5 a (fun j=> ∀m w,b w→e m w→fieldAddr P T.b m 1 w (dk a j w)) fun j=>Q5 a (fun d=> ∀q w,b w→j q w→Q2 P T.c q w (dk a d w)) fun d=>Q5 a (fun W=> ∀E w,b w→d E w→buildSlice P T.h 1 [(0,E)] w (dk a W w)) fun W=>Q5 a (fun k=> ∀w,b w→Q2 P T.r a3 w (dk a k w)) fun k=>Q5 a (fun l=> ∀r w,b w→k r w→nilCheck P r w (dk a l w)) fun l=>Q5 a (fun L=> ∀C w,b w→l C w→fieldAddr P T.a0 C 0 w (dk a L w)) fun L=>Q5 a (fun O=> ∀s w,b w→L s w→Q2 P T.i s w (dk a O w)) fun O=>Q5 a (fun R=> ∀o w,b w→O o w→indexAddr P T.i o a0 w (dk a R w)) fun R=>Q5 a (fun V=> ∀u w,b w→R u w→fieldAddr P T.b u 2 w (dk a V w)) fun V=>Q5 a (fun X=> ∀f w,b w→V f w→Q2 P T.h f w (dk a X w)) fun X=>∀N v B H m q E ab r C s o u f aa w,b w→A N w→i v w→y B w→n H w→e m w→j q w→d E w→W ab w→k r w→l C w→L s w→O o w→R u w→V f w→X aa w→ X2 P .append [T.h,T.h] T.h [false,false] [ab,aa] w fun af w=>X2 P .len [T.h] T.e [false] [af] w fun ah w=>lp (α:=Value) (.int .i64 0) w fun g x4 d_ w=>Q3 P .lss T.e (.tmp 35) (.tmp 34) x4 ah w fun aj w=>X1 aj (indexAddr P T.h af x4 w fun ai w=>Q2 P T.c ai w fun ak w=>dr w fun a b=>Q5 a (fun Y=> ∀w,b w→Q2 P T.ak a4 w (dk a Y w)) fun Y=>Q5 a (fun M=> ∀w,b w→Q2 P T.r a3 w (dk a M w)) fun M=>Q5 a (fun c=> ∀p w,b w→M p w→nilCheck P p w (dk a c w)) fun c=>Q5 a (fun Q=> ∀h w,b w→c h w→fieldAddr P T.a0 h 1 w (dk a Q w)) fun Q=>Q5 a (fun U=> ∀D w,b w→Q D w→Q2 P T.a2 D w (dk a U w)) fun U=>Q5 a (fun Z=> ∀t w,b w→U t w→lookup P T.a2 t ak false w (dk a Z w)) fun Z=>∀ae p h D t ad w,b w→Y ae w→M p w→c h w→Q D w→U t w→Z ad w→ Z3 P ae [ad] w fun ay w=>Q3 P .add T.e (.tmp 35) (.const (.int .i64 1)) x4 (.int .i64 1) w fun ax w=>g ax w) (Q2 P T.a7 a2 w fun al w=>buildSlice P T.a7 1 [(0,a0)] w fun ag w=>X2 P .append [T.a7,T.a7] T.a7 [false,false] [al,ag] w fun an w=>X9 P T.a7 a2 an w fun _u w=>K (.tuple #[]) w))
theorem Wc {c e b d a:Value} {w:World} {K:Value→World→Prop} (h:Qw c e b d a w K):Q1 P F.y [c,e,b,d,a] w K:=Q9 Bp Tryz.func87 rfl (by decide) (by kernel_rfl) h
def Pl:V7:=[none,none,none,none,none,none,some ([7],[7,10,11,12,13,14,15,16,17,18,19,20,21]),none,none,none,none]
def Ml (p t:Value) (w:World) (K:Value→World→Prop):Prop:= box P T.r p w fun d w=>box P T.e t w fun b w=>W1 P T.a7 w fun c w=>W1 P T.ak w fun a w=>H1 P (.func F.y) [] [b,c,d,a] w fun q w=>X9 P T.ak a q w fun _u w=>Q2 P T.e b w fun s w=>lp (α:=Value) s w fun e i u w=>Q2 P T.r d w fun f w=>nilCheck P f w fun o w=>fieldAddr P T.a0 o 0 w fun n w=>Q2 P T.i n w fun l w=>X2 P .len [T.i] T.e [false] [l] w fun m w=>Q3 P .lss T.e (.tmp 10) (.tmp 15) i m w fun k w=>X1 k (Q2 P T.ak a w fun j w=>Z3 P j [i] w fun r w=>Q3 P .add T.e (.tmp 17) (.const (.int .i64 1)) i (.int .i64 1) w fun h w=>e h w) (Q2 P T.a7 c w fun g w=>K g w)
theorem Pd {a b:Value} {w:World} {K:Value→World→Prop} (h:Ml a b w K):Q1 P F.bj [a,b] w K:=Q9 Pl Tryz.func48 rfl (by decide) (by kernel_rfl) h
def Zt:V7:=[none,some ([2,3],[2,3,7,8,9,10,11,12,13,14,15,16,17,18,19,20,21,22,23,24,25,26,27]),none,none,none]
def I1 (j:Value) (w:World) (K:Value→World→Prop):Prop:= X2 P .len [T.i] T.e [false] [j] w fun r w=>Q3 P .sub T.e (.tmp 5) (.const (.int .i64 1)) r (.int .i64 1) w fun s w=>lp (α:=Value×Value) ((.int .i64 0),s) w fun c g u w=>Q3 P .lss T.e (.tmp 7) (.tmp 8) g.1 g.2 w fun t w=>X1 t (dr w fun f m=>Q5 f (fun d=> ∀w,m w→indexAddr P T.i j g.2 w (dk f d w)) fun d=>Q5 f (fun b=> ∀w,m w→indexAddr P T.i j g.1 w (dk f b w)) fun b=>Q5 f (fun h=> ∀e w,m w→d e w→Q2 P T.b e w (dk f h w)) fun h=>Q5 f (fun i=> ∀a w,m w→b a w→Q2 P T.b a w (dk f i w)) fun i=>∀e a k l w,m w→d e w→b a w→h k w→i l w→ indexAddr P T.i j g.1 w fun p w=>X9 P T.b p k w fun _u w=>indexAddr P T.i j g.2 w fun o w=>X9 P T.b o l w fun _u w=>Q3 P .add T.e (.tmp 10) (.const (.int .i64 1)) g.1 (.int .i64 1) w fun n w=>Q3 P .sub T.e (.tmp 12) (.const (.int .i64 1)) g.2 (.int .i64 1) w fun q w=>c (n,q) w) (K (.tuple #[]) w)
theorem Zq {a:Value} {w:World} {K:Value→World→Prop} (h:I1 a w K):Q1 P F.q [a] w K:=Q9 Zt Tryz.func117 rfl (by decide) (by kernel_rfl) h
def Ty:V7:=[none,none,none,none,some ([5,6],[5,6,8,9,10,11,12,13,14,15,16,17,18,19,20]),none,none,none,none,none]
def Dc (f k:Value) (w:World) (K:Value→World→Prop):Prop:= lp (α:=Value×Value) ((.slice none 0 0),k) w fun a b l w=>Q1 P F.j [f,b.2] w fun i w=>X1 i (Q1 P F.h [f,b.2] w fun c w=>buildSlice P T.i 1 [(0,c)] w fun g w=>X2 P .append [T.i,T.i] T.i [false,false] [b.1,g] w fun h w=>Q1 P F.h [f,b.2] w fun e w=>F3 P T.b e 1 w fun d w=>a (h,d) w) (Q1 P F.q [b.1] w fun j w=>K b.1 w)
theorem Tm {a b:Value} {w:World} {K:Value→World→Prop} (h:Dc a b w K):Q1 P F.aS [a,b] w K:=Q9 Ty Tryz.func70 rfl (by decide) (by kernel_rfl) h
def Fl:V7:=[none,none,none,none,some ([5,12],[5,7,12,13,14,15,16,17,18,19,20]),none,none,none,none,none]
def Lm (m n:Value) (w:World) (K:Value→World→Prop):Prop:= Q1 P F.aS [m,n] w fun d w=>X2 P .len [T.i] T.e [false] [d] w fun g w=>lp (α:=Value×Value) ((.slice none 0 0),(.int .i64 0)) w fun b c o w=>Q3 P .lss T.e (.tmp 12) (.tmp 11) c.2 g w fun i w=>X1 i (indexAddr P T.i d c.2 w fun f w=>Q2 P T.b f w fun h w=>W1 P T.b w fun a w=>X9 P T.b a h w fun _u w=>fieldAddr P T.b a 6 w fun k w=>Q2 P T.k k w fun e w=>X2 P .append [T.k,T.k] T.k [false,false] [c.1,e] w fun j w=>Q3 P .add T.e (.tmp 12) (.const (.int .i64 1)) c.2 (.int .i64 1) w fun l w=>b (j,l) w) (K c.1 w)
theorem Fj {a b:Value} {w:World} {K:Value→World→Prop} (h:Lm a b w K):Q1 P F.a2 [a,b] w K:=Q9 Fl Tryz.func36 rfl (by decide) (by kernel_rfl) h
def Wb (d g:Value) (w:World) (K:Value→World→Prop):Prop:= box P T.o d w fun a w=>fieldAddr P T.o a 0 w fun e w=>Q2 P T.c e w fun b w=>Q2 P T.c g w fun f w=>Q3 P .eql T.c (.tmp 5) (.tmp 6) b f w fun c w=>K c w
theorem Fc {a b:Value} {w:World} {K:Value→World→Prop} (h:Wb a b w K):Q1 P F.ch [a,b] w K:=Q9 (List.replicate 2 none) Tryz.func141 rfl (by decide) (by kernel_rfl) h
def Ma (e g d:Value) (w:World) (K:Value→World→Prop):Prop:= box P T.c d w fun a w=>Q1 P F.a2 [e,g] w fun f w=>H1 P (.func F.ch) [] [a] w fun c w=>Q1 P F.i [f,c] w fun b w=>K b w
theorem Kb {b c a:Value} {w:World} {K:Value→World→Prop} (h:Ma b c a w K):Q1 P F.bl [b,c,a] w K:=Q9 (List.replicate 2 none) Tryz.func89 rfl (by decide) (by kernel_rfl) h
def Xa (b e:Value) (w:World) (K:Value→World→Prop):Prop:= nilCheck P b w fun a w=>indexAddr P T.ab a e w fun d w=>Q2 P T.u d w fun c w=>K c w
theorem Oa {a b:Value} {w:World} {K:Value→World→Prop} (h:Xa a b w K):Q1 P F.ax [a,b] w K:=Q9 (List.replicate 2 none) Tryz.func187 rfl (by decide) (by kernel_rfl) h
def Rr:V7:=[none,some ([0],[0,5,6,7,8,9,10,11,12,13,14,15,16,17,18,19,20]),some ([0],[0,5,6,7,8,9,10,11,12,13,14,15,16,17,18,19,20]),none,none,none,none,none]
def Ul (n q:Value) (w:World) (K:Value→World→Prop):Prop:= jn (α:=Value) w (fun k w=>lp (α:=Value) n w fun a b p w=>X2 P .len [T.c] T.e [false] [b] w fun o w=>Q3 P .gtr T.e (.tmp 6) (.const (.int .i64 0)) o (.int .i64 0) w fun l w=>X1 l (X2 P .len [T.c] T.e [false] [b] w fun c w=>Q3 P .sub T.e (.tmp 11) (.const (.int .i64 1)) c (.int .i64 1) w fun i w=>C2 P T.c b i w fun h w=>Q1 P F.ax [q,h] w fun f w=>J8 P .not f w fun g w=>X1 g (k b w) (X2 P .len [T.c] T.e [false] [b] w fun d w=>Q3 P .sub T.e (.tmp 18) (.const (.int .i64 1)) d (.int .i64 1) w fun e w=>R6 P T.c b none (some e) none w fun j w=>a j w)) (k b w)) fun m p w=>K m w
theorem Sp {a b:Value} {w:World} {K:Value→World→Prop} (h:Ul a b w K):Q1 P F.ao [a,b] w K:=Q9 Rr Tryz.func158 rfl (by decide) (by kernel_rfl) h
end Go.Proofs.YtjdiakhipmggjaaGreatDoor

set_option maxRecDepth 100000
namespace Go.Proofs.YtjdiakhipmggjaaGreatDoor
open Go.Emb
def Ol (d c:Value) (w:World) (K:Value→World→Prop):Prop:= Q3 P .eql T.c (.tmp 7) (.const (.string ⟨#[]⟩)) d (.string ⟨#[]⟩) w fun g w=>Q0 g false w (fun w J=>J c w) fun m w=>Q0 g false w (Q3 P .eql T.c (.tmp 10) (.const (.string ⟨#[]⟩)) m (.string ⟨#[]⟩)) fun h w=>pick P g (.bool true) h w fun r w=>X1 r (K d w) (X2 P .len [T.c] T.e [false] [c] w fun q w=>Q3 P .eql T.e (.tmp 15) (.const (.int .i64 1)) q (.int .i64 1) w fun b w=>Q0 b true w (fun w J=>J c w) fun n w=>Q0 b true w (C2 P T.c n (.int .i64 0)) fun o w=>Q0 b true w (Q3 P .lss T.a3 (.tmp 19) (.const (.int .u8 128)) o (.int .u8 128)) fun t w=>pick P b t (.bool false) w fun j w=>X1 j (C2 P T.c c (.int .i64 0) w fun f w=>Q1 P F.cT [d,f] w fun k w=>K k w) (Q1 P F.ci [c] w fun e w=>ext P e 0 w fun p w=>ext P e 1 w fun l w=>W1 P T.ab w fun a w=>X9 P T.ab a p w fun _u w=>X1 l (Q1 P F.ao [d,a] w fun s w=>K s w) (Q1 P F.cQ [d,c] w fun i w=>K i w)))
theorem Tt {a b:Value} {w:World} {K:Value→World→Prop} (h:Ol a b w K):Q1 P F.bH [a,b] w K:=Q9 (List.replicate 12 none) Tryz.func116 rfl (by decide) (by kernel_rfl) h
def Dj (m h:Value) (w:World) (K:Value→World→Prop):Prop:= Q3 P .eql T.c (.tmp 6) (.const (.string ⟨#[110,117,108,108]⟩)) h (.string ⟨#[110,117,108,108]⟩) w fun l w=>X1 l (K (.bool true) w) (Q1 P F.bH [h,(.string ⟨#[91,93]⟩)] w fun k w=>Q1 P F.z [h] w fun a w=>Q0 a true w (fun w J=>J k w) fun e w=>Q0 a true w (Q1 P F.aN [e]) fun d w=>Q0 a true w (fun w J=>J d w) fun b w=>Q0 b false w (fun w J=>J m w) fun g w=>Q0 b false w (fun w J=>J k w) fun i w=>Q0 b false w (Q1 P F.j [g,i]) fun c w=>Q0 a true w (pick P b (.bool true) c) fun f w=>pick P a f (.bool false) w fun j w=>K j w)
theorem Ap {a b:Value} {w:World} {K:Value→World→Prop} (h:Dj a b w K):Q1 P F.s [a,b] w K:=Q9 (List.replicate 6 none) Tryz.func69 rfl (by decide) (by kernel_rfl) h
def Js (c g:Value) (w:World) (K:Value→World→Prop):Prop:= Q3 P .neq T.c (.tmp 4) (.const (.string ⟨#[110,117,108,108]⟩)) c (.string ⟨#[110,117,108,108]⟩) w fun a w=>Q0 a true w (Q2 P T.r g) fun d w=>Q0 a true w (fun w J=>J c w) fun e w=>Q0 a true w (Q1 P F.s [d,e]) fun f w=>pick P a f (.bool false) w fun b w=>K b w
theorem Sx {a b:Value} {w:World} {K:Value→World→Prop} (h:Js a b w K):Q1 P F.al [a,b] w K:=Q9 (List.replicate 2 none) Tryz.func90 rfl (by decide) (by kernel_rfl) h
def Ji (b e:Value) (w:World) (K:Value→World→Prop):Prop:= Q2 P T.a4 e w fun c w=>Z3 P c [b] w fun d w=>J8 P .not d w fun a w=>K a w
theorem Sk {a b:Value} {w:World} {K:Value→World→Prop} (h:Ji a b w K):Q1 P F.am [a,b] w K:=Q9 (List.replicate 2 none) Tryz.func91 rfl (by decide) (by kernel_rfl) h
def Q11 (s:Value) (w:World) (K:Value→World→Prop):Prop:= box P T.d s w fun b w=>dr w fun a c=>Q5 a (fun k=> ∀w,c w→fieldAddr P T.d b 1 w (dk a k w)) fun k=>Q5 a (fun m=> ∀w,c w→fieldAddr P T.d b 2 w (dk a m w)) fun m=>Q5 a (fun l=> ∀g w,c w→k g w→Q2 P T.h g w (dk a l w)) fun l=>Q5 a (fun f=> ∀i w,c w→l i w→Q1 P F.cP [i,(.string ⟨#[44]⟩)] w (dk a f w)) fun f=>Q5 a (fun j=> ∀d w,c w→f d w→Q3 P .add T.c (.const (.string ⟨#[40]⟩)) (.tmp 5) (.string ⟨#[40]⟩) d w (dk a j w)) fun j=>Q5 a (fun o=> ∀h w,c w→j h w→Q3 P .add T.c (.tmp 6) (.const (.string ⟨#[41]⟩)) h (.string ⟨#[41]⟩) w (dk a o w)) fun o=>Q5 a (fun p=> ∀e w,c w→m e w→Q2 P T.c e w (dk a p w)) fun p=>∀g e i d h q r w,c w→k g w→m e w→l i w→f d w→j h w→o q w→p r w→ Q3 P .add T.c (.tmp 7) (.tmp 9) q r w fun n w=>K n w
theorem Q55 {a:Value} {w:World} {K:Value→World→Prop} (h:Q11 a w K):Q1 P F.cg [a] w K:=Q9 (List.replicate 2 none) Tryz.func95 rfl (by decide) (by kernel_rfl) h
def Zd (Y X a2 Z:Value) (w:World) (K:Value→World→Prop):Prop:= box P T.d Y w fun b w=>Q2 P T.w X w fun t9 w=>fieldAddr P T.d b 0 w fun R w=>Q2 P T.c R w fun N w=>lookup P T.w t9 N true w fun E w=>ext P E 0 w fun V w=>ext P E 1 w fun g w=>dr w fun a d=>Q5 a (fun s=> ∀w,d w→fieldAddr P T.d b 0 w (dk a s w)) fun s=>Q5 a (fun o=> ∀w,d w→fieldAddr P T.d b 0 w (dk a o w)) fun o=>Q5 a (fun h=> ∀w,d w→fieldAddr P T.b a2 0 w (dk a h w)) fun h=>Q5 a (fun f=> ∀w,d w→Q2 P T.w X w (dk a f w)) fun f=>Q5 a (fun j=> ∀y w,d w→s y w→Q2 P T.c y w (dk a j w)) fun j=>Q5 a (fun A=> ∀w,d w→Q2 P T.w Z w (dk a A w)) fun A=>Q5 a (fun B=> ∀v w,d w→o v w→Q2 P T.c v w (dk a B w)) fun B=>Q5 a (fun i=> ∀w,d w→Q2 P T.d b w (dk a i w)) fun i=>Q5 a (fun k=> ∀n w,d w→i n w→Q1 P F.cg [n] w (dk a k w)) fun k=>Q5 a (fun z=> ∀u w,d w→h u w→Q2 P T.c u w (dk a z w)) fun z=>Q5 a (fun l=> ∀c r w,d w→f c w→j r w→mapEntry P T.w c r w (dk a l w)) fun l=>Q5 a (fun m=> ∀q w,d w→l q w→ext P q 1 w (dk a m w)) fun m=>Q5 a (fun e=> ∀c t p w,d w→f c w→m t w→k p w→entryStore P T.w c t p w (dk a e w)) fun e=>∀y v u c r D H n p C q t O w,d w→s y w→o v w→h u w→f c w→j r w→A D w→B H w→i n w→k p w→z C w→l q w→m t w→e O w→ mapUpdate P T.w D H C w fun _u w=>Q0 g true w (fun w J=>J V w) fun U w=>Q0 g true w (Q2 P T.d b) fun Q w=>Q0 g true w (Q1 P F.cg [Q]) fun M w=>Q0 g true w (Q3 P .neq T.c (.tmp 29) (.tmp 31) U M) fun L w=>pick P g L (.bool false) w fun W w=>K W w
theorem Hj {b d a c:Value} {w:World} {K:Value→World→Prop} (h:Zd b d a c w K):Q1 P F.aK [b,d,a,c] w K:=Q9 (List.replicate 4 none) Tryz.func94 rfl (by decide) (by kernel_rfl) h
def Jq (e h c:Value) (w:World) (K:Value→World→Prop):Prop:= box P T.b e w fun a w=>fieldAddr P T.b a 7 w fun b w=>Q2 P T.j b w fun g w=>H1 P (.func F.aK) [] [h,a,c] w fun d w=>Q1 P F.a [g,d] w fun f w=>K f w
theorem Sw {b c a:Value} {w:World} {K:Value→World→Prop} (h:Jq b c a w K):Q1 P F.aY [b,c,a] w K:=Q9 (List.replicate 2 none) Tryz.func92 rfl (by decide) (by kernel_rfl) h
def Q0W (d g:Value) (w:World) (K:Value→World→Prop):Prop:= box P T.d d w fun a w=>fieldAddr P T.d a 0 w fun e w=>Q2 P T.c e w fun b w=>Q2 P T.c g w fun f w=>Q3 P .eql T.c (.tmp 5) (.tmp 6) b f w fun c w=>K c w
theorem Q5j {a b:Value} {w:World} {K:Value→World→Prop} (h:Q0W a b w K):Q1 P F.cU [a,b] w K:=Q9 (List.replicate 2 none) Tryz.func179 rfl (by decide) (by kernel_rfl) h
def Q30 (n q:Value) (w:World) (K:Value→World→Prop):Prop:= box P T.b n w fun b w=>box P T.c q w fun a w=>W1 P T.d w fun d w=>fieldAddr P T.b b 7 w fun m w=>Q2 P T.j m w fun o w=>H1 P (.func F.cU) [] [a] w fun p w=>Q1 P F.g [o,p] w fun c w=>Q3 P .lss T.e (.tmp 11) (.const (.int .i64 0)) c (.int .i64 0) w fun k w=>X1 k (E3 P T.d [] w fun j w=>X9 P T.d d j w fun _u w=>Y7 P T.d d w fun l=>K (.tuple #[l,(.bool false)]) w) (fieldAddr P T.b b 7 w fun h w=>Q2 P T.j h w fun i w=>indexAddr P T.j i c w fun e w=>Q2 P T.d e w fun f w=>Q1 P F.c8 [f] w fun g w=>X9 P T.d d g w fun _u w=>Y7 P T.d d w fun l=>K (.tuple #[l,(.bool true)]) w)
theorem Q8i {a b:Value} {w:World} {K:Value→World→Prop} (h:Q30 a b w K):Q1 P F.cC [a,b] w K:=Q9 (List.replicate 6 none) Tryz.func144 rfl (by decide) (by kernel_rfl) h
def Ad:V7:=[none,none,none,some ([19],[6,8,10,11,12,13,14,15,19,20,21,22,23,24,25,26,27,28,29,30,31,32,33,34,35,36,37,38,39,40,41,42,43,44,45,46,47]),none,none,none,none,none,none,none,none,none,none,none,none]
def On (q M L:Value) (w:World) (K:Value→World→Prop):Prop:= box P T.b M w fun e w=>W1 P T.d w fun i w=>fieldAddr P T.b e 2 w fun D w=>Q2 P T.h D w fun n w=>X2 P .len [T.h] T.e [false] [n] w fun z w=>lp (α:=Value) (.int .i64 0) w fun c E N w=>Q3 P .lss T.e (.tmp 19) (.tmp 18) E z w fun J w=>X1 J (indexAddr P T.h n E w fun t w=>Q2 P T.c t w fun g w=>Q1 P F.h [q,g] w fun A w=>Q1 P F.cC [A,L] w fun k w=>ext P k 0 w fun C w=>ext P k 1 w fun y w=>W1 P T.d w fun b w=>X9 P T.d b C w fun _u w=>X1 y (dr w fun o l=>Q5 o (fun h=> ∀w,l w→Q2 P T.d b w (dk o h w)) fun h=>∀p w,l w→h p w→ X9 P T.d i p w fun _u w=>Y7 P T.d i w fun m=>K (.tuple #[g,m,(.bool true)]) w) (Q1 P F.h [q,g] w fun s w=>Q1 P F.aU [q,s,L] w fun f w=>ext P f 0 w fun r w=>ext P f 1 w fun B w=>ext P f 2 w fun v w=>W1 P T.d w fun a w=>X9 P T.d a B w fun _u w=>X1 v (dr w fun o l=>Q5 o (fun d=> ∀w,l w→Q2 P T.d a w (dk o d w)) fun d=>∀j w,l w→d j w→ X9 P T.d i j w fun _u w=>Y7 P T.d i w fun m=>K (.tuple #[r,m,(.bool true)]) w) (Q3 P .add T.e (.tmp 19) (.const (.int .i64 1)) E (.int .i64 1) w fun H w=>c H w))) (E3 P T.d [] w fun u w=>X9 P T.d i u w fun _u w=>Y7 P T.d i w fun m=>K (.tuple #[(.string ⟨#[]⟩),m,(.bool false)]) w)
theorem Ab {b c a:Value} {w:World} {K:Value→World→Prop} (h:On b c a w K):Q1 P F.aU [b,c,a] w K:=Q9 Ad Tryz.func145 rfl (by decide) (by kernel_rfl) h
def Fp:V7:=[none,none,none,none,none,some ([26],[6,8,11,12,13,26,27,28,29,30,31,32,33,34,35,36,37,38,39,40]),none,none,none,none,none,none,none,none,none,some ([43],[6,8,15,16,17,18,43,44,45,46,47,48,49,50,51,52,53,54,55,56,57,58]),none,none,none,none,none,none,none,none]
def Wz (Y a1 Z:Value) (w:World) (K:Value→World→Prop):Prop:= W1 P T.d w fun q w=>Q1 P F.aS [Y,a1] w fun e w=>Q1 P F.q [e] w fun ab w=>X2 P .len [T.i] T.e [false] [e] w fun N w=>lp (α:=Value) (.int .i64 0) w fun j y d_ w=>Q3 P .lss T.e (.tmp 26) (.tmp 25) y N w fun O w=>X1 O (indexAddr P T.i e y w fun L w=>Q2 P T.b L w fun V w=>W1 P T.b w fun a w=>X9 P T.b a V w fun _u w=>Q2 P T.b a w fun B w=>Q1 P F.cC [B,Z] w fun v w=>ext P v 0 w fun H w=>ext P v 1 w fun X w=>W1 P T.d w fun c w=>X9 P T.d c H w fun _u w=>X1 X (dr w fun i m=>Q5 i (fun g=> ∀w,m w→fieldAddr P T.b a 0 w (dk i g w)) fun g=>Q5 i (fun l=> ∀h w,m w→g h w→Q2 P T.c h w (dk i l w)) fun l=>Q5 i (fun o=> ∀w,m w→Q2 P T.d c w (dk i o w)) fun o=>∀h s u w,m w→g h w→l s w→o u w→ X9 P T.d q u w fun _u w=>Y7 P T.d q w fun t=>K (.tuple #[s,t,(.bool true)]) w) (Q3 P .add T.e (.tmp 26) (.const (.int .i64 1)) y (.int .i64 1) w fun M w=>j M w)) (X2 P .len [T.i] T.e [false] [e] w fun U w=>lp (α:=Value) (.int .i64 0) w fun f p d_ w=>Q3 P .lss T.e (.tmp 43) (.tmp 42) p U w fun A w=>X1 A (indexAddr P T.i e p w fun W w=>Q2 P T.b W w fun C w=>W1 P T.b w fun d w=>X9 P T.b d C w fun _u w=>Q2 P T.b d w fun R w=>Q1 P F.aU [Y,R,Z] w fun n w=>ext P n 0 w fun J w=>ext P n 1 w fun D w=>ext P n 2 w fun z w=>W1 P T.d w fun b w=>X9 P T.d b D w fun _u w=>X1 z (dr w fun i m=>Q5 i (fun k=> ∀w,m w→Q2 P T.d b w (dk i k w)) fun k=>∀r w,m w→k r w→ X9 P T.d q r w fun _u w=>Y7 P T.d q w fun t=>K (.tuple #[J,t,(.bool true)]) w) (Q3 P .add T.e (.tmp 43) (.const (.int .i64 1)) p (.int .i64 1) w fun E w=>f E w)) (E3 P T.d [] w fun Q w=>X9 P T.d q Q w fun _u w=>Y7 P T.d q w fun t=>K (.tuple #[(.string ⟨#[]⟩),t,(.bool false)]) w))
theorem Gv {b c a:Value} {w:World} {K:Value→World→Prop} (h:Wz b c a w K):Q1 P F.bc [b,c,a] w K:=Q9 Fp Tryz.func96 rfl (by decide) (by kernel_rfl) h
def Bu:V7:=[none,none,none,some ([21],[4,6,21,22,23,24,25,26,27,28,29,30,31,32]),none,none,none,none,none,none,none,none,none,some ([37],[4,9,37,38,39,40,41,42,43,44,45,46]),none,none,none,none,none,none,none,none,some ([50],[4,11,50,51,52,53,54,55,56,57,58,59,60,61,62,63,64,65,66,67,68,69,70]),none,none,none,none,none,none,none,none,none,none,none,none,none,none,none,some ([],[4,14,15,16,17,82,83,84,85,86,87,88,89,90,91,92,93,94,95,96,97,98,99,100]),none,none,none,none,none,none,none]
def Wa (a0 a1:Value) (w:World) (K:Value→World→Prop):Prop:= box P T.r a0 w fun u w=>box P T.b a1 w fun l w=>fieldAddr P T.b l 6 w fun be w=>Q2 P T.k be w fun n w=>X2 P .len [T.k] T.e [false] [n] w fun am w=>lp (α:=Value) (.int .i64 0) w fun f x3 d_ w=>Q3 P .lss T.e (.tmp 21) (.tmp 20) x3 am w fun a8 w=>X1 a8 (indexAddr P T.k n x3 w fun W w=>Q2 P T.o W w fun ar w=>W1 P T.o w fun t6 w=>X9 P T.o t6 ar w fun _u w=>Q2 P T.r u w fun a9 w=>fieldAddr P T.b l 1 w fun U w=>Q2 P T.c U w fun Q w=>fieldAddr P T.o t6 0 w fun a7 w=>Q2 P T.c a7 w fun Y w=>Q1 P F.bl [a9,Q,Y] w fun R w=>Q3 P .geq T.e (.tmp 30) (.const (.int .i64 0)) R (.int .i64 0) w fun ay w=>X1 ay (K (.int .i64 64) w) (Q3 P .add T.e (.tmp 21) (.const (.int .i64 1)) x3 (.int .i64 1) w fun an w=>f an w)) (H1 P (.func F.al) [] [u] w fun ai w=>W1 P T.a4 w fun v w=>X9 P T.a4 v ai w fun _u w=>fieldAddr P T.b l 6 w fun a2 w=>Q2 P T.k a2 w fun o w=>X2 P .len [T.k] T.e [false] [o] w fun M w=>lp (α:=Value) (.int .i64 0) w fun a j d_ w=>Q3 P .lss T.e (.tmp 37) (.tmp 36) j M w fun N w=>X1 N (indexAddr P T.k o j w fun bm w=>Q2 P T.o bm w fun O w=>W1 P T.o w fun t9 w=>X9 P T.o t9 O w fun _u w=>Q2 P T.a4 v w fun B w=>fieldAddr P T.o t9 1 w fun V w=>Q2 P T.c V w fun ba w=>Z3 P B [ba] w fun aw w=>J8 P .not aw w fun bi w=>X1 bi (K (.int .i64 65) w) (Q3 P .add T.e (.tmp 37) (.const (.int .i64 1)) j (.int .i64 1) w fun az w=>a az w)) (fieldAddr P T.b l 7 w fun bn w=>Q2 P T.j bn w fun p w=>X2 P .len [T.j] T.e [false] [p] w fun bg w=>lp (α:=Value) (.int .i64 0) w fun b m d_ w=>Q3 P .lss T.e (.tmp 50) (.tmp 49) m bg w fun bf w=>X1 bf (indexAddr P T.j p m w fun J w=>Q2 P T.d J w fun ax w=>W1 P T.d w fun g w=>X9 P T.d g ax w fun _u w=>Q2 P T.a4 v w fun ao w=>fieldAddr P T.d g 2 w fun L w=>Q2 P T.c L w fun a4 w=>Z3 P ao [a4] w fun C w=>J8 P .not C w fun e w=>Q0 e true w (fieldAddr P T.d g 2) fun bb w=>Q0 e true w (Q2 P T.c bb) fun a6 w=>Q0 e true w (Q3 P .neq T.c (.tmp 61) (.const (.string ⟨#[]⟩)) a6 (.string ⟨#[]⟩)) fun av w=>pick P e av (.bool false) w fun d w=>Q0 d false w (fieldAddr P T.d g 1) fun ap w=>Q0 d false w (Q2 P T.h ap) fun aj w=>Q0 d false w (H1 P (.func F.am) [] [v]) fun ac w=>Q0 d false w (Q1 P F.c [aj,ac]) fun aa w=>pick P d (.bool true) aa w fun a3 w=>X1 a3 (K (.int .i64 65) w) (Q3 P .add T.e (.tmp 50) (.const (.int .i64 1)) m (.int .i64 1) w fun bk w=>b bk w)) (Ko P T.w none w fun D w=>Ko P T.w none w fun H w=>W1 P T.w w fun r w=>W1 P T.w w fun k w=>X9 P T.w r D w fun _u w=>X9 P T.w k H w fun _u w=>Q2 P T.r u w fun z w=>fieldAddr P T.b l 0 w fun aq w=>Q2 P T.c aq w fun ae w=>H1 P (.func F.aY) [] [r,k] w fun af w=>Q1 P F.w [z,ae,af] w fun bj w=>X1 bj (K (.int .i64 66) w) (fieldAddr P T.b l 4 w fun X w=>Q2 P T.u X w fun ag w=>X1 ag (K (.int .i64 0) w) (Q2 P T.w k w fun y w=>rng P T.w y w fun t w=>lp (α:=Unit) () w fun c br d_ w=>W3 P t false T.x w fun ad w=>ext P ad 0 w fun ak w=>X1 ak (Q8o P t w fun A w=>ext P A 0 w fun bc w=>Q2 P T.r u w fun E w=>fieldAddr P T.b l 0 w fun ah w=>Q2 P T.c ah w fun a5 w=>Q1 P F.bc [E,a5,bc] w fun i w=>ext P i 0 w fun bs w=>ext P i 1 w fun bl w=>ext P i 2 w fun bd w=>W1 P T.d w fun q w=>X9 P T.d q bl w fun _u w=>J8 P .not bd w fun h w=>Q0 h false w (fieldAddr P T.d q 3) fun Z w=>Q0 h false w (Q2 P T.u Z) fun al w=>pick P h (.bool true) al w fun s w=>X1 s (K (.int .i64 67) w) (c () w)) (K (.int .i64 0) w))))))
theorem Bv {a b:Value} {w:World} {K:Value→World→Prop} (h:Wa a b w K):Q1 P F.b4 [a,b] w K:=Q9 Bu Tryz.func49 rfl (by decide) (by kernel_rfl) h
def Q81:V7:=[none,none,none,none,none,some ([30],[2,3,4,7,8,9,30,31,32,33,34,35,36,37,38,39,40,41,42,43,44,45,46,47,48,49,50,51,52]),none,none,none,none,none,none,none,none,none,none,some ([58],[2,3,4,10,11,58,59,60,61,62,63,64,65,66,67,68,69,70,71,72,73,74,75,76,77]),none,none,none,none,none,none,none,none,none,some ([85],[2,3,4,12,13,14,85,86,87,88,89,90,91,92,93,94,95,96,97]),none,none,none,none,none,none,none,none,none,none,none,none,none,some ([114],[2,3,4,17,18,114,115,116,117,118,119,120,121,122,123,124,125,126,127,128,129,130,131,132,133]),none,none,none,none,none,none,none,none]
def Q2X (a0:Value) (w:World) (K:Value→World→Prop):Prop:= Q1 P F.cF [] w fun a5 w=>Ko P T.a2 none w fun be w=>E3 P T.a0 [(0,a5),(1,be)] w fun a1 w=>box P T.a0 a1 w fun a w=>nilCheck P a w fun bh w=>fieldAddr P T.a0 bh 0 w fun br w=>Q2 P T.i br w fun a4 w=>X2 P .len [T.i] T.e [false] [a4] w fun e w=>X2 P .len [T.i] T.e [false] [a0] w fun a6 w=>lp (α:=Value) (.int .i64 0) w fun o x5 d_ w=>Q3 P .lss T.e (.tmp 30) (.tmp 29) x5 a6 w fun bj w=>X1 bj (indexAddr P T.i a0 x5 w fun bb w=>Q2 P T.b bb w fun bn w=>W1 P T.b w fun t8 w=>X9 P T.b t8 bn w fun _u w=>Q2 P T.b t8 w fun a8 w=>Q1 P F.cy [a8] w fun Q w=>Q3 P .neq T.y (.tmp 37) (.const (.int .i64 0)) Q (.int .i64 0) w fun az w=>X1 az (K (.tuple #[(.pointer none),x5,Q]) w) (dr w fun b c=>Q5 b (fun z=> ∀w,c w→nilCheck P a w (dk b z w)) fun z=>Q5 b (fun j=> ∀y w,c w→z y w→fieldAddr P T.a0 y 0 w (dk b j w)) fun j=>Q5 b (fun J=> ∀r w,c w→j r w→Q2 P T.i r w (dk b J w)) fun J=>Q5 b (fun t=> ∀w,c w→Q2 P T.b t8 w (dk b t w)) fun t=>Q5 b (fun v=> ∀s w,c w→t s w→Q1 P F.cz [s] w (dk b v w)) fun v=>Q5 b (fun E=> ∀u w,c w→v u w→buildSlice P T.i 1 [(0,u)] w (dk b E w)) fun E=>∀y r an s u ak w,c w→z y w→j r w→J an w→t s w→v u w→E ak w→ X2 P .append [T.i,T.i] T.i [false,false] [an,ak] w fun bw w=>nilCheck P a w fun bm w=>fieldAddr P T.a0 bm 0 w fun bv w=>X9 P T.i bv bw w fun _u w=>Q3 P .add T.e (.tmp 30) (.const (.int .i64 1)) x5 (.int .i64 1) w fun ax w=>o ax w)) (nilCheck P a w fun bg w=>fieldAddr P T.a0 bg 0 w fun ay w=>Q2 P T.i ay w fun aj w=>X2 P .len [T.i] T.e [false] [aj] w fun aw w=>lp (α:=Value) (.int .i64 0) w fun g f d_ w=>Q3 P .lss T.e (.tmp 58) (.tmp 57) f aw w fun a3 w=>X1 a3 (indexAddr P T.i aj f w fun bq w=>Q2 P T.b bq w fun bi w=>W1 P T.b w fun M w=>X9 P T.b M bi w fun _u w=>fieldAddr P T.b M 0 w fun bs w=>Q2 P T.c bs w fun bf w=>Q1 P F.j [a,bf] w fun bc w=>X1 bc (Q3 P .sub T.e (.tmp 67) (.tmp 68) f e w fun bo w=>K (.tuple #[(.pointer none),bo,(.int .i64 60)]) w) (dr w fun b c=>Q5 b (fun l=> ∀w,c w→nilCheck P a w (dk b l w)) fun l=>Q5 b (fun p=> ∀m w,c w→l m w→fieldAddr P T.a0 m 1 w (dk b p w)) fun p=>Q5 b (fun i=> ∀w,c w→fieldAddr P T.b M 0 w (dk b i w)) fun i=>Q5 b (fun H=> ∀n w,c w→p n w→Q2 P T.a2 n w (dk b H w)) fun H=>Q5 b (fun N=> ∀q w,c w→i q w→Q2 P T.c q w (dk b N w)) fun N=>∀m n q O W w,c w→l m w→p n w→i q w→H O w→N W w→ mapUpdate P T.a2 O W f w fun _u w=>Q3 P .add T.e (.tmp 58) (.const (.int .i64 1)) f (.int .i64 1) w fun bz w=>g bz w)) (nilCheck P a w fun a9 w=>fieldAddr P T.a0 a9 0 w fun ar w=>Q2 P T.i ar w fun b0 w=>R6 P T.i b0 (some e) none none w fun ad w=>X2 P .len [T.i] T.e [false] [ad] w fun av w=>lp (α:=Value) (.int .i64 0) w fun h k d_ w=>Q3 P .lss T.e (.tmp 85) (.tmp 84) k av w fun bl w=>X1 bl (indexAddr P T.i ad k w fun ba w=>Q2 P T.b ba w fun bp w=>W1 P T.b w fun Y w=>X9 P T.b Y bp w fun _u w=>Q2 P T.b Y w fun a2 w=>Q1 P F.ba [a,a2] w fun ac w=>Q3 P .neq T.y (.tmp 93) (.const (.int .i64 0)) ac (.int .i64 0) w fun bu w=>X1 bu (K (.tuple #[(.pointer none),k,ac]) w) (Q3 P .add T.e (.tmp 85) (.const (.int .i64 1)) k (.int .i64 1) w fun a7 w=>h a7 w)) (nilCheck P a w fun bd w=>fieldAddr P T.a0 bd 0 w fun ap w=>Q2 P T.i ap w fun V w=>R6 P T.i V (some e) none none w fun ah w=>H1 P (.func F.bi) [a] [] w fun U w=>Q1 P F.o [ah,U] w fun D w=>Q3 P .geq T.e (.tmp 107) (.const (.int .i64 0)) D (.int .i64 0) w fun af w=>X1 af (K (.tuple #[(.pointer none),D,(.int .i64 63)]) w) (Q1 P F.bj [a,e] w fun C w=>X2 P .len [T.a7] T.e [false] [C] w fun am w=>lp (α:=Value) (.int .i64 0) w fun d L d_ w=>Q3 P .lss T.e (.tmp 114) (.tmp 113) L am w fun ag w=>X1 ag (indexAddr P T.a7 C L w fun ao w=>Q2 P T.e ao w fun A w=>nilCheck P a w fun X w=>fieldAddr P T.a0 X 0 w fun ai w=>Q2 P T.i ai w fun aa w=>indexAddr P T.i aa A w fun al w=>Q2 P T.b al w fun R w=>Q1 P F.b4 [a,R] w fun B w=>Q3 P .neq T.y (.tmp 127) (.const (.int .i64 0)) B (.int .i64 0) w fun ae w=>X1 ae (Q3 P .sub T.e (.tmp 129) (.tmp 130) A e w fun Z w=>K (.tuple #[(.pointer none),Z,B]) w) (Q3 P .add T.e (.tmp 114) (.const (.int .i64 1)) L (.int .i64 1) w fun ab w=>d ab w)) (K (.tuple #[a,(.int .i64 0),(.int .i64 0)]) w)))))
theorem Q8s {a:Value} {w:World} {K:Value→World→Prop} (h:Q2X a w K):Q1 P F.cN [a] w K:=Q9 Q81 Tryz.func12 rfl (by decide) (by kernel_rfl) h
def Vw (w:World) (K:Value→World→Prop):Prop:= E3 P T.v [(0,(.string ⟨#[105,110,116]⟩)),(1,(.int .i64 1))] w fun o w=>E3 P T.v [(0,(.string ⟨#[114,101,116,117,114,110]⟩))] w fun r w=>buildSlice P T.q 2 [(0,o),(1,r)] w fun t w=>E3 P T.o [(0,(.string ⟨#[120]⟩)),(1,(.string ⟨#[105,110,116]⟩))] w fun n w=>E3 P T.o [(0,(.string ⟨#[110,101,120,116]⟩)),(1,(.string ⟨#[65]⟩))] w fun s w=>buildSlice P T.k 2 [(0,n),(1,s)] w fun p w=>buildSlice P T.h 2 [(0,(.string ⟨#[105,110,116]⟩)),(1,(.string ⟨#[65]⟩))] w fun q w=>E3 P T.d [(0,(.string ⟨#[102]⟩)),(1,q),(2,(.string ⟨#[105,110,116]⟩)),(4,(.int .i64 3)),(5,t)] w fun e w=>E3 P T.v [(0,(.string ⟨#[114,101,116,117,114,110]⟩))] w fun a w=>buildSlice P T.q 1 [(0,a)] w fun l w=>E3 P T.d [(0,(.string ⟨#[103]⟩)),(4,(.int .i64 1)),(5,l)] w fun k w=>buildSlice P T.j 2 [(0,e),(1,k)] w fun i w=>E3 P T.b [(0,(.string ⟨#[65]⟩)),(1,(.string ⟨#[79,98,106,101,99,116]⟩)),(6,p),(7,i)] w fun j w=>buildSlice P T.h 1 [(0,(.string ⟨#[73]⟩))] w fun h w=>E3 P T.o [(0,(.string ⟨#[108]⟩)),(1,(.string ⟨#[65,91,93]⟩))] w fun d w=>buildSlice P T.k 1 [(0,d)] w fun f w=>E3 P T.b [(0,(.string ⟨#[66]⟩)),(1,(.string ⟨#[65]⟩)),(2,h),(6,f)] w fun g w=>E3 P T.b [(0,(.string ⟨#[73]⟩)),(1,(.string ⟨#[79,98,106,101,99,116]⟩)),(3,(.bool true)),(4,(.bool true))] w fun m w=>E3 P T.b [(0,(.string ⟨#[68]⟩)),(1,(.string ⟨#[79,98,106,101,99,116]⟩)),(4,(.bool true))] w fun b w=>buildSlice P T.i 4 [(0,j),(1,g),(2,m),(3,b)] w fun c w=>K c w
theorem Bq {w:World} {K:Value→World→Prop} (h:Vw w K):Q1 P F.ay [] w K:=Q9 (List.replicate 3 none) Tryz.func13 rfl (by decide) (by kernel_rfl) h
def Ht (c:Value) (w:World) (K:Value→World→Prop):Prop:= nilCheck P c w fun d w=>fieldAddr P T.p d 3 w fun a w=>Q2 P T.f a w fun e w=>X2 P .len [T.f] T.e [false] [e] w fun b w=>K b w
theorem Q1X {a:Value} {w:World} {K:Value→World→Prop} (h:Ht a w K):Q1 P F.c2 [a] w K:=Q9 (List.replicate 2 none) Tryz.func17 rfl (by decide) (by kernel_rfl) h
def Er (o:Value) (w:World) (K:Value→World→Prop):Prop:= dr w fun a c=>Q5 a (fun l=> ∀w,c w→nilCheck P o w (dk a l w)) fun l=>Q5 a (fun e=> ∀h w,c w→l h w→fieldAddr P T.p h 1 w (dk a e w)) fun e=>Q5 a (fun f=> ∀w,c w→nilCheck P o w (dk a f w)) fun f=>Q5 a (fun i=> ∀j w,c w→f j w→fieldAddr P T.p j 2 w (dk a i w)) fun i=>Q5 a (fun n=> ∀g w,c w→e g w→Q2 P T.e g w (dk a n w)) fun n=>Q5 a (fun b=> ∀k w,c w→i k w→Q2 P T.e k w (dk a b w)) fun b=>∀h g j k p d w,c w→l h w→e g w→f j w→i k w→n p w→b d w→ Q3 P .sub T.e (.tmp 6) (.tmp 10) p d w fun m w=>K m w
theorem Q0Y {a:Value} {w:World} {K:Value→World→Prop} (h:Er a w K):Q1 P F.af [a] w K:=Q9 (List.replicate 2 none) Tryz.func18 rfl (by decide) (by kernel_rfl) h
def Hk (i h:Value) (w:World) (K:Value→World→Prop):Prop:= Q3 P .geq T.e (.tmp 5) (.const (.int .i64 0)) h (.int .i64 0) w fun a w=>Q0 a true w (fun w J=>J h w) fun k w=>Q0 a true w (fun w J=>J i w) fun j w=>Q0 a true w (nilCheck P j) fun g w=>Q0 a true w (fieldAddr P T.p g 3) fun c w=>Q0 a true w (Q2 P T.f c) fun f w=>Q0 a true w (X2 P .len [T.f] T.e [false] [f]) fun e w=>Q0 a true w (Q3 P .lss T.e (.tmp 8) (.tmp 13) k e) fun b w=>pick P a b (.bool false) w fun d w=>K d w
theorem Q1T {a b:Value} {w:World} {K:Value→World→Prop} (h:Hk a b w K):Q1 P F.aF [a,b] w K:=Q9 (List.replicate 2 none) Tryz.func51 rfl (by decide) (by kernel_rfl) h
def Hc (g h:Value) (w:World) (K:Value→World→Prop):Prop:= Q1 P F.aF [g,h] w fun i w=>J8 P .not i w fun j w=>X1 j (K (.string ⟨#[]⟩) w) (nilCheck P g w fun f w=>fieldAddr P T.p f 3 w fun b w=>Q2 P T.f b w fun d w=>indexAddr P T.f d h w fun a w=>fieldAddr P T.m a 0 w fun c w=>Q2 P T.c c w fun e w=>K e w)
theorem Q0z {a b:Value} {w:World} {K:Value→World→Prop} (h:Hc a b w K):Q1 P F.az [a,b] w K:=Q9 (List.replicate 5 none) Tryz.func20 rfl (by decide) (by kernel_rfl) h
def Dz (h i:Value) (w:World) (K:Value→World→Prop):Prop:= Q1 P F.aF [h,i] w fun j w=>J8 P .not j w fun k w=>X1 k (K (.int .i64 0) w) (nilCheck P h w fun g w=>fieldAddr P T.p g 3 w fun b w=>Q2 P T.f b w fun d w=>indexAddr P T.f d i w fun a w=>fieldAddr P T.m a 1 w fun c w=>Q2 P T.l c w fun e w=>X2 P .len [T.l] T.e [false] [e] w fun f w=>K f w)
theorem Q0t {a b:Value} {w:World} {K:Value→World→Prop} (h:Dz a b w K):Q1 P F.bM [a,b] w K:=Q9 (List.replicate 5 none) Tryz.func21 rfl (by decide) (by kernel_rfl) h
def Zv:V7:=[none,none,none,some ([8],[4,5,8,9,10,11,12,13,14,15,16,17,18]),none,none,none,none,none,none,none]
def I0 (g j:Value) (w:World) (K:Value→World→Prop):Prop:= X2 P .len [T.f] T.e [false] [g] w fun h w=>lp (α:=Value) (.int .i64 0) w fun a b k w=>Q3 P .lss T.e (.tmp 8) (.tmp 7) b h w fun i w=>X1 i (indexAddr P T.f g b w fun d w=>Q2 P T.m d w fun e w=>Z3 P j [e] w fun f w=>X1 f (K b w) (Q3 P .add T.e (.tmp 8) (.const (.int .i64 1)) b (.int .i64 1) w fun c w=>a c w)) (K (.int .i64 (-1)) w)
theorem Zs {a b:Value} {w:World} {K:Value→World→Prop} (h:I0 a b w K):Q1 P F.a8 [a,b] w K:=Q9 Zv Tryz.func98 rfl (by decide) (by kernel_rfl) h
def F2 (b d:Value) (w:World) (K:Value→World→Prop):Prop:= Q1 P F.a8 [b,d] w fun a w=>Q3 P .geq T.e (.tmp 7) (.const (.int .i64 0)) a (.int .i64 0) w fun c w=>K c w
theorem Ya {a b:Value} {w:World} {K:Value→World→Prop} (h:F2 a b w K):Q1 P F.n [a,b] w K:=Q9 (List.replicate 2 none) Tryz.func53 rfl (by decide) (by kernel_rfl) h
def Su (Q V:Value) (w:World) (K:Value→World→Prop):Prop:= box P T.g V w fun a w=>Q2 P T.g a w fun U w=>E3 P T.g [] w fun O w=>Q3 P .eql T.g (.tmp 6) (.tmp 7) U O w fun R w=>X1 R (K (.string ⟨#[110,117,108,108]⟩) w) (Q2 P T.g a w fun u w=>fieldAddr P T.g a 1 w fun j w=>Q2 P T.a1 j w fun L w=>E3 P T.g [(0,(.int .i64 1)),(1,L)] w fun J w=>Q3 P .eql T.g (.tmp 10) (.tmp 13) u J w fun H w=>X1 H (K (.string ⟨#[105,110,116]⟩) w) (Q2 P T.g a w fun D w=>fieldAddr P T.g a 1 w fun t w=>Q2 P T.a1 t w fun v w=>Q3 P .and T.a1 (.tmp 18) (.const (.int .i64 1)) v (.int .i64 1) w fun B w=>E3 P T.g [(0,(.int .i64 2)),(1,B)] w fun N w=>Q3 P .eql T.g (.tmp 16) (.tmp 20) D N w fun n w=>X1 n (K (.string ⟨#[98,111,111,108]⟩) w) (Q2 P T.g a w fun A w=>fieldAddr P T.g a 2 w fun e w=>Q2 P T.c e w fun q w=>E3 P T.g [(0,(.int .i64 3)),(2,q)] w fun y w=>Q3 P .eql T.g (.tmp 23) (.tmp 26) A y w fun b w=>Q0 b true w (fieldAddr P T.g a 2) fun C w=>Q0 b true w (Q2 P T.c C) fun s w=>Q0 b true w (X2 P .len [T.c] T.e [false] [s]) fun g w=>Q0 b true w (Q3 P .leq T.e (.tmp 31) (.const (.int .i64 4096)) g (.int .i64 4096)) fun d w=>pick P b d (.bool false) w fun c w=>Q0 c true w (fieldAddr P T.g a 2) fun E w=>Q0 c true w (Q2 P T.c E) fun l w=>Q0 c true w (Q1 P F.aZ [l]) fun k w=>pick P c k (.bool false) w fun m w=>X1 m (K (.string ⟨#[116,101,120,116]⟩) w) (Q2 P T.g a w fun p w=>fieldAddr P T.g a 3 w fun i w=>Q2 P T.e i w fun z w=>E3 P T.g [(0,(.int .i64 4)),(3,z)] w fun r w=>Q3 P .eql T.g (.tmp 40) (.tmp 43) p r w fun f w=>X1 f (fieldAddr P T.g a 3 w fun h w=>Q2 P T.e h w fun M w=>Q1 P F.az [Q,M] w fun o w=>K o w) (K (.string ⟨#[]⟩) w)))))
theorem Q2q {a b:Value} {w:World} {K:Value→World→Prop} (h:Su a b w K):Q1 P F.ce [a,b] w K:=Q9 (List.replicate 13 none) Tryz.func31 rfl (by decide) (by kernel_rfl) h
def Ve (a f:Value) (w:World) (K:Value→World→Prop):Prop:= Q1 P F.aa [a,f] w fun h w=>J8 P .not h w fun g w=>X1 g (K (.tuple #[a,(.bool false)]) w) (X2 P .len [T.c] T.e [false] [a] w fun c w=>X2 P .len [T.c] T.e [false] [f] w fun b w=>Q3 P .sub T.e (.tmp 13) (.tmp 15) c b w fun d w=>R6 P T.c a none (some d) none w fun e w=>K (.tuple #[e,(.bool true)]) w)
theorem Co {a b:Value} {w:World} {K:Value→World→Prop} (h:Ve a b w K):Q1 P F.cf [a,b] w K:=Q9 (List.replicate 5 none) Tryz.func180 rfl (by decide) (by kernel_rfl) h
def Dd (c e:Value) (w:World) (K:Value→World→Prop):Prop:= Q1 P F.cf [c,e] w fun b w=>ext P b 0 w fun d w=>ext P b 1 w fun a w=>K (.tuple #[d,a]) w
theorem Aj {a b:Value} {w:World} {K:Value→World→Prop} (h:Dd a b w K):Q1 P F.bI [a,b] w K:=Q9 (List.replicate 2 none) Tryz.func146 rfl (by decide) (by kernel_rfl) h
def Q23 (g:Value) (w:World) (K:Value→World→Prop):Prop:= Q1 P F.bI [g,(.string ⟨#[91,93]⟩)] w fun f w=>ext P f 0 w fun i w=>ext P f 1 w fun h w=>J8 P .not h w fun a w=>Q0 a false w (fun w J=>J g w) fun d w=>Q0 a false w (Q1 P F.z [d]) fun b w=>Q0 a false w (J8 P .not b) fun c w=>pick P a (.bool true) c w fun e w=>X1 e (K (.string ⟨#[]⟩) w) (K i w)
theorem Q6M {a:Value} {w:World} {K:Value→World→Prop} (h:Q23 a w K):Q1 P F.c5 [a] w K:=Q9 (List.replicate 6 none) Tryz.func97 rfl (by decide) (by kernel_rfl) h
def Mw (d g:Value) (w:World) (K:Value→World→Prop):Prop:= box P T.b d w fun a w=>fieldAddr P T.b a 0 w fun e w=>Q2 P T.c e w fun b w=>Q2 P T.c g w fun f w=>Q3 P .eql T.c (.tmp 5) (.tmp 6) b f w fun c w=>K c w
theorem Pm {a b:Value} {w:World} {K:Value→World→Prop} (h:Mw a b w K):Q1 P F.bo [a,b] w K:=Q9 (List.replicate 2 none) Tryz.func110 rfl (by decide) (by kernel_rfl) h
def Ef (e d z:Value) (w:World) (K:Value→World→Prop):Prop:= box P T.c z w fun a w=>Q1 P F.s [e,d] w fun p w=>J8 P .not p w fun b w=>Q0 b false w (fun w J=>J e w) fun v w=>Q0 b false w (Q2 P T.c a) fun t w=>Q0 b false w (Q1 P F.s [v,t]) fun u w=>Q0 b false w (J8 P .not u) fun r w=>pick P b (.bool true) r w fun o w=>X1 o (K (.bool false) w) (Q2 P T.c a w fun y w=>Q3 P .eql T.c (.tmp 19) (.tmp 20) d y w fun k w=>X1 k (K (.bool true) w) (Q1 P F.aN [d] w fun c w=>Q0 c false w (Q2 P T.c a) fun q w=>Q0 c false w (Q1 P F.aN [q]) fun n w=>pick P c (.bool true) n w fun l w=>X1 l (K (.bool false) w) (Q3 P .eql T.c (.tmp 30) (.const (.string ⟨#[110,117,108,108]⟩)) d (.string ⟨#[110,117,108,108]⟩) w fun f w=>X1 f (K (.bool true) w) (Q1 P F.c5 [d] w fun g w=>Q3 P .neq T.c (.tmp 34) (.const (.string ⟨#[]⟩)) g (.string ⟨#[]⟩) w fun s w=>X1 s (Q2 P T.c a w fun j w=>Q3 P .eql T.c (.tmp 36) (.const (.string ⟨#[79,98,106,101,99,116]⟩)) j (.string ⟨#[79,98,106,101,99,116]⟩) w fun i w=>K i w) (H1 P (.func F.bo) [] [a] w fun m w=>Q1 P F.w [e,d,m] w fun h w=>K h w)))))
theorem Q0N {b c a:Value} {w:World} {K:Value→World→Prop} (h:Ef b c a w K):Q1 P F.bR [b,c,a] w K:=Q9 (List.replicate 13 none) Tryz.func62 rfl (by decide) (by kernel_rfl) h
def El (l o m:Value) (w:World) (K:Value→World→Prop):Prop:= box P T.g o w fun b w=>Q2 P T.g b w fun n w=>Q1 P F.ce [l,n] w fun c w=>Q3 P .neq T.c (.tmp 11) (.const (.string ⟨#[]⟩)) c (.string ⟨#[]⟩) w fun a w=>Q0 a true w (fun w J=>J l w) fun e w=>Q0 a true w (nilCheck P e) fun f w=>Q0 a true w (fieldAddr P T.p f 0) fun j w=>Q0 a true w (Q2 P T.r j) fun i w=>Q0 a true w (fun w J=>J c w) fun d w=>Q0 a true w (fun w J=>J m w) fun g w=>Q0 a true w (Q1 P F.bR [i,d,g]) fun k w=>pick P a k (.bool false) w fun h w=>K h w
theorem Q0P {b c a:Value} {w:World} {K:Value→World→Prop} (h:El b c a w K):Q1 P F.aB [b,c,a] w K:=Q9 (List.replicate 3 none) Tryz.func27 rfl (by decide) (by kernel_rfl) h
def Ep (t z v:Value) (w:World) (K:Value→World→Prop):Prop:= box P T.m z w fun a w=>fieldAddr P T.m a 0 w fun u w=>Q2 P T.c u w fun y w=>Q1 P F.c5 [y] w fun m w=>Q3 P .neq T.c (.tmp 11) (.const (.string ⟨#[]⟩)) m (.string ⟨#[]⟩) w fun r w=>X1 r (K m w) (dr w fun b k=>Q5 b (fun g=> ∀w,k w→nilCheck P t w (dk b g w)) fun g=>Q5 b (fun e=> ∀h w,k w→g h w→fieldAddr P T.p h 0 w (dk b e w)) fun e=>Q5 b (fun c=> ∀w,k w→fieldAddr P T.m a 0 w (dk b c w)) fun c=>Q5 b (fun i=> ∀f w,k w→e f w→Q2 P T.r f w (dk b i w)) fun i=>Q5 b (fun j=> ∀d w,k w→c d w→Q2 P T.c d w (dk b j w)) fun j=>∀h f d l n w,k w→g h w→e f w→c d w→i l w→j n w→ Q1 P F.a2 [l,n] w fun s w=>indexAddr P T.k s v w fun p w=>fieldAddr P T.o p 1 w fun q w=>Q2 P T.c q w fun o w=>K o w)
theorem Q0c {b c a:Value} {w:World} {K:Value→World→Prop} (h:Ep b c a w K):Q1 P F.aC [b,c,a] w K:=Q9 (List.replicate 6 none) Tryz.func52 rfl (by decide) (by kernel_rfl) h
def Vs (g h:Value) (w:World) (K:Value→World→Prop):Prop:= Q1 P F.j [g,h] w fun a w=>Q0 a true w (fun w J=>J g w) fun i w=>Q0 a true w (fun w J=>J h w) fun f w=>Q0 a true w (Q1 P F.h [i,f]) fun c w=>Q0 a true w (F3 P T.b c 4) fun e w=>Q0 a true w (J8 P .not e) fun d w=>pick P a d (.bool false) w fun b w=>K b w
theorem Fa {a b:Value} {w:World} {K:Value→World→Prop} (h:Vs a b w K):Q1 P F.aD [a,b] w K:=Q9 (List.replicate 2 none) Tryz.func66 rfl (by decide) (by kernel_rfl) h
end Go.Proofs.YtjdiakhipmggjaaGreatDoor
