/- Parts of a proof about the given program: its functions as texts of their own, what each computes, plain laws of that. The conditions of each stand in its statement. -/
import Derived.WalkKit
import Derived.Test.YtjdiakhipmggjaaGreatDoorProg
import Derived.KernelRfl
set_option linter.unnecessarySimpa false
set_option linter.defProp false
set_option linter.unusedSectionVars false
set_option linter.unusedVariables false
set_option linter.unusedSimpArgs false
namespace Go.Emb
def P5 (P:Program) (s:Sem Next) (w:World) (K:Value→World→Prop):Prop:=
 match s.run P w with
 | .ok (.value v) w'=>K v w'
 | .ok .skip w'=>K undef w'
 | .ok (.enter f a) w'=>Calls P f a w' fun e b=>match e with | .returned v=>K v b | _=>False
 | .ok (.row row a) w'=>Rows P row a w' K
 | _=>False
theorem X11: ∃f:Program→Sem Next→World→(Value→World→Prop)→Prop,f=P5:=⟨_,rfl⟩
noncomputable def op:Program→Sem Next→World→(Value→World→Prop)→Prop:=Classical.choose X11
theorem T9:op=P5:=Classical.choose_spec X11
theorem X37 {P:Program} {o:Oper} {a:Act} {w:World} {next:Act→World→Prop} {Q:Exit→Act→World→Prop}
 (h:op P (execOp a.eval o) w (fun v w=>next (a.put o.dst v) w)):o.wp P a w next Q:=by
 unfold Oper.wp
 rw[T9] at h
 unfold P5 at h
 cases c:(execOp a.eval o).run P w with
 | halt x w'=>rw[c] at h;exact h.elim
 | ok n w'=>
  rw[c] at h
  cases n<;>simp only at h<;>try exact h.elim
  ·exact h
  ·exact h
  ·refine Calls.mono h fun e d b=>?_
   cases e<;>first | exact b | exact b.elim
  ·exact h
theorem Rc {P:Program} {s:Sem Next} {K b:Value→World→Prop} {w:World} (a: ∀v w,K v w→b v w) (h:op P s w K):op P s w b:=by
 rw[T9] at*
 unfold P5 at*
 cases c:s.run P w with
 | halt x w'=>rw[c] at h;exact h.elim
 | ok n w'=>
  rw[c] at h
  cases n<;>simp only at h⊢ <;>try exact h.elim
  ·exact a _ _ h
  ·exact a _ _ h
  ·refine Calls.mono h fun e f d=>?_
   cases e<;>first | exact a _ _ d | exact d.elim
  ·exact h.mono a
def sv (s:Sem Value):Sem Next:=do Pure.pure (.value (←s))
def su (s:Sem Unit):Sem Next:=do s;Pure.pure .skip
section
variable (P : Program)
noncomputable def pick (c a b:Value) (w:World) (K:Value→World→Prop):Prop:=op P (do Pure.pure (.value (if←asBool c then a else b))) w K
noncomputable def W0 (e:TypeId) (w:World) (K:Value→World→Prop):Prop:=op P (sv (Instr.alloc e true (.tuple #[]))) w K
noncomputable def box (e:TypeId) (x:Value) (w:World) (K:Value→World→Prop):Prop:=op P (sv (Instr.box e x)) w K
noncomputable def H1 (t:TypeId) (a:List (Nat×Value)) (w:World) (K:Value→World→Prop):Prop:=op P (sv (Instr.build t a.toArray)) w K
noncomputable def buildSlice (t:TypeId) (n:Nat) (a:List (Nat×Value)) (w:World) (K:Value→World→Prop):Prop:=op P (sv (Instr.buildSlice t n a.toArray)) w K
noncomputable def Q2 (t:TypeId) (a:Value) (w:World) (K:Value→World→Prop):Prop:=op P (sv (Instr.loadAt t a)) w K
noncomputable def Y0 (t:TypeId) (a x:Value) (w:World) (K:Value→World→Prop):Prop:=op P (su (Instr.storeAt t a x)) w K
noncomputable def nilCheck (x:Value) (w:World) (K:Value→World→Prop):Prop:=op P (execOp (fun _=>x) {dst:=none,op:= .nilCheck (.const x),type:=0,pos:= "",after:= #[],guard:=none}) w K
noncomputable def Q3 (o:BinOp) (t:TypeId) (b a:Operand) (x y:Value) (w:World) (K:Value→World→Prop):Prop:=op P (sv (do eqGuard o t b a x y;Go.binOp o t x y)) w K
noncomputable def J7 (o:UnOp) (x:Value) (w:World) (K:Value→World→Prop):Prop:=op P (sv (Op.unary o x)) w K
noncomputable def conv (s d:TypeId) (x:Value) (w:World) (K:Value→World→Prop):Prop:=op P (sv (Go.convert s d x)) w K
noncomputable def X1q (t:TypeId) (x:Value) (w:World) (K:Value→World→Prop):Prop:=op P (sv (Instr.makeInterface t x)) w K
noncomputable def E8 (f:Fn) (first caps:List Value) (w:World) (K:Value→World→Prop):Prop:=op P (sv (Instr.makeFunc f first.toArray caps.toArray)) w K
noncomputable def Ib (t:TypeId) (r:Option Value) (w:World) (K:Value→World→Prop):Prop:=op P (sv (Instr.makeMap t r)) w K
noncomputable def Dk (t:TypeId) (n c:Value) (w:World) (K:Value→World→Prop):Prop:=op P (sv (Instr.makeSlice t n c)) w K
noncomputable def R2 (t:TypeId) (x:Value) (b a c:Option Value) (w:World) (K:Value→World→Prop):Prop:=op P (sv (Instr.sliceAt t x b a c)) w K
noncomputable def fieldAddr (t:TypeId) (x:Value) (f:Nat) (w:World) (K:Value→World→Prop):Prop:=op P (sv (Instr.fieldAt t x f)) w K
noncomputable def G1 (t:TypeId) (x:Value) (f:Nat) (w:World) (K:Value→World→Prop):Prop:=op P (sv (Instr.field t x f)) w K
noncomputable def indexAddr (t:TypeId) (x i:Value) (w:World) (K:Value→World→Prop):Prop:=op P (sv (Instr.indexAt t x i)) w K
noncomputable def S6 (t:TypeId) (x i:Value) (w:World) (K:Value→World→Prop):Prop:=op P (sv (Instr.index t x i)) w K
noncomputable def lookup (t:TypeId) (x i:Value) (ok:Bool) (w:World) (K:Value→World→Prop):Prop:=op P (sv (Instr.lookup t x i ok)) w K
noncomputable def mapUpdate (t:TypeId) (m k x:Value) (w:World) (K:Value→World→Prop):Prop:=op P (su (Instr.mapUpdate t m k x)) w K
noncomputable def mapEntry (t:TypeId) (m k:Value) (w:World) (K:Value→World→Prop):Prop:=op P (sv (Instr.mapEntry t m k)) w K
noncomputable def entryStore (t:TypeId) (m s x:Value) (w:World) (K:Value→World→Prop):Prop:=op P (su (Instr.entryStore t m s x)) w K
noncomputable def rng (t:TypeId) (x:Value) (w:World) (K:Value→World→Prop):Prop:=op P (sv (Instr.range t x)) w K
noncomputable def W3 (b:Value) (a:Bool) (t:TypeId) (w:World) (K:Value→World→Prop):Prop:=op P (sv (Instr.next b a t)) w K
noncomputable def Q7t (a:Value) (w:World) (K:Value→World→Prop):Prop:=op P (sv (Instr.entry a)) w K
noncomputable def pnc (x:Value) (w:World) (K:Value→World→Prop):Prop:=op P (sv (Instr.panic x)) w K
noncomputable def ext (x:Value) (i:Nat) (w:World) (K:Value→World→Prop):Prop:=op P (sv (Instr.extract x i)) w K
noncomputable def X3 (b:Builtin) (a:List TypeId) (t:TypeId) (cs:List Bool) (xs:List Value) (w:World) (K:Value→World→Prop):Prop:=op P (Go.builtin b a.toArray t cs.toArray xs.toArray) w K
noncomputable def Q1 (f:FuncId) (xs:List Value) (w:World) (K:Value→World→Prop):Prop:=op P (callFunc f xs.toArray) w K
noncomputable def Z3 (f:Value) (xs:List Value) (w:World) (K:Value→World→Prop):Prop:=op P (do let d←Deferred.ofValue f xs.toArray;invoke d.target d.args) w K
end
def get (l:List Value) (t:Nat):Value:=l.getD t undef
def ev (l:List Value):Operand→Value
 | .tmp t=>get l t
 | .const v=>v
 | .global g=> .pointer (some ⟨g,0,none⟩)
 | .func f=> .func (.func f) #[] #[]
def put (l:List Value) (d:Option Tmp) (v:Value):List Value:=
 match d with
 | some d=>l.set d v
 | none=>l
def evs (l:List Value) (xs:Array Operand):List Value:=xs.toList.map (ev l)
def evp (l:List Value) (xs:Array (Nat×Operand)):List (Nat×Value):=xs.toList.map fun p=>(p.1,ev l p.2)
def evo (l:List Value) (x:Option Operand):Option Value:=match x with | some x=>some (ev l x) | none=>none
def isC:Operand→Bool | .const _=>true | _=>false
noncomputable def Dm (P:Program) (l:List Value) (o:Oper) (c:Call) (w:World) (K:Value→World→Prop):Prop:=
 match c.callee with
 | .builtin b=>X3 P b c.argTypes.toList o.type (c.args.toList.map isC) (evs l c.args) w K
 | .value (.func f)=>Q1 P f (evs l c.args) w K
 | .value f=>Z3 P (ev l f) (evs l c.args) w K
 | _=>op P (execOp (ev l) o) w K
noncomputable def W9 (P:Program) (l:List Value) (o:Oper) (w:World) (K:Value→World→Prop):Prop:=
 match o.op with
 | .move x=>K (ev l x) w
 | .assign x=>K (ev l x) w
 | .pick c a b=>pick P (ev l c) (ev l a) (ev l b) w K
 | .alloc e=>W0 P e w K
 | .box e x=>box P e (ev l x) w K
 | .build t h=>H1 P t (evp l h) w K
 | .buildSlice t n h=>buildSlice P t n (evp l h) w K
 | .load t a=>Q2 P t (ev l a) w K
 | .store t a x=>Y0 P t (ev l a) (ev l x) w K
 | .nilCheck x=>nilCheck P (ev l x) w K
 | .binOp op t x y _=>Q3 P op t x y (ev l x) (ev l y) w K
 | .unOp op _ x=>J7 P op (ev l x) w K
 | .convert s d x=>conv P s d (ev l x) w K
 | .makeInterface t x=>X1q P t (ev l x) w K
 | .makeFunc f first caps=>E8 P f (evs l first) (evs l caps) w K
 | .makeMap t r=>Ib P t (evo l r) w K
 | .makeSlice t n c=>Dk P t (ev l n) (ev l c) w K
 | .slice t x p u q=>R2 P t (ev l x) (evo l p) (evo l u) (evo l q) w K
 | .fieldAddr t x f=>fieldAddr P t (ev l x) f w K
 | .field t x f=>G1 P t (ev l x) f w K
 | .indexAddr t x i=>indexAddr P t (ev l x) (ev l i) w K
 | .index t x i=>S6 P t (ev l x) (ev l i) w K
 | .lookup t x i ok=>lookup P t (ev l x) (ev l i) ok w K
 | .mapUpdate t m k x=>mapUpdate P t (ev l m) (ev l k) (ev l x) w K
 | .insert t m k x=>mapUpdate P t (ev l m) (ev l k) (ev l x) w K
 | .mapEntry t m k=>mapEntry P t (ev l m) (ev l k) w K
 | .entryStore t m s x=>entryStore P t (ev l m) (ev l s) (ev l x) w K
 | .range t x=>rng P t (ev l x) w K
 | .next g j=>W3 P (ev l g) j o.type w K
 | .extract x i=>ext P (ev l x) i w K
 | .entry g=>Q7t P (ev l g) w K
 | .panic x=>pnc P (ev l x) w K
 | .call c=>Dm P l o c w K
 | _=>op P (execOp (ev l) o) w K
theorem Q7x {α β:Type} (f:α→β) (a:Array α):a.map f=(a.toList.map f).toArray:=by rw[←Array.toList_map,Array.toArray_toList]
theorem X1g (l:List Value) (x:Option Operand):x.map (ev l)=evo l x:=by cases x<;>rfl
theorem Q5u {P:Program} {l:List Value} {o:Oper} {c:Call} {K e:Value→World→Prop} {w:World} (a: ∀v w,K v w→e v w) (h:Dm P l o c w K):Dm P l o c w e:=by
 obtain ⟨d,g,i⟩:=c
 cases d with
 | builtin b=>exact Rc a h
 | invoke r m=>exact Rc a h
 | value f=>cases f<;>(simp only[Dm,Z3,Q1] at h⊢;exact Rc a h)
theorem I6 {P:Program} {l:List Value} {o:Oper} {K b:Value→World→Prop} {w:World} (a: ∀v w,K v w→b v w) (h:W9 P l o w K):W9 P l o w b:=by
 obtain ⟨d,p,e,pos,c,g⟩:=o
 cases p<;>first | exact a _ _ h | exact Q5u a h | exact Rc a h | (simp only[W9] at h⊢;exact Rc a h)
theorem Q6y {P:Program} {l:List Value} {o:Oper} {K:Value→World→Prop} {w:World} (h:W9 P l o w K):op P (execOp (ev l) o) w K:=by
 unfold W9 at h
 split at h<;>rename_i a
 all_goals first
  | exact h
  | (unfold execOp;rw[a];exact h)
  | (unfold execOp;rw[a];simp only[Q7x,X1g];exact h)
  | (unfold execOp;rw[a,T9];exact h)
  | skip
 rename_i c
 unfold Dm at h
 split at h<;>rename_i b
 ·unfold execOp;rw[a];simp only[resolve,b,Q7x]
  simp only[pure_bind,invoke]
  unfold X3 at h
  simp only[Array.toArray_toList] at h
  refine (congrArg (fun z=>op P (builtin _ c.argTypes o.type (List.toArray z) _) w K) (List.map_congr_left (fun x _=>?_))).mp h
  cases x<;>rfl
 ·unfold execOp;rw[a];simp only[resolve,b,Q7x]
  simp only[ev,Deferred.ofValue,pure_bind,invoke]
  simpa [Q1,evs] using h
 ·unfold execOp;rw[a];simp only[resolve,b,Q7x]
  exact h
 ·exact h
def Me (v:Value) (b:Bool) (w:World) (a:World→(Value→World→Prop)→Prop) (J:Value→World→Prop):Prop:=
 match v with
 | .bool c=>if c=b then a w J else J undef w
 | _=>J undef w
theorem Q9z: ∃f:Value→Bool→World→(World→(Value→World→Prop)→Prop)→(Value→World→Prop)→Prop,f=Me:=⟨_,rfl⟩
noncomputable def Q0:Value→Bool→World→(World→(Value→World→Prop)→Prop)→(Value→World→Prop)→Prop:=Classical.choose Q9z
theorem Dy:Q0=Me:=Classical.choose_spec Q9z
def Q3j (v:Value) (t e:Prop):Prop:=
 match v with
 | .bool true=>t
 | .bool false=>e
 | _=>False
theorem Q93: ∃f:Value→Prop→Prop→Prop,f=Q3j:=⟨_,rfl⟩
noncomputable def X1:Value→Prop→Prop→Prop:=Classical.choose Q93
theorem Q4Q:X1=Q3j:=Classical.choose_spec Q93
noncomputable def Z5 (P:Program) (ops:List Oper) (next:List Value→World→Prop):List Oper→List Value→World→Prop
 | [],l,w=>next l w
 | o::a,l,w=>
  match o.guard with
  | none=>W9 P l o w (fun v w=>Z5 P ops next a (put l o.dst v) w)
  | some (j,b)=>match (ops[j]?).bind (·.dst) with
   | some d=>Q0 (get l d) b w (W9 P l o) (fun v w=>Z5 P ops next a (put l o.dst v) w)
   | none=>Z5 P ops next a (put l o.dst undef) w
def Pv:Nat→Type
 | 0=>Unit
 | 1=>Value
 | n+2=>Value×Pv (n+1)
def Ny (l:List Value):(a:List Nat)→Pv a.length
 | []=>()
 | [s]=>get l s
 | s::t::r=>(get l s,Ny l (t::r))
def Hv (i:Nat) (e:Value):(a:List Nat)→Pv a.length→Value
 | [],_=>e
 | [s],x=>if s=i then x else e
 | s::t::r,x=>if s=i then x.1 else Hv i e (t::r) x.2
def H2 (a b:List Nat) (x:Pv a.length) (d:Nat→Value):Nat→List Value→List Value
 | _,[]=>[]
 | i,v::l=>Hv i (if b.contains i then d i else v) a x::H2 a b x d (i+1) l
def X0X (α:Type) (x0:α) (w:World) (a:(α→World→Prop)→α→(Nat→Value)→World→Prop):Prop:=
 ∃(I:α→World→Prop) (μ:α→World→Nat),I x0 w∧ ∀x d w,I x w→a (fun b w'=>I b w'∧μ b w'<μ x w) x d w
theorem X0U: ∃f:(α:Type)→α→World→((α→World→Prop)→α→(Nat→Value)→World→Prop)→Prop,f=X0X:=⟨_,rfl⟩
noncomputable def lp {α:Type}:α→World→((α→World→Prop)→α→(Nat→Value)→World→Prop)→Prop:=Classical.choose X0U α
theorem X0L {α:Type} (x0:α) (w:World) (a:(α→World→Prop)→α→(Nat→Value)→World→Prop):lp x0 w a=X0X α x0 w a:=
 congrFun (congrFun (congrFun (congrFun (Classical.choose_spec X0U) α) x0) w) a
def X0Q (α:Type) (w:World) (A:(α→World→Prop)→World→Prop) (B:α→(Nat→Value)→World→Prop):Prop:=
 ∃I:α→World→Prop,A I w∧ ∀x d w,I x w→B x d w
theorem X18: ∃f:(α:Type)→World→((α→World→Prop)→World→Prop)→(α→(Nat→Value)→World→Prop)→Prop,f=X0Q:=⟨_,rfl⟩
noncomputable def jn {α:Type}:World→((α→World→Prop)→World→Prop)→(α→(Nat→Value)→World→Prop)→Prop:=Classical.choose X18 α
theorem X13 {α:Type} (w:World) (A:(α→World→Prop)→World→Prop) (B:α→(Nat→Value)→World→Prop):jn w A B=X0Q α w A B:=
 congrFun (congrFun (congrFun (congrFun (Classical.choose_spec X18) α) w) A) B
theorem Up {α:Type} {w:World} {A:(α→World→Prop)→World→Prop} {B:α→(Nat→Value)→World→Prop} (I:α→World→Prop) (h:A I w) (a: ∀x d w,I x w→B x d w):jn w A B:=by
 rw[X13];exact ⟨I,h,a⟩
theorem Q4O {α:Type} {w:World} {A:(α→World→Prop)→World→Prop} {B:α→(Nat→Value)→World→Prop} (h:jn w A B): ∃I:α→World→Prop,A I w∧ ∀x d w,I x w→B x d w:=by
 rw[X13] at h;exact h
theorem Vv {α:Type} {x0:α} {w:World} {a:(α→World→Prop)→α→(Nat→Value)→World→Prop} (I:α→World→Prop) (μ:α→World→Nat) (c:I x0 w)
 (e: ∀x d w,I x w→a (fun b w'=>I b w'∧μ b w'<μ x w) x d w):lp x0 w a:=by
 rw[X0L];exact ⟨I,μ,c,e⟩
theorem Q9f {α:Type} {x0:α} {w:World} {a:(α→World→Prop)→α→(Nat→Value)→World→Prop} (h:lp x0 w a):
 ∃(I:α→World→Prop) (μ:α→World→Nat),I x0 w∧ ∀x d w,I x w→a (fun b w'=>I b w'∧μ b w'<μ x w) x d w:=by
 rw[X0L] at h;exact h
def R4 (ops:List Oper):List Nat:=ops.filterMap (·.dst)
def Qi:Code→Nat
 | .seq a b=>Qi a+Qi b+1
 | .cond _ a b=>Qi a+Qi b
 | .block _ c=>Qi c
 | .loop c=>Qi c+1
 | .scope c=>Qi c
 | _=>0
def N2 (d:List (Option (List Nat))):Nat→Code→List Nat
 | _, .region _ ops _=>R4 ops.toList
 | k, .seq a b=>(d.getD k none).getD []++(N2 d (k+1) a++N2 d (k+1+Qi a) b)
 | k, .cond _ a b=>N2 d k a++N2 d (k+Qi a) b
 | k, .block _ c=>N2 d k c
 | k, .loop c=>(d.getD k none).getD []++N2 d (k+1) c
 | k, .scope c=>N2 d k c
 | _,_=>[]
abbrev Ey:=Exit→List Value→World→Prop
def thn (next:List Value→World→Prop) (Q:Ey):Ey
 | .normal,a,w=>next a w
 | e,a,w=>Q e a w
def Q3b (id:Nat) (Q:Ey):Ey
 | .exit b,a,w=>if b=id then Q .normal a w else Q (.exit b) a w
 | e,a,w=>Q e a w
noncomputable def Ov (P:Program) (a:List (Option (List Nat))):Nat→Code→Ey→List Value→World→Prop
 | _, .skip,Q,l,w=>Q .normal l w
 | _, .label _,Q,l,w=>Q .normal l w
 | _, .exit id,Q,l,w=>Q (.exit id) l w
 | _, .ret,Q,l,w=>Q .ret l w
 | _, .region _ ops false,Q,l,w=>Z5 P ops.toList (fun l w=>Q .normal l w) ops.toList l w
 | _, .region _ ops true,Q,l,w=> ∀t,Z5 P ops.toList (fun l w=>Q .normal l w) ((Region.schedule (P.follows .mixedOrders) ops t).filterMap (ops[·]?)) l w.drew
 | k, .seq x y,Q,l,w=>match a.getD k none with
  | none=>Ov P a (k+1) x (thn (fun l w=>Ov P a (k+1+Qi x) y Q l w) Q) l w
  | some e=>jn w (fun J w=>Ov P a (k+1) x (thn (fun l' w'=>J (Ny l' e) w') Q) l w)
   (fun z d w=>Ov P a (k+1+Qi x) y Q (H2 e (N2 a (k+1) x) z d 0 l) w)
 | k, .cond c x y,Q,l,w=>X1 (ev l c) (Ov P a k x Q l w) (Ov P a (k+Qi x) y Q l w)
 | k, .block id c,Q,l,w=>Ov P a k c (Q3b id Q) l w
 | k, .loop c,Q,l,w=>
  lp (Ny l ((a.getD k none).getD [])) w (fun b x d w=>Ov P a (k+1) c (thn (fun l' w'=>b (Ny l' ((a.getD k none).getD [])) w') Q) (H2 ((a.getD k none).getD []) (N2 a (k+1) c) x d 0 l) w)
 | _,_,_,_,_=>False
theorem Q8e {ops:List Oper} {l:List Value} {o:Oper} {j:Nat} {b:Bool} (a:o.guard=some (j,b)) {d:Nat} (e:(ops[j]?).bind (·.dst)=some d):
 Region.wanted o (yielded ops.toArray l.toArray)=true↔get l d= .bool b:=by
 unfold Region.wanted yielded
 rw[a]
 simp only[List.getElem?_toArray]
 rw[e]
 simp only[Option.bind_some,get,List.getD_eq_getElem?_getD]
 have key: ∀x:Option Value,((match x with | some (.bool c)=>some c | _=>none)==some b)=true↔x.getD undef= .bool b:=by
  intro x
  cases x with
  | none=>simp[undef]
  | some v=>cases v<;>simp
 exact key _
theorem Q6J {ops:List Oper} {l:List Value} {o:Oper} {j:Nat} {b:Bool} (a:o.guard=some (j,b)) (c:(ops[j]?).bind (·.dst)=none):
 Region.wanted o (yielded ops.toArray l.toArray)=false:=by
 unfold Region.wanted yielded
 rw[a]
 simp only[List.getElem?_toArray]
 rw[c]
 rfl
theorem Wu {v:Value} {b:Bool} {a:World→(Value→World→Prop)→Prop} {J:Value→World→Prop} {w:World} (h:Q0 v b w a J):
 (v= .bool b∧a w J)∨(v≠ .bool b∧J undef w):=by
 rw[Dy] at h
 unfold Me at h
 split at h
 ·split at h
  ·rename_i c;subst c;exact .inl ⟨rfl,h⟩
  ·rename_i c;exact .inr ⟨by simp[c],h⟩
 ·rename_i d;exact .inr ⟨d b,h⟩
theorem Q15 {v:Value} {b:Bool} {a:World→(Value→World→Prop)→Prop} {J:Value→World→Prop} {w:World}
 (h:(v= .bool b∧a w J)∨(v≠ .bool b∧J undef w)):Q0 v b w a J:=by
 rw[Dy]
 unfold Me
 split
 ·split
  ·rename_i c;subst c
   rcases h with h | h
   ·exact h.2
   ·exact absurd rfl h.1
  ·rename_i c
   rcases h with h | h
   ·exact absurd (Value.bool.inj h.1) c
   ·exact h.2
 ·rename_i d
  rcases h with h | h
  ·exact absurd h.1 (d b)
  ·exact h.2
theorem Q3O (a:Act):a.eval=ev a.tmps.toList:=by
 funext x
 cases x<;>simp[Act.eval,ev,get,List.getD_eq_getElem?_getD]
theorem Q8t (a:Act) (d:Option Tmp) (v:Value):(a.put d v).tmps.toList=put a.tmps.toList d v:=by
 cases d<;>simp[Act.put,put]
theorem Q7z (a:Act) (d:Option Tmp) (v:Value):(a.put d v).defers=a.defers:=by
 cases d<;>simp[Act.put]
def lift (Q:Ey):Exit→Act→World→Prop:=fun e a w=>a.defers=[]∧Q e a.tmps.toList w
theorem Q0l (P:Program) (ops:Array Oper) (Q:Exit→Act→World→Prop) (next:List Value→World→Prop)
 (u: ∀a w,a.defers=[]→next a.tmps.toList w→Q .normal a w) (is:List Nat) (r: ∀i∈is,i<ops.size):
 ∀(a:Act) (w:World),a.defers=[]→Z5 P ops.toList next (is.filterMap (ops[·]?)) a.tmps.toList w→wpOps P ops Q is a w:=by
 induction is with
 | nil=>intro a w o h;exact u a w o h
 | cons i is t=>
  intro a w o h
  have p:=r i (by simp)
  have m:ops[i]? =some ops[i]:=by simp[p]
  rw[List.filterMap_cons,m] at h
  simp only[Z5] at h
  simp only[wpOps,m]
  have q:ops.toList.toArray=ops:=by simp
  have s:a.tmps.toList.toArray=a.tmps:=by simp
  have f: ∀{v w},Z5 P ops.toList next (is.filterMap (ops[·]?)) (put a.tmps.toList ops[i].dst v) w→wpOps P ops Q is (a.put ops[i].dst v) w:=by
   intro v w e
   refine t (fun j y=>r j (by simp[y])) _ _ (by rw[Q7z];exact o) ?_
   rw[Q8t];exact e
  have k:W9 P a.tmps.toList ops[i] w (fun v w=>Z5 P ops.toList next (is.filterMap (ops[·]?)) (put a.tmps.toList ops[i].dst v) w)→
   ops[i].wp P a w (wpOps P ops Q is) Q:=by
   intro h
   refine X37 ?_
   rw[Q3O]
   exact Rc (fun v w e=>f e) (Q6y h)
  split at h
  ·rename_i n
   rw[if_pos (by simp[Region.wanted,n])]
   exact .inl (k h)
  ·rename_i j b n
   split at h
   ·rename_i d c
    have g:=Q8e (ops:=ops.toList) (l:=a.tmps.toList) n c
    rw[q,s] at g
    rcases Wu h with ⟨e,h⟩ | ⟨e,h⟩
    ·rw[if_pos (g.2 e)];exact .inl (k h)
    ·rw[if_neg (fun h=>e (g.1 h))];exact f h
   ·rename_i c
    have g:=Q6J (ops:=ops.toList) (l:=a.tmps.toList) n c
    rw[q,s] at g
    rw[if_neg (by rw[g];simp)];exact f h
theorem Tm (ops:Array Oper):(List.range ops.size).filterMap (ops[·]?)=ops.toList:=by
 apply List.ext_getElem?
 intro i
 rw[←Array.length_toList]
 have: ∀l:List Oper,(List.range l.length).filterMap (l[·]?)=l:=by
  intro l
  induction l with
  | nil=>rfl
  | cons x l a=>
   rw[List.length_cons,List.range_succ_eq_map,List.filterMap_cons]
   simp only[List.getElem?_cons_zero,List.filterMap_map]
   congr 1
 have h:=this ops.toList
 simp only[Array.getElem?_toList] at h
 rw[h]
theorem Q27 (b:Bool) (ops:Array Oper) (t:Nat): ∀i∈Region.schedule b ops t,i<ops.size:=by
 have key: ∀m c t a e,(∀i∈e,i<ops.size)→ ∀i∈Region.linearise.go m ops c t a e,i<ops.size:=by
  intro m c
  induction c with
  | zero=>intro t a e h i d;simp[Region.linearise.go] at d;exact h i d
  | succ c f=>
   intro t a e h i d
   simp only[Region.linearise.go] at d
   split at d
   ·rename_i j g
    refine f _ _ _ ?_ i d
    intro k hk
    rcases List.mem_cons.1 hk with rfl | hk
    ·have:=List.mem_of_getElem? g
     simp only[List.mem_filter,List.mem_range] at this
     exact this.1
    ·exact h k hk
   ·simp at d;exact h i d
 intro i d
 unfold Region.schedule at d
 split at d
 ·exact key _ _ _ _ _ (by simp) i d
 ·exact key _ _ _ _ _ (by simp) i d
def Qm (W:List Nat) (l l':List Value):Prop:=l'.length=l.length∧ ∀i,W.contains i=false→l'[i]? =l[i]?
theorem Qm.refl (W:List Nat) (l:List Value):Qm W l l:=⟨rfl,fun _ _=>rfl⟩
theorem Qm.trans {W:List Nat} {a b c:List Value} (h:Qm W a b) (k:Qm W b c):Qm W a c:=
 ⟨k.1.trans h.1,fun i d=>(k.2 i d).trans (h.2 i d)⟩
theorem Sc (a c:List Nat) (x:Pv a.length) (d:Nat→Value) (l:List Value): ∀i,(H2 a c x d i l).length=l.length:=by
 induction l with
 | nil=>intro i;rfl
 | cons v l b=>intro i;simp[H2,b]
theorem Cz (a b:List Nat) (x:Pv a.length) (d:Nat→Value) (l:List Value): ∀i j,(H2 a b x d i l)[j]? =(l[j]?).map fun v=>Hv (i+j) (if b.contains (i+j) then d (i+j) else v) a x:=by
 induction l with
 | nil=>intro i j;simp[H2]
 | cons v l c=>
  intro i j
  cases j with
  | zero=>simp[H2]
  | succ j=>simp only[H2,List.getElem?_cons_succ,c];rw[show i+1+j=i+(j+1) from by omega]
theorem Vk (i:Nat) (e:Value): ∀(b:List Nat) (x:Pv b.length),b.contains i=false→Hv i e b x=e
 | [],_,_=>rfl
 | [s],x,h=>by
  have a: ¬s=i:=by intro a;subst a;simp at h
  exact if_neg a
 | s::t::r,x,h=>by
  simp only[Hv]
  split
  ·rename_i a;subst a;simp at h
  ·refine Vk i e (t::r) x.2 ?_
   simp only[List.contains_cons,Bool.or_eq_false_iff] at h⊢
   exact h.2
theorem Q5D (l:List Value) (i:Nat) (e c:Value): ∀(b:List Nat),b.contains i=true→Hv i e b (Ny l b)=get l i
 | [],h=>by simp at h
 | [s],h=>by
  simp only[List.contains_cons,List.contains_nil,Bool.or_false,beq_iff_eq] at h
  subst h;simp[Hv,Ny]
 | s::t::r,h=>by
  simp only[Hv,Ny]
  split
  ·rename_i a;subst a;rfl
  ·rename_i a
   refine Q5D l i e c (t::r) ?_
   simp only[List.contains_cons,Bool.or_eq_true,beq_iff_eq] at h⊢
   rcases h with h | h
   ·exact absurd h.symm a
   ·exact h
theorem Pf (a c:List Nat) (l l':List Value) (k:l'.length=l.length)
 (h: ∀i,a.contains i=false→c.contains i=false→l'[i]? =l[i]?):l'=H2 a c (Ny l' a) (get l') 0 l:=by
 apply List.ext_getElem?
 intro i
 rw[Cz]
 simp only[Nat.zero_add]
 cases e:l[i]? with
 | none=>
  have:=List.getElem?_eq_none_iff.1 e
  simp only[Option.map_none]
  exact List.getElem?_eq_none (by omega)
 | some v=>
  have m:i<l.length:=(List.getElem?_eq_some_iff.1 e).1
  have g:l'[i]? =some (get l' i):=by
   simp only[get,List.getD_eq_getElem?_getD]
   rw[List.getElem?_eq_getElem (by omega)];rfl
  rw[g]
  simp only[Option.map_some,Option.some.injEq]
  by_cases j:a.contains i=true
  ·rw[Q5D l' i _ undef a j]
  ·have b:a.contains i=false:=by simpa using j
   rw[Vk _ _ _ _ b]
   by_cases f:c.contains i=true
   ·rw[if_pos f]
   ·have d:c.contains i=false:=by simpa using f
    rw[if_neg f]
    have:=h i b d
    rw[g,e] at this
    exact Option.some.inj this
theorem Q4n {v:Value} {t e a b:Prop} (c:t→a) (d:e→b) (h:X1 v t e):X1 v a b:=by
 rw[Q4Q] at*
 unfold Q3j at*
 split at h
 ·exact c h
 ·exact d h
 ·exact h.elim
theorem Ub (P:Program) (c:List Oper) (next b:List Value→World→Prop) (W:List Nat) (k:List Value): ∀(ops:List Oper) (l:List Value) (w:World),
 (∀o∈ops,∀d,o.dst=some d→W.contains d=true)→Qm W k l→(∀l w,next l w→Qm W k l→b l w)→Z5 P c next ops l w→Z5 P c b ops l w
 | [],l,w,_,j,p,h=>p l w h j
 | o::f,l,w,r,j,p,h=>by
  have g: ∀v,Qm W k (put l o.dst v):=by
   intro v
   cases s:o.dst with
   | none=>exact j
   | some d=>
    have y:=r o (by simp) d s
    refine j.trans ⟨by simp[put],fun i q=>?_⟩
    have:d≠i:=by intro e;subst e;rw[y] at q;cases q
    simp[put,this]
  have a: ∀v w,Z5 P c next f (put l o.dst v) w→Z5 P c b f (put l o.dst v) w:=fun v w t=>
   Ub P c next b W k f _ w (fun o u=>r o (by simp[u])) (g v) p t
  simp only[Z5] at h⊢
  split at h
  ·exact I6 a h
  ·split at h
   ·refine Q15 ((Wu h).imp (fun ⟨n,m⟩=>⟨n,I6 a m⟩) (fun ⟨n,m⟩=>⟨n,a _ _ m⟩))
   ·exact a _ _ h
theorem Q3U {α:Type} {x0:α} {c a:(α→World→Prop)→α→(Nat→Value)→World→Prop} {w:World}
 (f: ∀b x d w,c b x d w→a b x d w) (h:lp x0 w c):lp x0 w a:=by
 obtain ⟨I,μ,g,i⟩:=Q9f h
 exact Vv I μ g fun x d w e=>f _ _ _ _ (i x d w e)
theorem P7 {a b:List Nat} {i:Nat} (h:a.contains i=true):(a++b).contains i=true:=by simp at h⊢;exact .inl h
theorem H9 {a b:List Nat} {i:Nat} (h:b.contains i=true):(a++b).contains i=true:=by simp at h⊢;exact .inr h
theorem Q4o (P:Program) (q:List (Option (List Nat))) (c:Code): ∀(k:Nat) (Q A:Ey) (W:List Nat) (m l:List Value) (w:World),
 (∀i,(N2 q k c).contains i=true→W.contains i=true)→Qm W m l→
 (∀e l w,Q e l w→Qm W m l→A e l w)→Ov P q k c Q l w→Ov P q k c A l w:=by
 induction c with
 | skip=>intro k Q A W m l w _ g j h;exact j _ _ _ h g
 | label n=>intro k Q A W m l w _ g j h;exact j _ _ _ h g
 | exit id=>intro k Q A W m l w _ g j h;exact j _ _ _ h g
 | ret=>intro k Q A W m l w _ g j h;exact j _ _ _ h g
 | goto n=>intro k Q A W m l w _ g j h;exact h.elim
 | refuse s=>intro k Q A W m l w _ g j h;exact h.elim
 | scope c=>intro k Q A W m l w _ g j h;exact h.elim
 | rangeFunc f p a b=>intro k Q A W m l w _ g j h;exact h.elim
 | region id ops N=>
  intro k Q A W m l w B g j h
  have O: ∀o∈ops.toList,∀d,o.dst=some d→W.contains d=true:=by
   intro o R d hd
   refine B d ?_
   simp only[N2,R4,List.contains_eq_mem,List.mem_filterMap,decide_eq_true_eq]
   exact ⟨o,R,hd⟩
  cases N with
  | false=>exact Ub P _ _ _ W m _ _ _ O g (fun l w Z g=>j _ _ _ Z g) h
  | true=>
   intro t
   refine Ub P _ _ _ W m _ _ _ ?_ g (fun l w Z g=>j _ _ _ Z g) (h t)
   intro o R
   simp only[List.mem_filterMap] at R
   obtain ⟨i,_,r⟩:=R
   exact O o (by simpa using Array.mem_of_getElem? r)
 | seq x y D E=>
  intro k Q A W m l w B g j h
  have X: ∀i,(N2 q (k+1) x).contains i=true→W.contains i=true:=fun i r=>B i (H9 (P7 r))
  have hy: ∀i,(N2 q (k+1+Qi x) y).contains i=true→W.contains i=true:=fun i r=>B i (H9 (H9 r))
  simp only[Ov] at h⊢
  split at h
  ·refine D _ _ _ W m l w X g ?_ h
   intro e l' w' C u
   cases e with
   | normal=>exact E _ _ _ W m l' w' hy u j C
   | _=>exact j _ _ _ C u
  ·rename_i sl Y
   obtain ⟨J,M,L⟩:=Q4O h
   refine Up J (D _ _ _ W m l w X g ?_ M) fun z d w hz=>?_
   ·intro e l' w' C u
    cases e with
    | normal=>exact C
    | _=>exact j _ _ _ C u
   ·refine E _ _ _ W m _ w hy (g.trans ⟨Sc _ _ _ _ _ _,fun i r=>?_⟩) j (L z d w hz)
    rw[Cz]
    have M:sl.contains i=false:=by
     cases H:sl.contains i with
     | false=>rfl
     | true=>rw[B i (P7 (by rw[Y];exact H))] at r;cases r
    have L:(N2 q (k+1) x).contains i=false:=by
     cases H:(N2 q (k+1) x).contains i with
     | false=>rfl
     | true=>rw[X i H] at r;cases r
    simp only[Nat.zero_add]
    cases hl:l[i]? with
    | none=>rfl
    | some v=>simp only[Option.map_some,Vk _ _ _ _ M,L,Bool.false_eq_true,if_false]
 | cond c x y D E=>
  intro k Q A W m l w B g j h
  exact Q4n (D k _ _ W m l w (fun i r=>B i (P7 r)) g j) (E _ _ _ W m l w (fun i r=>B i (H9 r)) g j) h
 | block id c V=>
  intro k Q A W m l w B g j h
  refine V k _ _ W m l w B g ?_ h
  intro e l' w' C u
  cases e with
  | exit af=>simp only[Q3b] at C⊢;split<;>rename_i U<;>simp only[U,if_true,if_false] at C<;>exact j _ _ _ C u
  | _=>exact j _ _ _ C u
 | loop c V=>
  intro k Q A W m l w B g j h
  refine Q3U (fun aa x d w hb=>?_) h
  refine V _ _ _ W m _ _ (fun i r=>B i (H9 r)) ?_ ?_ hb
  ·refine g.trans ⟨Sc _ _ _ _ _ _,fun i r=>?_⟩
   rw[Cz]
   have M:((q.getD k none).getD []).contains i=false:=by
    cases H:((q.getD k none).getD []).contains i with
    | false=>rfl
    | true=>rw[B i (P7 H)] at r;cases r
   have L:(N2 q (k+1) c).contains i=false:=by
    cases H:(N2 q (k+1) c).contains i with
    | false=>rfl
    | true=>rw[B i (H9 H)] at r;cases r
   simp only[Nat.zero_add]
   cases hl:l[i]? with
   | none=>rfl
   | some v=>simp only[Option.map_some,Vk _ _ _ _ M,L,Bool.false_eq_true,if_false]
  ·intro e l' w' C u
   cases e with
   | normal=>exact C
   | _=>exact j _ _ _ C u
theorem Q9l (P:Program) (g:List (Option (List Nat))) (c:Code): ∀(k:Nat) (Q:Ey) (a:Act) (w:World),
 a.defers=[]→Ov P g k c Q a.tmps.toList w→c.wp P (lift Q) a w:=by
 induction c with
 | skip=>intro k Q a w j h;exact wp_skip ⟨j,h⟩
 | label n=>intro k Q a w j h;exact wp_label ⟨j,h⟩
 | exit id=>intro k Q a w j h;exact wp_exit ⟨j,h⟩
 | ret=>intro k Q a w j h;exact wp_ret ⟨j,h⟩
 | goto n=>intro k Q a w j h;exact h.elim
 | refuse s=>intro k Q a w j h;exact h.elim
 | scope c=>intro k Q a w j h;exact h.elim
 | rangeFunc f p a b=>intro k Q a w j h;exact h.elim
 | region id ops E=>
  intro k Q a w j h
  cases E with
  | false=>
   refine wp_region (Q0l P ops _ _ (fun a w j h=>⟨j,h⟩) _ (by simp) a w j ?_)
   rw[Tm];exact h
  | true=>
   refine wp_region_draw fun t=>?_
   exact Q0l P ops _ _ (fun a w j h=>⟨j,h⟩) _ (Q27 _ _ _) a _ j (h t)
 | seq x y r u=>
  intro k Q a w j h
  simp only[Ov] at h
  split at h
  ·refine wp_seq (wp_mono (r _ _ a w j h) ?_)
   intro e o w' ⟨m,q⟩
   cases e with
   | normal=>exact u _ _ o w' m q
   | _=>exact ⟨m,q⟩
  ·rename_i Y ac
   obtain ⟨J,R,A⟩:=Q4O h
   have H:=Q4o P g x (k+1) _ (fun e l' w'=>thn (fun l' w'=>J (Ny l' Y) w') Q e l' w'∧Qm (N2 g (k+1) x) a.tmps.toList l') (N2 g (k+1) x) a.tmps.toList a.tmps.toList w (fun _ h=>h) (Qm.refl _ _) (fun e l w h L=>⟨h,L⟩) R
   refine wp_seq (wp_mono (r (k+1) _ a w j H) ?_)
   intro e o w' ⟨m,q,z⟩
   cases e with
   | normal=>
    refine u (k+1+Qi x) _ o w' m ?_
    rw[Pf Y (N2 g (k+1) x) a.tmps.toList o.tmps.toList z.1 (fun i _ h=>z.2 i h)]
    exact A _ _ _ q
   | _=>exact ⟨m,q⟩
 | cond c x y r u=>
  intro k Q a w j h
  simp only[Ov,Q4Q,Q3j] at h
  split at h
  ·rename_i V
   exact wp_cond_true (by rw[Q3O];exact V) (r _ _ _ _ j h)
  ·rename_i V
   exact wp_cond_false (by rw[Q3O];exact V) (u _ _ _ _ j h)
  ·exact h.elim
 | block id c O=>
  intro k Q a w j h
  refine wp_block (wp_mono (O k _ a w j h) ?_)
  intro e o w' ⟨m,q⟩
  cases e with
  | exit ab=>
   simp only[Q3b,Exit.inBlock] at q⊢
   split<;>rename_i N<;>simp only[N,if_true,if_false] at q<;>exact ⟨m,q⟩
  | _=>exact ⟨m,q⟩
 | loop c O=>
  intro k Q a w j h
  obtain ⟨I,μ,h0,hr⟩:=Q9f h
  refine wp_loop (fun o w'=>o.defers=[]∧(∃d,o.tmps.toList=H2 ((g.getD k none).getD []) (N2 g (k+1) c) (Ny o.tmps.toList ((g.getD k none).getD [])) d 0 a.tmps.toList)∧I (Ny o.tmps.toList ((g.getD k none).getD [])) w') (fun o w'=>μ (Ny o.tmps.toList ((g.getD k none).getD [])) w') ⟨j,⟨get a.tmps.toList,Pf _ _ _ _ rfl (fun _ _ _=>rfl)⟩,h0⟩ ?_
  intro B w1 ⟨U,⟨d1,v⟩,M⟩
  have X:=hr _ d1 w1 M
  dsimp only at X
  rw[←v] at X
  have W:=Q4o P g c (k+1) _ (fun e l' w'=>thn (fun l' w'=>I (Ny l' ((g.getD k none).getD [])) w'∧μ (Ny l' ((g.getD k none).getD [])) w'<μ (Ny B.tmps.toList ((g.getD k none).getD [])) w1) Q e l' w'∧Qm (N2 g (k+1) c) B.tmps.toList l') (N2 g (k+1) c) B.tmps.toList B.tmps.toList w1 (fun _ h=>h) (Qm.refl _ _) (fun e l w h L=>⟨h,L⟩) X
  refine wp_mono (O _ _ B w1 U W) ?_
  intro e Z w2 ⟨D,A,C⟩
  cases e with
  | normal=>
   refine ⟨⟨D,⟨get Z.tmps.toList,Pf _ _ _ _ ?_ ?_⟩,A.1⟩,A.2⟩
   ·rw[C.1,v,Sc]
   ·intro i R H
    rw[C.2 i H,v,Cz]
    simp only[Nat.zero_add,Vk _ _ _ _ R,H,Bool.false_eq_true,if_false,Option.map_id']
  | _=>exact ⟨D,A⟩
def Q7E:List Value→Nat→Value→(List Value→Prop)→Prop
 | [],_,_,k=>k []
 | _::l,0,v,k=>k (v::l)
 | x::l,n+1,v,k=>Q7E l n v (fun l'=>k (x::l'))
def Q3w (l:List Value) (d:Option Tmp) (v:Value) (k:List Value→Prop):Prop:=
 match d with
 | some d=>Q7E l d v k
 | none=>k l
def Q85:List Value→Nat→(Value→Prop)→Prop
 | [],_,k=>k undef
 | x::_,0,k=>k x
 | _::l,n+1,k=>Q85 l n k
def evK (l:List Value) (o:Operand) (k:Value→Prop):Prop:=
 match o with
 | .tmp t=>Q85 l t k
 | .const v=>k v
 | .global g=>k (.pointer (some ⟨g,0,none⟩))
 | .func f=>k (.func (.func f) #[] #[])
def Q2E (i:Nat) (e:Value):(a:List Nat)→Pv a.length→(Value→Prop)→Prop
 | [],_,k=>k e
 | [s],x,k=>if s=i then k x else k e
 | s::t::r,x,k=>if s=i then k x.1 else Q2E i e (t::r) x.2 k
def Fu (a b:List Nat) (x:Pv a.length) (d:Nat→Value):Nat→List Value→(List Value→Prop)→Prop
 | _,[],k=>k []
 | i,v::l,k=>match b.contains i with
  | true=>Q2E i (d i) a x (fun u=>Fu a b x d (i+1) l (fun l'=>k (u::l')))
  | false=>Q2E i v a x (fun u=>Fu a b x d (i+1) l (fun l'=>k (u::l')))
theorem X1n (l:List Value): ∀(n:Nat) (v:Value) (k:List Value→Prop),Q7E l n v k=k (l.set n v):=by
 induction l with
 | nil=>intro n v k;rfl
 | cons x l a=>intro n v k;cases n with
  | zero=>rfl
  | succ n=>simp only[Q7E,a,List.set_cons_succ]
theorem Q7o (l:List Value) (d:Option Tmp) (v:Value) (k:List Value→Prop):Q3w l d v k=k (put l d v):=by
 cases d with
 | none=>rfl
 | some d=>exact X1n l d v k
theorem X1G (l:List Value): ∀(n:Nat) (k:Value→Prop),Q85 l n k=k (get l n):=by
 induction l with
 | nil=>intro n k;rfl
 | cons x l a=>intro n k;cases n with
  | zero=>rfl
  | succ n=>simp only[Q85,a];rfl
theorem X2a (l:List Value) (o:Operand) (k:Value→Prop):evK l o k=k (ev l o):=by
 cases o with
 | tmp t=>exact X1G l t k
 | _=>rfl
theorem Q0c (i:Nat) (e:Value) (k:Value→Prop): ∀(a:List Nat) (x:Pv a.length),Q2E i e a x k=k (Hv i e a x)
 | [],_=>rfl
 | [s],x=>by
  by_cases h:s=i
  ·exact (if_pos h).trans (congrArg k (if_pos h).symm)
  ·exact (if_neg h).trans (congrArg k (if_neg h).symm)
 | s::t::r,x=>by
  by_cases h:s=i
  ·exact (if_pos h).trans (congrArg k (if_pos h).symm)
  ·exact ((if_neg h).trans (Q0c i e k (t::r) x.2)).trans (congrArg k (if_neg h).symm)
theorem Q3Y (a c:List Nat) (x:Pv a.length) (d:Nat→Value) (l:List Value): ∀(i:Nat) (k:List Value→Prop),Fu a c x d i l k=k (H2 a c x d i l):=by
 induction l with
 | nil=>intro i k;rfl
 | cons v l b=>
  intro i k
  simp only[Fu,H2]
  split
  ·rename_i h;rw[Q0c,b,if_pos h]
  ·rename_i h;rw[Q0c,b,if_neg (by rw[h];simp)]
theorem Bb (b c a:List Nat) (h: ∀i,c.contains i=a.contains i) (x:Pv b.length) (d:Nat→Value) (l:List Value): ∀i,H2 b c x d i l=H2 b a x d i l:=by
 induction l with
 | nil=>intro i;rfl
 | cons v l e=>intro i;simp only[H2,e,h]
noncomputable def A8 (P:Program) (ops:List Oper) (next:List Value→World→Prop):List Oper→List Value→World→Prop
 | [],l,w=>next l w
 | o::a,l,w=>
  match o.guard with
  | none=>match o.op with
   | .move x=>evK l x fun v=>Q3w l o.dst v fun l=>A8 P ops next a l w
   | .assign x=>evK l x fun v=>Q3w l o.dst v fun l=>A8 P ops next a l w
   | _=>W9 P l o w (fun v w=>Q3w l o.dst v fun l=>A8 P ops next a l w)
  | some (j,b)=>match (ops[j]?).bind (·.dst) with
   | some d=>Q0 (get l d) b w (W9 P l o) (fun v w=>Q3w l o.dst v fun l=>A8 P ops next a l w)
   | none=>Q3w l o.dst undef fun l=>A8 P ops next a l w
theorem Kq (P:Program) (ops:List Oper) (next:List Value→World→Prop) (os:List Oper): ∀(l:List Value) (w:World),A8 P ops next os l w=Z5 P ops next os l w:=by
 induction os with
 | nil=>intro l w;rfl
 | cons o c a=>
  intro l w
  obtain ⟨dst,p,e,pos,d,g⟩:=o
  cases g with
  | none=>cases p<;>simp only[A8,Z5,Q7o,X2a,a,W9]
  | some q=>obtain ⟨j,b⟩:=q;simp only[A8,Z5,Q7o,a]
def Sv (T:World→World→Prop) (φ:Value→World→Prop):Prop:= ∀v w w',φ v w→T w w'→φ v w'
def dk (T:World→World→Prop) (φ:Value→World→Prop) (w:World):Value→World→Prop:=fun v w'=>T w w'∧φ v w'
def Q5M (T:World→World→Prop) (A:(Value→World→Prop)→Prop) (a:(Value→World→Prop)→Prop):Prop:=
 ∃φ,Sv T φ∧A φ∧a φ
theorem Q9M: ∃f:(World→World→Prop)→((Value→World→Prop)→Prop)→((Value→World→Prop)→Prop)→Prop,f=Q5M:=⟨_,rfl⟩
noncomputable def Q6:(World→World→Prop)→((Value→World→Prop)→Prop)→((Value→World→Prop)→Prop)→Prop:=Classical.choose Q9M
theorem Q9d:Q6=Q5M:=Classical.choose_spec Q9M
def Q7H (w:World) (A:(World→World→Prop)→(World→Prop)→Prop):Prop:= ∃T B,B w.drew∧(∀w w',B w→T w w'→B w')∧A T B
theorem X0S: ∃f:World→((World→World→Prop)→(World→Prop)→Prop)→Prop,f=Q7H:=⟨_,rfl⟩
noncomputable def dr:World→((World→World→Prop)→(World→Prop)→Prop)→Prop:=Classical.choose X0S
theorem X0Z:dr=Q7H:=Classical.choose_spec X0S
theorem Im {w:World} {A:(World→World→Prop)→(World→Prop)→Prop} (T:World→World→Prop) (B:World→Prop) (h:B w.drew) (b: ∀w w',B w→T w w'→B w') (a:A T B):dr w A:=by
 rw[X0Z];exact ⟨T,B,h,b,a⟩
theorem E7 {T:World→World→Prop} {A a:(Value→World→Prop)→Prop} (φ:Value→World→Prop) (b:Sv T φ) (h:A φ) (c:a φ):Q6 T A a:=by
 rw[Q9d];exact ⟨φ,b,h,c⟩
def Q3r (T:World→World→Prop) (A a:(List Value→Value→World→Prop)→Prop):Prop:=
 ∃φ,(∀xs,Sv T (φ xs))∧A φ∧a φ
theorem Q72: ∃f:(World→World→Prop)→((List Value→Value→World→Prop)→Prop)→((List Value→Value→World→Prop)→Prop)→Prop,f=Q3r:=⟨_,rfl⟩
noncomputable def Sk:(World→World→Prop)→((List Value→Value→World→Prop)→Prop)→((List Value→Value→World→Prop)→Prop)→Prop:=Classical.choose Q72
theorem Q6W:Sk=Q3r:=Classical.choose_spec Q72
theorem Q3u {T:World→World→Prop} {A a:(List Value→Value→World→Prop)→Prop} (φ:List Value→Value→World→Prop) (b: ∀xs,Sv T (φ xs)) (h:A φ) (c:a φ):Sk T A a:=by
 rw[Q6W];exact ⟨φ,b,h,c⟩
noncomputable def runOp (P:Program) (ops:List Oper) (l:List Value) (o:Oper) (w:World) (K:Value→World→Prop):Prop:=
 match o.guard with
 | none=>W9 P l o w K
 | some (j,b)=>match (ops[j]?).bind (·.dst) with
  | some d=>Q0 (get l d) b w (W9 P l o) K
  | none=>False
inductive Ent where
  | val (v : Value)
  | ref (j : Nat)
def Ent.at (u:Nat→Value):Ent→Value
 | .val v=>v
 | .ref j=>u j
def A5 (u:Nat→Value) (S:List Ent):List Value:=S.map (Ent.at u)
def getE:List Ent→Nat→Ent
 | [],_=> .val undef
 | x::_,0=>x
 | _::l,n+1=>getE l n
def entOf (S:List Ent):Operand→Ent
 | .tmp t=>getE S t
 | .const v=> .val v
 | .global g=> .val (.pointer (some ⟨g,0,none⟩))
 | .func f=> .val (.func (.func f) #[] #[])
def mv (o:Oper):Option Operand:=
 match o.guard with
 | some _=>none
 | none=>match o.op with
  | .move x=>some x
  | .assign x=>some x
  | _=>none
def Q2g:List Ent→Nat→Ent→List Ent
 | [],_,_=>[]
 | _::l,0,e=>e::l
 | x::l,n+1,e=>x::Q2g l n e
def putE (S:List Ent) (d:Option Nat) (e:Ent):List Ent:=
 match d with
 | some d=>Q2g S d e
 | none=>S
def B0 (o:Oper):List Nat:=o.op.operands.toList.filterMap fun | .tmp t=>some t | _=>none
def H7 (ops:List Oper) (o:Oper):List Nat:=
 match o.guard with
 | none=>[]
 | some (j,_)=>match (ops[j]?).bind (·.dst) with | some d=>[d] | none=>[]
def Q1c:List Nat→List Nat
 | []=>[]
 | x::l=>x::(Q1c l).filter (fun y=> !(y==x))
def Q4H:Ent→List Nat
 | .ref j=>[j]
 | .val _=>[]
def Q1l (S:List Ent):List Nat→List Nat
 | []=>[]
 | s::l=>Q4H (getE S s)++Q1l S l
def refs (ops:List Oper) (S:List Ent) (o:Oper):List Nat:=Q1c (Q1l S (H7 ops o++B0 o))
def Kz:List Nat→(Nat→Value)→((Nat→Value)→Prop)→Prop
 | [],u,k=>k u
 | j::a,u,k=> ∀t:Value,Kz a (fun n=>if n=j then t else u n) k
abbrev Rj:=List (Nat×List Nat×(List Value→Value→World→Prop))
def Uq:Rj→Nat→Option (List Nat×(List Value→Value→World→Prop))
 | [],_=>none
 | (i,φ)::l,j=>if i=j then some φ else Uq l j
def Kg (b:Rj) (u:Nat→Value) (w:World) (a:Prop):List Nat→Prop
 | []=>a
 | j::c=>match Uq b j with
  | some ([],φ)=>φ [] (u j) w→Kg b u w a c
  | _=>Kg b u w a c
def Q1d (b:Rj) (u:Nat→Value) (w:World) (a:Prop):List Nat→Prop
 | []=>a
 | j::c=>match Uq b j with
  | some (R,φ)=>φ (R.map u) (u j) w→Q1d b u w a c
  | none=>Q1d b u w a c
def Q8n (o:Oper):Bool:=match o.op with | .store .. =>true | _=>false
noncomputable def chain (P:Program) (ops:List Oper) (T:World→World→Prop) (B:World→Prop) (W3:List Value→World→Prop) (tail:List Oper):Nat→List Oper→List Ent→Rj→List Nat→Prop
 | _,[],S,b,done=>Kz done (fun _=>undef) fun u=> ∀w,B w→Q1d b u w (A8 P ops W3 tail (A5 u S) w) done
 | i,o::a,S,b,done=>
  match mv o with
  | some x=>chain P ops T B W3 tail (i+1) a (putE S o.dst (entOf S x)) b done
  | none=>match Q8n o with
   | true=>Sk T (fun φ=>Kz (refs ops S o) (fun _=>undef) fun u=> ∀w,B w→Kg b u w (runOp P ops (A5 u S) o w (dk T (φ ((refs ops S o).map u)) w)) (refs ops S o))
    (fun φ=>chain P ops T B W3 tail (i+1) a (putE S o.dst (.ref i)) (b++[(i,refs ops S o,φ)]) (done++[i]))
   | false=>Q6 T (fun φ=>Kz (refs ops S o) (fun _=>undef) fun u=> ∀w,B w→Kg b u w (runOp P ops (A5 u S) o w (dk T φ w)) (refs ops S o))
    (fun φ=>chain P ops T B W3 tail (i+1) a (putE S o.dst (.ref i)) (b++[(i,[],fun _=>φ)]) (done++[i]))
def Xr:Op→Bool
 | .ready _ | .waits _ | .sliceToArrayPointer .. | .makeChan .. | .typeAssert .. | .go _ | .defer _ | .send .. | .recv .. | .select .. =>false
 | .call c=>match c.callee with | .invoke .. =>false | _=>true
 | _=>true
theorem Cy {l l':List Value} {x:Option Operand} (h: ∀y∈x.toArray,ev l y=ev l' y):evo l x=evo l' x:=by
 cases x with
 | none=>rfl
 | some y=>simp only[evo];rw[h y (by simp)]
theorem Az {l l':List Value} {xs:Array Operand} (h: ∀y∈xs,ev l y=ev l' y):evs l xs=evs l' xs:=by
 unfold evs;exact List.map_congr_left fun y a=>h y (by simpa using a)
theorem Q4e {l l':List Value} {xs:Array (Nat×Operand)} (h: ∀y∈(xs.toList.map (·.2)).toArray,ev l y=ev l' y):evp l xs=evp l' xs:=by
 unfold evp
 refine List.map_congr_left fun y a=>?_
 rw[h y.2 (by simp;exact ⟨y.1,by simpa using a⟩)]
theorem Dp {P:Program} {l l':List Value} {o:Oper} (q:Xr o.op=true) (h: ∀x∈o.op.operands,ev l x=ev l' x):W9 P l o=W9 P l' o:=by
 obtain ⟨d,p,D,pos,B,g⟩:=o
 funext w K
 cases p with
 | call c=>
  obtain ⟨j,i,C⟩:=c
  have k:evs l i=evs l' i:=Az fun y e=>h y (by simp[Op.operands,Call.operands];exact .inr e)
  cases j with
  | invoke r m=>simp[Xr] at q
  | builtin b=>simp only[W9,Dm,k]
  | value f=>
   have z:ev l f=ev l' f:=h f (by simp[Op.operands,Call.operands])
   cases f<;>simp only[W9,Dm,k,z]
 | build t A=>simp only[W9];rw[Q4e h]
 | buildSlice t n A=>simp only[W9];rw[Q4e h]
 | makeFunc f a b=>
  simp only[W9]
  rw[Az (xs:=a) fun y e=>h y (by simp[Op.operands];exact .inl e),Az (xs:=b) fun y e=>h y (by simp[Op.operands];exact .inr e)]
 | makeMap t r=>simp only[W9];rw[Cy h]
 | slice t x s v u=>
  simp only[W9]
  rw[h x (by simp[Op.operands]),Cy (x:=s) fun y e=>h y (by simp[Op.operands] at e⊢;simp[e]),Cy (x:=v) fun y e=>h y (by simp[Op.operands] at e⊢;simp[e]),Cy (x:=u) fun y e=>h y (by simp[Op.operands] at e⊢;simp[e])]
 | _=>first
  | (simp[Xr] at q;done)
  | (simp only[Op.operands,List.mem_toArray,List.mem_cons,List.not_mem_nil,or_false,forall_eq_or_imp,forall_eq] at h;simp only[W9,h];done)
  | rfl
def Q0L:List Oper→List Nat→List Nat
 | [],acc=>acc
 | o::a,acc=>Q0L a (acc++[(o.after.toList.filter (Region.binds .any)).foldl (fun s e=>s ||| 2 ^ e.on ||| acc.getD e.on 0) 0])
def Qc (a b:Oper):Bool:=
 match a.dst with
 | some d=>(B0 b).contains d||b.dst==some d
 | none=>false
def Q75 (a:List Nat) (ops:List Oper):Bool:=
 ops.zipIdx.all fun (o,j)=>ops.zipIdx.all fun (q,i)=> !(decide (i<j))|| !(Qc q o||Qc o q)||(a.getD j 0).testBit i
def Lh (ops:List Oper):Bool:=
 ops.zipIdx.all fun (o,i)=>Xr o.op&&(o.after.toList.filter (Region.binds .any)).all (fun e=>decide (e.on<i))&&
  match o.guard with | none=>true | some (j,_)=>(o.after.toList.filter (Region.binds .any)).any (fun e=>e.on==j)
def Q4I (m:Region.Mode) (ops:List Oper):List Nat→List Nat→Bool
 | [],_=>true
 | j::L,seen=>((ops[j]?.map fun o=>o.after.toList).getD []).all (fun e=> !Region.binds m e||seen.contains e.on)&&Q4I m ops L (j::seen)
def Za (m:Region.Mode) (ops:List Oper) (L:List Nat):Bool:=
 Q4I m ops L []&&(List.range ops.length).all (L.contains ·)&&ops.all (fun o=>o.after.toList.all fun e=> !Region.binds m e||decide (e.on<ops.length))
def X2f (m:Region.Mode) (ops:List Oper):Nat→List Nat→List Nat→List Nat
 | 0,_,seen=>seen.reverse
 | n+1,a,seen=>
  match a.find? (fun j=>((ops[j]?.map fun o=>o.after.toList).getD []).all (fun e=> !Region.binds m e||seen.contains e.on)) with
  | some j=>X2f m ops n (a.erase j) (j::seen)
  | none=>seen.reverse
def Ua:List Nat→Bool
 | []=>true
 | x::l=> !l.contains x&&Ua l
def T6 (ops:List Oper) (j:Nat):List Nat:=(ops[j]?.map fun o=>(o.after.toList.filter (Region.binds .any)).map (·.on)).getD []
def Sa (ops:List Oper) (L:List Nat):Prop:= ∀a j b,L=a++j::b→ ∀i∈T6 ops j,i∈a
theorem Q4W (f:Edge→Nat) (l:List Edge): ∀(s i:Nat),(l.foldl (fun s e=>s ||| 2 ^ e.on ||| f e) s).testBit i=true→
 s.testBit i=true∨ ∃e∈l,e.on=i∨(f e).testBit i=true:=by
 induction l with
 | nil=>intro s i h;exact .inl h
 | cons e l b=>
  intro s i h
  rcases b _ _ h with h | ⟨a,c,h⟩
  ·simp only[Nat.testBit_or,Bool.or_eq_true] at h
   rcases h with (h | h) | h
   ·exact .inl h
   ·rw[Nat.testBit_two_pow] at h
    exact .inr ⟨e,by simp, .inl (by simpa using h)⟩
   ·exact .inr ⟨e,by simp, .inr h⟩
  ·exact .inr ⟨a,by simp[c],h⟩
theorem Q3W (a:List Oper): ∀(b:List Oper) (acc:List Nat),acc.length+b.length=a.length→(∀k,acc.length≤k→a[k]? =b[k-acc.length]?)→
 (∀j i,j<acc.length→(acc.getD j 0).testBit i=true→ ∃k∈T6 a j,k=i∨(k<j∧(acc.getD k 0).testBit i=true))→
 (∀j,j<a.length→ ∀k∈T6 a j,k<j)→
 ∀j i,j<a.length→((Q0L b acc).getD j 0).testBit i=true→ ∃k∈T6 a j,k=i∨(k<j∧((Q0L b acc).getD k 0).testBit i=true)
 | [],acc,q,_,d,_=>by
  intro j i t h
  exact d j i (by simp at q;omega) h
 | o::b,acc,q,g,d,p=>by
  have y:a[acc.length]? =some o:=by rw[g _ (Nat.le_refl _)];simp
  refine Q3W a b _ (by simp at q⊢;omega) ?_ ?_ p
  ·intro k l
   simp only[List.length_append,List.length_cons,List.length_nil] at l⊢
   rw[g k (by omega)]
   obtain ⟨m,z⟩: ∃m,k-acc.length=m+1:=⟨k-acc.length-1,by omega⟩
   rw[z,List.getElem?_cons_succ]
   congr 1;omega
  ·intro j i t h
   simp only[List.length_append,List.length_cons,List.length_nil] at t
   have c: ∀k,k<acc.length→(acc++[(o.after.toList.filter (Region.binds .any)).foldl (fun s e=>s ||| 2 ^ e.on ||| acc.getD e.on 0) 0]).getD k 0=acc.getD k 0:=by
    intro k l
    simp only[List.getD_eq_getElem?_getD]
    rw[List.getElem?_append_left l]
   by_cases n:j<acc.length
   ·rw[c j n] at h
    obtain ⟨k,l,h⟩:=d j i n h
    exact ⟨k,l,h.imp id fun ⟨w,u⟩=>⟨w,by rw[c k (by omega)];exact u⟩⟩
   ·have r:j=acc.length:=by omega
    subst r
    simp only[List.getD_eq_getElem?_getD,List.getElem?_append_right (Nat.le_refl _),Nat.sub_self,List.getElem?_cons_zero,Option.getD_some] at h
    rcases Q4W (fun e=>acc.getD e.on 0) _ _ _ (by simpa only[List.getD_eq_getElem?_getD] using h) with h | ⟨e,v,h⟩
    ·simp at h
    ·have f:e.on∈T6 a acc.length:=by
      unfold T6;rw[y];simp only[Option.map_some,Option.getD_some,List.mem_map];exact ⟨e,v,rfl⟩
     refine ⟨e.on,f,h.imp id fun h=>?_⟩
     have l:=p acc.length (by simp at q;omega) _ f
     exact ⟨l,by rw[c _ l];exact h⟩
theorem Pb {ops:List Oper} (h:Lh ops=true): ∀j,j<ops.length→ ∀k∈T6 ops j,k<j:=by
 intro j b k a
 simp only[Lh,List.all_eq_true,Bool.and_eq_true] at h
 unfold T6 at a
 rw[List.getElem?_eq_getElem b] at a
 simp only[Option.map_some,Option.getD_some,List.mem_map] at a
 obtain ⟨e,c,rfl⟩:=a
 have:=(h (ops[j],j) (by rw[List.mem_zipIdx_iff_getElem?];simp[b])).1.2 e c
 simpa using this
theorem Q66 {ops:List Oper} (m:Lh ops=true) {L:List Nat} (g:Sa ops L): ∀(j:Nat),j<ops.length→ ∀i b a,L=b++j::a→((Q0L ops []).getD j 0).testBit i=true→i∈b:=by
 intro j
 induction j using Nat.strongRecOn with
 | _ j o=>
  intro d i b a f q
  obtain ⟨k,n,h⟩:=Q3W ops ops [] (by simp) (by simp) (by intro j i d;simp at d) (Pb m) j i d q
  have c:=g b j a f k n
  rcases h with rfl | ⟨e,h⟩
  ·exact c
  ·obtain ⟨p,l,rfl⟩:=List.append_of_mem c
   have:=o k e (by omega) i p (l++j::a) (by rw[f];simp) h
   exact List.mem_append_left _ this
theorem Wm: ∀(n:Nat) (a:List Nat),(∀k,k<n→k∈a)→n≤a.length
 | 0,_,_=>Nat.zero_le _
 | n+1,a,h=>by
  have c:=Wm n (a.erase n) fun k b=>(List.mem_erase_of_ne (by omega)).2 (h k (by omega))
  have d:=List.length_erase_of_mem (h n (by omega))
  have e:=List.length_pos_of_mem (h n (by omega))
  omega
theorem F7: ∀(n:Nat) (l:List Nat),l.Nodup→(∀k∈l,k<n)→l.length≤n
 | 0,l,_,h=>by
  cases l with
  | nil=>simp
  | cons x l=>exact absurd (h x (by simp)) (by omega)
 | n+1,l,b,h=>by
  by_cases c:n∈l
  ·have g:=F7 n (l.erase n) (b.erase n) fun k a=>by
    have d:=h k (List.mem_of_mem_erase a)
    have f:k≠n:=fun e=>by subst e;exact (List.Nodup.not_mem_erase b) a
    omega
   have d:=List.length_erase_of_mem c
   have f:=List.length_pos_of_mem c
   omega
  ·have:=F7 n l b fun k a=>by
    have d:=h k a
    have f:k≠n:=fun e=>by subst e;exact c a
    omega
   omega
theorem Q9s {m:Region.Mode} {e:Edge} (h:Region.binds .any e=true):Region.binds m e=true:=by
 unfold Region.binds at h⊢
 cases a:e.ground<;>rw[a] at h<;>first | rfl | (exact absurd h (by simp<;>rfl)) | (simp at h;cases h)
theorem Q7I {m:Region.Mode} {ops:List Oper} {L:List Nat} (h:Za m ops L=true) (k:Nat) (a:k<ops.length): ∀e∈(ops[k]?.map fun o=>o.after.toList).getD [],Region.binds m e=true→e.on<ops.length:=by
 intro e b c
 simp only[Za,Bool.and_eq_true,List.all_eq_true] at h
 rw[List.getElem?_eq_getElem a] at b
 have:=h.2 ops[k] (List.getElem_mem a) e (by simpa using b)
 rw[c] at this
 simpa using this
theorem Q64 {m:Region.Mode} {ops:List Oper} {L:List Nat} (h:Za m ops L=true): ∀k,k<ops.length→k∈L:=by
 intro k a
 simp only[Za,Bool.and_eq_true,List.all_eq_true] at h
 simpa using h.1.2 k (by simpa using a)
theorem Q6Z (m:Region.Mode) (ops:Array Oper) (O:Lh ops.toList=true) (L0:List Nat) (R:Za m ops.toList L0=true): ∀(fuel t:Nat) (listed:Array Bool) (a:List Nat),
 fuel+a.length=ops.size→listed.size=ops.size→(∀i,i<ops.size→(listed.getD i true=true↔i∈a))→a.Nodup→(∀i∈a,i<ops.size)→Sa ops.toList a.reverse→
 (Region.linearise.go m ops fuel t listed a).Nodup∧(Region.linearise.go m ops fuel t listed a).length=ops.size∧Sa ops.toList (Region.linearise.go m ops fuel t listed a)
 | 0,t,listed,a,hf,_,_,hn,_,W=>by
  simp only[Region.linearise.go]
  exact ⟨List.pairwise_reverse.2 (hn.imp fun h=>Ne.symm h),by simp;omega,W⟩
 | fuel+1,t,listed,a,hf,u,J,hn,M,W=>by
  -- one that isn't listed may come
  have U: ∃k,k<ops.size∧k∉a:=by
   refine Classical.byContradiction fun ab=>?_
   have v: ∀k,k<ops.size→k∈a:=fun k hk=>Classical.byContradiction fun h=>ab ⟨k,hk,h⟩
   have:=Wm ops.size a v
   omega
  simp only[Region.linearise.go]
  split
  ·rename_i i hi
   have l:=List.mem_of_getElem? hi
   simp only[List.mem_filter,List.mem_range,Bool.and_eq_true,Bool.not_eq_true'] at l
   obtain ⟨c,w,n⟩:=l
   have E:i∉a:=fun h=>by rw[(J i c).2 h] at w;cases w
   refine Q6Z m ops O L0 R fuel _ _ _ (by simp;omega) (by simp[u]) ?_ (List.nodup_cons.2 ⟨E,hn⟩) ?_ ?_
   ·intro j hj
    by_cases q:i=j
    ·subst q;simp[Array.getD,u,c]
    ·have:(listed.setIfInBounds i true).getD j true=listed.getD j true:=by
      simp only[Array.getD_eq_getD_getElem?]
      rw[Array.getElem?_setIfInBounds_ne q]
     rw[this,J j hj]
     simp[Ne.symm q]
   ·intro j hj
    rcases List.mem_cons.1 hj with rfl | hj
    ·exact c
    ·exact M j hj
   ·rw[List.reverse_cons]
    intro af j C V k hk
    rcases List.eq_nil_or_concat C with rfl | ⟨p,x,rfl⟩
    ·have hh:=List.append_inj' V rfl
     obtain ⟨h1,h2⟩:=hh
     simp only[List.cons.injEq,and_true] at h2
     subst h2;subst h1
     have ae:=hk
     unfold T6 at hk
     rw[show ops.toList[i]? =some ops[i] by simp[c]] at hk
     simp only[Option.map_some,Option.getD_some,List.mem_map,List.mem_filter] at hk
     obtain ⟨e,⟨g,Y⟩,rfl⟩:=hk
     rw[show ops[i]? =some ops[i] by simp[c]] at n
     simp only[Option.map_some,Option.getD_some,Array.all_eq_true'] at n
     have h4:=n e (by simpa using g)
     simp only[Bool.or_eq_true,Bool.not_eq_true'] at h4
     rcases h4 with h4 | h4
     ·rw[Q9s Y] at h4;cases h4
     ·have an:=Pb O i (by simpa using c) e.on ae
      have:listed.getD e.on true=true:=by
       simp only[Array.getD_eq_getD_getElem?] at h4⊢
       rw[Array.getElem?_eq_getElem (by omega)] at h4⊢
       simpa using h4
      simpa using (J e.on (by omega)).1 this
    ·rw[List.concat_eq_append,←List.cons_append,←List.append_assoc] at V
     have hh:=List.append_inj' V rfl
     exact W af j p hh.1 k hk
  ·rename_i r
   exfalso
   obtain ⟨k0,H,A⟩:=U
   have z:=R
   simp only[Za,Bool.and_eq_true] at z
   -- every number of L0 that is none of an operation's has no edges: it may stand there, but isn't looked at
   have f: ∃k,k<ops.size∧k∉a∧ ∀e∈(ops.toList[k]?.map fun o=>o.after.toList).getD [],Region.binds m e=true→e.on∈a∨ops.size≤e.on:=by
    -- the first of L0 that is an operation's number and isn't listed
    have key: ∀(L b:List Nat),Q4I m ops.toList L b=true→(∀k∈b,k∈a∨ops.size≤k)→(∃k∈L,k<ops.size∧k∉a)→
     ∃k,k<ops.size∧k∉a∧ ∀e∈(ops.toList[k]?.map fun o=>o.after.toList).getD [],Region.binds m e=true→e.on∈a∨ops.size≤e.on:=by
     intro L
     induction L with
     | nil=>rintro b _ _ ⟨k,hk,_⟩;simp at hk
     | cons j L ih=>
      rintro b h hs ⟨k,hk,X,s⟩
      simp only[Q4I,Bool.and_eq_true,List.all_eq_true] at h
      by_cases hj:j∈a∨ops.size≤j
      ·refine ih (j::b) h.2 (fun x hx=>by rcases List.mem_cons.1 hx with rfl | hx;exact hj;exact hs x hx) ⟨k,?_,X,s⟩
       rcases List.mem_cons.1 hk with rfl | hk
       ·rcases hj with hj | hj
        ·exact absurd hj s
        ·omega
       ·exact hk
      ·have Z:j<ops.size:=by
        refine Nat.lt_of_not_le fun h=>hj (.inr h)
       refine ⟨j,Z,fun h=>hj (.inl h),fun e O Q=>?_⟩
       have:=h.1 e O
       rw[Q] at this
       exact hs _ (by simpa using this)
    exact key L0 [] z.1.1 (by simp) ⟨k0,Q64 R k0 (by simpa using H),H,A⟩
   obtain ⟨k,d,aa,N⟩:=f
   by_cases B:k∈(List.range ops.size).filter fun i=> !listed.getD i true&&((ops[i]?).map (·.after.all fun e=> !Region.binds m e||listed.getD e.on false)).getD false
   ·have y:=List.length_pos_of_mem B
    have:=List.getElem?_eq_none_iff.1 r
    have:=Nat.mod_lt t y
    omega
   ·refine B ?_
    simp only[List.mem_filter,List.mem_range,Bool.and_eq_true,Bool.not_eq_true']
    refine ⟨d,?_,?_⟩
    ·cases hc:listed.getD k true with
     | false=>rfl
     | true=>exact absurd ((J k d).1 hc) aa
    ·rw[show ops[k]? =some ops[k] by simp[d]]
     simp only[Option.map_some,Option.getD_some,Array.all_eq_true']
     intro e g
     simp only[Bool.or_eq_true,Bool.not_eq_true']
     cases Q:Region.binds m e with
     | false=>exact .inl rfl
     | true=>
      right
      rw[show ops.toList[k]? =some ops[k] by simp[d]] at N
      rcases N e (by simpa using g) Q with h | h
      ·have D:=M _ h
       have:=(J e.on D).2 h
       simp only[Array.getD_eq_getD_getElem?] at this⊢
       rw[Array.getElem?_eq_getElem (by omega)] at this⊢
       simpa using this
      ·exact absurd h (by
        have:=Q7I R k (by simpa using d) e (by rw[show ops.toList[k]? =some ops[k] by simp[d]];simpa using g) Q
        simp at this;omega)
theorem Q4z (b:Bool) (ops:Array Oper) (t:Nat) (f:Lh ops.toList=true) (e: ∀m,∃L,Za m ops.toList L=true):
 (Region.schedule b ops t).Nodup∧(Region.schedule b ops t).length=ops.size∧Sa ops.toList (Region.schedule b ops t):=by
 have key: ∀m t,(Region.linearise m ops t).Nodup∧(Region.linearise m ops t).length=ops.size∧Sa ops.toList (Region.linearise m ops t):=by
  intro m t
  obtain ⟨L,g⟩:=e m
  refine Q6Z m ops f L g _ _ _ _ (by simp) (by simp) ?_ List.nodup_nil (by simp) ?_
  ·intro i c;simp[Array.getD,c]
  ·intro d j a h;simp at h
 unfold Region.schedule
 split<;>exact key _ _
theorem Yr: ∀(ops:List Oper),Ua (R4 ops)=true→ ∀(i j:Nat) (a b:Oper) (d:Nat),ops[i]? =some a→ops[j]? =some b→a.dst=some d→b.dst=some d→i=j
 | [],_,i,j,a,b,d,h,_,_,_=>by simp at h
 | o::c,l,i,j,a,b,d,m,n,p,r=>by
  have f: ∀(k:Nat) (q:Oper),c[k]? =some q→q.dst=some d→d∈R4 c:=by
   intro k q s t
   simp only[R4,List.mem_filterMap]
   exact ⟨q,List.mem_of_getElem? s,t⟩
  have g:Ua (R4 c)=true:=by
   simp only[R4,List.filterMap_cons] at l
   split at l
   ·exact l
   ·simp only[Ua,Bool.and_eq_true] at l;exact l.2
  have e:o.dst=some d→d∉R4 c:=by
   intro u
   simp only[R4,List.filterMap_cons,u,Ua,Bool.and_eq_true,Bool.not_eq_true'] at l
   intro v
   have:=l.1
   simp only[List.contains_eq_mem,decide_eq_false_iff_not] at this
   exact this v
  cases i with
  | zero=>
   simp only[List.getElem?_cons_zero,Option.some.injEq] at m
   subst m
   cases j with
   | zero=>rfl
   | succ j=>exact absurd (f j b (by simpa using n) r) (e p)
  | succ i=>
   cases j with
   | zero=>
    simp only[List.getElem?_cons_zero,Option.some.injEq] at n
    subst n
    exact absurd (f i a (by simpa using m) p) (e r)
   | succ j=>rw[Yr c g i j a b d (by simpa using m) (by simpa using n) p r]
theorem Ps (u:Nat→Value): ∀(S:List Ent) (s:Nat),get (A5 u S) s=(getE S s).at u
 | [],s=>by simp[A5,get,getE,Ent.at]
 | e::S,0=>rfl
 | e::S,s+1=>Ps u S s
theorem Fk: ∀(S:List Ent) (s:Nat),getE S s=(S[s]?).getD (.val undef)
 | [],s=>by simp[getE]
 | e::S,0=>rfl
 | e::S,s+1=>by simp only[getE,List.getElem?_cons_succ];exact Fk S s
theorem Q1g: ∀(S:List Ent) (n:Nat) (e:Ent),Q2g S n e=S.set n e
 | [],n,e=>by simp[Q2g]
 | x::S,0,e=>rfl
 | x::S,n+1,e=>by simp only[Q2g,List.set_cons_succ,Q1g S n e]
theorem Q3Z {x:Nat}: ∀{l:List Nat},x∈l→x∈Q1c l
 | y::l,h=>by
  simp only[Q1c,List.mem_cons,List.mem_filter]
  by_cases e:x=y
  ·exact .inl e
  ·exact .inr ⟨Q3Z ((List.mem_cons.1 h).resolve_left e),by simpa using e⟩
theorem Cr {x:Nat}: ∀{l:List Nat},x∈Q1c l→x∈l
 | y::l,h=>by
  simp only[Q1c,List.mem_cons,List.mem_filter] at h⊢
  exact h.imp id fun h=>Cr h.1
theorem Q46 {S:List Ent} {j:Nat}: ∀{l:List Nat} {s:Nat},s∈l→getE S s= .ref j→j∈Q1l S l
 | x::l,s,h,e=>by
  simp only[Q1l,List.mem_append]
  rcases List.mem_cons.1 h with rfl | h
  ·left;rw[e];simp[Q4H]
  ·right;exact Q46 h e
theorem Cm {S:List Ent} {j:Nat}: ∀{l:List Nat},j∈Q1l S l→ ∃s∈l,getE S s= .ref j
 | x::l,h=>by
  simp only[Q1l,List.mem_append] at h
  rcases h with h | h
  ·refine ⟨x,by simp,?_⟩
   cases a:getE S x with
   | val v=>rw[a] at h;simp[Q4H] at h
   | ref k=>rw[a] at h;simp[Q4H] at h;rw[h]
  ·obtain ⟨s,b,e⟩:=Cm h
   exact ⟨s,by simp[b],e⟩
theorem Q2l: ∀(a:List Nat) (b u:Nat→Value) (k:(Nat→Value)→Prop),Kz a b k→ ∃c,k c∧ ∀x,(x∈a→c x=u x)∧(x∉a→c x=b x)
 | [],b,u,k,h=>⟨b,h,fun x=>⟨fun h=>by simp at h,fun _=>rfl⟩⟩
 | j::a,b,u,k,h=>by
  obtain ⟨c,g,f⟩:=Q2l a _ u k (h (u j))
  refine ⟨c,g,fun x=>⟨fun hx=>?_,fun hx=>?_⟩⟩
  ·by_cases d:x∈a
   ·exact (f x).1 d
   ·rw[(f x).2 d]
    rcases List.mem_cons.1 hx with rfl | hx
    ·simp
    ·exact absurd hx d
  ·rw[(f x).2 (fun h=>hx (List.mem_cons_of_mem _ h))]
   have:x≠j:=fun e=>hx (by simp[e])
   simp[this]
theorem Q2q {e:Rj} {u:Nat→Value} {w:World} {a:Prop}: ∀{c:List Nat},Kg e u w a c→(∀j∈c,∀φ,Uq e j=some ([],φ)→φ [] (u j) w)→a
 | [],h,_=>h
 | j::c,h,d=>by
  simp only[Kg] at h
  split at h
  ·rename_i φ f
   exact Q2q (h (d j (by simp) φ f)) fun k b=>d k (by simp[b])
  ·exact Q2q h fun k b=>d k (by simp[b])
theorem Q0o {e:Rj} {u:Nat→Value} {w:World} {a:Prop}: ∀{c:List Nat},Q1d e u w a c→(∀j∈c,∀R φ,Uq e j=some (R,φ)→φ (R.map u) (u j) w)→a
 | [],h,_=>h
 | j::c,h,d=>by
  simp only[Q1d] at h
  split at h
  ·rename_i R φ f
   exact Q0o (h (d j (by simp) R φ f)) fun k b=>d k (by simp[b])
  ·exact Q0o h fun k b=>d k (by simp[b])
theorem Kr {a:Rj} {i j:Nat} {φ:List Nat×(List Value→Value→World→Prop)} (h:i≠j):Uq (a++[(i,φ)]) j=Uq a j:=by
 induction a with
 | nil=>simp[Uq,h]
 | cons p a b=>obtain ⟨k,ψ⟩:=p;simp only[List.cons_append,Uq,b]
theorem Nj {a:Rj} {i:Nat} {φ:List Nat×(List Value→Value→World→Prop)} (h:Uq a i=none):Uq (a++[(i,φ)]) i=some φ:=by
 induction a with
 | nil=>simp[Uq]
 | cons p a c=>
  obtain ⟨k,ψ⟩:=p
  simp only[Uq] at h
  split at h
  ·cases h
  ·rename_i b;simp only[List.cons_append,Uq,b,if_false];exact c h
def Su (S:List Ent) (i:Nat) (o:Oper):Ent:=match mv o with | some x=>entOf S x | none=> .ref i
def O4 (S:List Ent):Nat→List Oper→List Ent
 | _,[]=>S
 | i,o::a=>O4 (putE S o.dst (Su S i o)) (i+1) a
theorem Q4i: ∀(a:List Oper) (S:List Ent) (i k:Nat) (o:Oper),a[k]? =some o→
 O4 S i (a.take (k+1))=putE (O4 S i (a.take k)) o.dst (Su (O4 S i (a.take k)) (i+k) o)
 | [],_,_,_,_,h=>by simp at h
 | x::a,S,i,0,o,h=>by
  simp only[List.getElem?_cons_zero,Option.some.injEq] at h
  subst h
  simp[O4]
 | x::a,S,i,k+1,o,h=>by
  simp only[List.getElem?_cons_succ] at h
  have:=Q4i a (putE S x.dst (Su S i x)) (i+1) k o h
  simp only[List.take_succ_cons,O4]
  rw[this,show i+1+k=i+(k+1) from by omega]
def Yv (S:List Ent) (D:List Nat):Prop:= ∀e∈S,∀j,e= .ref j→j∈D
theorem Yv.getE {S:List Ent} {D:List Nat} (h:Yv S D) {s j:Nat} (e:Go.Emb.getE S s= .ref j):j∈D:=by
 rw[Fk] at e
 cases a:S[s]? with
 | none=>rw[a] at e;cases e
 | some x=>rw[a] at e;exact h x (List.mem_of_getElem? a) j e
theorem Yv.putE {S:List Ent} {D:List Nat} (h:Yv S D) (d:Option Nat) {e:Ent} (c: ∀j,e= .ref j→j∈D):Yv (Go.Emb.putE S d e) D:=by
 cases d with
 | none=>exact h
 | some d=>
  intro x a j b
  simp only[Go.Emb.putE,Q1g] at a
  rcases List.mem_or_eq_of_mem_set a with a | rfl
  ·exact h x a j b
  ·exact c j b
theorem Yv.mono {S:List Ent} {D a:List Nat} (h:Yv S D) (d: ∀j∈D,j∈a):Yv S a:=fun e c j b=>d j (h e c j b)
theorem Yv.entOf {S:List Ent} {D:List Nat} (h:Yv S D) (x:Operand) {j:Nat} (e:Go.Emb.entOf S x= .ref j):j∈D:=by
 cases x with
 | tmp t=>exact h.getE e
 | _=>cases e
theorem Q8m {S:List Ent} {D:List Nat} (h:Yv S D) {u a:Nat→Value} (b: ∀j∈D,a j=u j):A5 a S=A5 u S:=by
 unfold A5
 refine List.map_congr_left fun e c=>?_
 cases e with
 | val v=>rfl
 | ref j=>exact b j (h _ c j rfl)
theorem Q29 {P:Program} {ops:List Oper} {l l':List Value} {o:Oper} (f:Xr o.op=true) (h: ∀s∈H7 ops o++B0 o,get l s=get l' s):runOp P ops l o=runOp P ops l' o:=by
 funext w K
 unfold runOp
 rw[Dp f fun x c=>by
  cases x with
  | tmp s=>exact h s (List.mem_append_right _ (by simp only[B0,List.mem_filterMap];exact ⟨.tmp s,by simpa using c,rfl⟩))
  | _=>rfl]
 cases a:o.guard with
 | none=>rfl
 | some q=>
  obtain ⟨j,b⟩:=q
  simp only
  cases e:(ops[j]?).bind (·.dst) with
  | none=>rfl
  | some d=>simp only;rw[h d (List.mem_append_left _ (by simp[H7,a,e]))]
theorem Q2L {P:Program} {ops:List Oper} {l:List Value} {o:Oper} {w:World} {K d:Value→World→Prop} (a: ∀v w,K v w→d v w) (h:runOp P ops l o w K):runOp P ops l o w d:=by
 unfold runOp at*
 split at h
 ·exact I6 a h
 ·split at h
  ·exact Q15 ((Wu h).imp (fun ⟨b,c⟩=>⟨b,I6 a c⟩) (fun ⟨b,c⟩=>⟨b,a _ _ c⟩))
  ·exact h.elim
theorem Q2S {P:Program} {ops:List Oper} {W3:List Value→World→Prop} {o:Oper} {a:List Oper} {l:List Value} {w:World}
 (h:runOp P ops l o w (fun v w=>Z5 P ops W3 a (put l o.dst v) w)):Z5 P ops W3 (o::a) l w:=by
 simp only[Z5]
 unfold runOp at h
 cases c:o.guard with
 | none=>simp only[c] at h⊢;exact h
 | some q=>
  obtain ⟨j,b⟩:=q
  simp only[c] at h⊢
  split at h
  ·rename_i d e
   first | exact h | (simp only[e];exact h) | (rw[e];exact h)
  ·exact h.elim
structure Whole (P : Program) (ops : List Oper) (T : World → World → Prop) (B : World → Prop) (W3 : List Value → World → Prop) (tail : List Oper) (Φ : Nat → (Nat → Value) → World → Prop) (S : List Ent) (i : Nat) (rest : List Oper) (D : List Nat) : Prop where
  stable : ∀ k o, rest[k]? = some o → mv o = none → ∀ u w w', Φ (i + k) u w → T w w' → Φ (i + k) u w'
  loc : ∀ k o, rest[k]? = some o → mv o = none → ∀ u u', (∀ r ∈ (i + k) :: refs ops (O4 S i (rest.take k)) o, u r = u' r) → Φ (i + k) u = Φ (i + k) u'
  run : ∀ k o, rest[k]? = some o → mv o = none → Xr o.op = true → ∀ u w, B w → (∀ j ∈ refs ops (O4 S i (rest.take k)) o, Φ j u w) →
    runOp P ops (A5 u (O4 S i (rest.take k))) o w (fun v w' => T w w' ∧ ∀ u', (∀ r ∈ refs ops (O4 S i (rest.take k)) o, u' r = u r) → u' (i + k) = v → Φ (i + k) u' w')
  last : ∀ u w, B w → (∀ j ∈ D, Φ j u w) → (∀ k o, rest[k]? = some o → mv o = none → Φ (i + k) u w) → Z5 P ops W3 tail (A5 u (O4 S i rest)) w
theorem Q0s (P:Program) (ops:List Oper) (T:World→World→Prop) (B:World→Prop) (W3:List Value→World→Prop) (tail:List Oper): ∀(f:List Oper) (i:Nat) (S:List Ent) (m:Rj) (done:List Nat),
 Yv S done→(∀j,j∈done→j<i∧ ∃φ,Uq m j=some φ)→(∀j φ,Uq m j=some φ→j<i∧ ∀r∈φ.1,r∈done)→chain P ops T B W3 tail i f S m done→
 ∃Φ:Nat→(Nat→Value)→World→Prop,(∀j R φ,Uq m j=some (R,φ)→Φ j=fun u w=>φ (R.map u) (u j) w)∧Whole P ops T B W3 tail Φ S i f done
 | [],i,S,m,done,L,O,E,h=>by
  refine ⟨fun j u w=>match Uq m j with | some (R,φ)=>φ (R.map u) (u j) w | none=>True,fun j R φ hj=>by simp[hj],⟨by simp,by simp,by simp,?_⟩⟩
  intro u w hB H _
  obtain ⟨t,q,g⟩:=Q2l done _ u _ h
  have p:=Q0o (q w hB) fun j hj R φ M=>by
   have:=H j hj
   simp only[M] at this
   rw[(g j).1 hj,show R.map t=R.map u from List.map_congr_left fun r d=>(g r).1 ((E j _ M).2 r d)];exact this
  rw[Q8m L fun j hj=>(g j).1 hj,Kq] at p
  exact p
 | o::f,i,S,m,done,L,O,E,h=>by
  simp only[chain] at h
  cases z:mv o with
  | some x=>
   simp only[z] at h
   have c:Su S i o=entOf S x:=by simp[Su,z]
   obtain ⟨Φ,q,g⟩:=Q0s P ops T B W3 tail f (i+1) _ m done (L.putE _ fun j hj=>L.entOf x hj) (fun j hj=>⟨by have:=(O j hj).1;omega,(O j hj).2⟩) (fun j φ hj=>⟨by have:=(E j φ hj).1;omega,(E j φ hj).2⟩) h
   refine ⟨Φ,q,⟨?_,?_,?_,?_⟩⟩
   ·intro k l b a
    cases k with
    | zero=>simp only[List.getElem?_cons_zero,Option.some.injEq] at b;subst b;rw[z] at a;cases a
    | succ k=>have:=g.stable k l (by simpa using b) a;rwa [show i+1+k=i+(k+1) from by omega] at this
   ·intro k l b a u t J
    cases k with
    | zero=>simp only[List.getElem?_cons_zero,Option.some.injEq] at b;subst b;rw[z] at a;cases a
    | succ k=>
     simp only[List.take_succ_cons,O4,c] at J
     have:=g.loc k l (by simpa using b) a u t (by rwa [show i+1+k=i+(k+1) from by omega])
     rwa [show i+1+k=i+(k+1) from by omega] at this
   ·intro k l b a y u w hB d
    cases k with
    | zero=>simp only[List.getElem?_cons_zero,Option.some.injEq] at b;subst b;rw[z] at a;cases a
    | succ k=>
     simp only[List.take_succ_cons,O4,c] at d⊢
     have:=g.run k l (by simpa using b) a y u w hB d
     rwa [show i+1+k=i+(k+1) from by omega] at this
   ·intro u w hB H U
    simp only[O4,c]
    refine g.last u w hB H fun k l b a=>?_
    have:=U (k+1) l (by simpa using b) a
    rwa [show i+(k+1)=i+1+k from by omega] at this
  | none=>
   have h': ∃(R:List Nat) (φ:List Value→Value→World→Prop),(∀r∈R,r∈refs ops S o)∧(∀xs,Sv T (φ xs))∧
    (Kz (refs ops S o) (fun _=>undef) fun u=> ∀w,B w→Kg m u w (runOp P ops (A5 u S) o w (dk T (φ (R.map u)) w)) (refs ops S o))∧
    chain P ops T B W3 tail (i+1) f (putE S o.dst (.ref i)) (m++[(i,R,φ)]) (done++[i]):=by
    cases Q:Q8n o with
    | true=>
     simp only[z,Q,Q6W,Q3r] at h
     obtain ⟨φ,q,g,p⟩:=h
     exact ⟨_,φ,fun _ h=>h,q,g,p⟩
    | false=>
     simp only[z,Q,Q9d,Q5M] at h
     obtain ⟨φ,q,g,p⟩:=h
     exact ⟨[],fun _=>φ,by simp,fun _=>q,g,p⟩
   clear h
   obtain ⟨R,φ,V,aa,N,h⟩:=h'
   have ab: ∀r∈refs ops S o,r∈done:=fun r d=>by
    obtain ⟨s,_,Y⟩:=Cm (Cr d)
    exact L.entOf (.tmp s) Y
   have c:Su S i o= .ref i:=by simp[Su,z]
   have n:Uq m i=none:=by
    cases H:Uq m i with
    | none=>rfl
    | some ψ=>have:=(E i ψ H).1;omega
   obtain ⟨Φ,q,g⟩:=Q0s P ops T B W3 tail f (i+1) _ (m++[(i,R,φ)]) (done++[i])
    ((L.mono fun j hj=>List.mem_append_left _ hj).putE _ fun j hj=>by cases hj;simp)
    (fun j hj=>by
     rcases List.mem_append.1 hj with hj | hj
     ·obtain ⟨p,ψ,D⟩:=O j hj
      exact ⟨by omega,ψ,by rw[Kr (by omega)];exact D⟩
     ·simp at hj;subst hj;exact ⟨by omega,(R,φ),Nj n⟩)
    (fun j ψ hj=>by
     by_cases e:i=j
     ·subst e
      rw[Nj n] at hj;cases hj
      exact ⟨by omega,fun r d=>List.mem_append_left _ (ab r (V r d))⟩
     ·rw[Kr e] at hj
      obtain ⟨p,D⟩:=E j ψ hj
      exact ⟨by omega,fun r d=>List.mem_append_left _ (D r d)⟩) h
   have C:Φ i=fun u w=>φ (R.map u) (u i) w:=q i R φ (Nj n)
   have A: ∀j R' ψ,Uq m j=some (R',ψ)→Φ j=fun u w=>ψ (R'.map u) (u j) w:=fun j R' ψ hj=>q j R' ψ (by rw[Kr (by have:=(E j _ hj).1;omega)];exact hj)
   refine ⟨Φ,A,⟨?_,?_,?_,?_⟩⟩
   ·intro k l b a
    cases k with
    | zero=>
     intro u w w' ha W
     rw[Nat.add_zero,C] at ha⊢
     exact aa _ _ _ _ ha W
    | succ k=>have:=g.stable k l (by simpa using b) a;rwa [show i+1+k=i+(k+1) from by omega] at this
   ·intro k l b a u t J
    cases k with
    | zero=>
     simp only[List.getElem?_cons_zero,Option.some.injEq] at b
     subst b
     simp only[List.take_zero,O4,Nat.add_zero] at J
     rw[Nat.add_zero,C]
     funext w
     show φ (R.map u) (u i) w=φ (R.map t) (t i) w
     rw[show R.map u=R.map t from List.map_congr_left fun r d=>J r (List.mem_cons_of_mem _ (V r d)),J i (by simp)]
    | succ k=>
     simp only[List.take_succ_cons,O4,c] at J
     have:=g.loc k l (by simpa using b) a u t (by rwa [show i+1+k=i+(k+1) from by omega])
     rwa [show i+1+k=i+(k+1) from by omega] at this
   ·intro k l b a y u w hB d
    cases k with
    | zero=>
     simp only[List.getElem?_cons_zero,Option.some.injEq] at b
     subst b
     simp only[List.take_zero,O4,Nat.add_zero] at d⊢
     obtain ⟨t,p,D⟩:=Q2l _ _ u _ N
     have h5:=Q2q (p w hB) fun j hj ψ hψ=>by
      have h6:=d j hj
      rw[A j [] ψ hψ] at h6
      rw[(D j).1 hj];exact h6
     rw[Q29 y (l':=A5 u S)] at h5
     ·refine Q2L ?_ h5
      rintro v w' ⟨W,hf⟩
      refine ⟨W,fun Z X hi=>?_⟩
      rw[C]
      show φ (R.map Z) (Z i) w'
      rw[hi,show R.map Z=R.map t from List.map_congr_left fun r d=>by rw[X r (V r d),(D r).1 (V r d)]]
      exact hf
     ·intro s Q
      rw[Ps,Ps]
      cases Y:getE S s with
      | val v=>rfl
      | ref j=>exact (D j).1 (Q3Z (Q46 Q Y))
    | succ k=>
     simp only[List.take_succ_cons,O4,c] at d⊢
     have:=g.run k l (by simpa using b) a y u w hB d
     rwa [show i+1+k=i+(k+1) from by omega] at this
   ·intro u w hB H U
    simp only[O4,c]
    refine g.last u w hB (fun j hj=>?_) fun k l b a=>?_
    ·rcases List.mem_append.1 hj with hj | hj
     ·exact H j hj
     ·simp at hj;subst hj
      have:=U 0 o (by simp) z
      simpa using this
    ·have:=U (k+1) l (by simpa using b) a
     rwa [show i+(k+1)=i+1+k from by omega] at this
def Ql (os:List Oper) (S0:List Ent) (q:Nat):Ent:=
 match os[q]? with
 | some o=>Su (O4 S0 0 (os.take q)) q o
 | none=> .val undef
theorem Q78 {os:List Oper} {S0:List Ent} {q:Nat} {o:Oper} (h:os[q]? =some o):O4 S0 0 (os.take (q+1))=putE (O4 S0 0 (os.take q)) o.dst (Ql os S0 q):=by
 rw[Q4i os S0 0 q o h]
 simp[Ql,h]
theorem Q6n (S:List Ent) (d:Option Nat) (e:Ent):(putE S d e).length=S.length:=by
 cases d with
 | none=>rfl
 | some d=>simp[putE,Q1g]
theorem Kc (os:List Oper) (S0:List Ent): ∀q,q≤os.length→(O4 S0 0 (os.take q)).length=S0.length
 | 0,_=>by simp[O4]
 | q+1,h=>by rw[Q78 (List.getElem?_eq_getElem (by omega)),Q6n,Kc os S0 q (by omega)]
theorem Rv {os:List Oper} {S0:List Ent} (u:Ua (R4 os)=true) (r: ∀d∈R4 os,d<S0.length): ∀q,q≤os.length→
 (∀p,p<q→ ∀o d,os[p]? =some o→o.dst=some d→(O4 S0 0 (os.take q))[d]? =some (Ql os S0 p))∧
  (∀s,(∀p,p<q→ ∀o,os[p]? =some o→o.dst≠some s)→(O4 S0 0 (os.take q))[s]? =S0[s]?)
 | 0,_=>⟨fun p j=>absurd j (by omega),fun s _=>by simp[O4]⟩
 | q+1,h=>by
  obtain ⟨t,n⟩:=Rv u r q (by omega)
  have k:os[q]? =some os[q]:=List.getElem?_eq_getElem (by omega)
  have g:=Kc os S0 q (by omega)
  rw[Q78 k]
  cases b:os[q].dst with
  | none=>
   refine ⟨fun p j o d c a=>?_,fun s l=>n s fun p j=>l p (by omega)⟩
   by_cases e:p=q
   ·subst e;rw[k] at c;cases c;rw[b] at a;cases a
   ·exact t p (by omega) o d c a
  | some i=>
   have m:i<S0.length:=r i (by simp only[R4,List.mem_filterMap];exact ⟨os[q],List.getElem_mem _,b⟩)
   simp only[putE,Q1g]
   refine ⟨fun p j o d c a=>?_,fun s l=>?_⟩
   ·by_cases e:p=q
    ·subst e;rw[k] at c;cases c;rw[b] at a;cases a
     rw[List.getElem?_set_self (by rw[g];exact m)]
    ·have f:i≠d:=by
      rintro rfl
      exact e (Yr os u p q o os[q] i c k a b)
     rw[List.getElem?_set_ne f]
     exact t p (by omega) o d c a
   ·have f:i≠s:=fun e=>l q (by omega) os[q] k (by rw[b,e])
    rw[List.getElem?_set_ne f]
    exact n s fun p j=>l p (by omega)
def Ml (os:List Oper) (p:Nat):Bool:=
 match os[p]? with
 | some o=>match mv o with
  | some (.tmp s)=> !(R4 os).contains s
  | some _=>true
  | none=>false
 | none=>false
theorem X2F {P:Program} {o:Oper} {x:Operand} (h:mv o=some x) (l:List Value) (w:World) (K:Value→World→Prop):o.guard=none∧W9 P l o w K=K (ev l x) w:=by
 unfold mv at h
 split at h
 ·cases h
 ·rename_i b
  refine ⟨b,?_⟩
  split at h
  ·rename_i y a;cases h;simp only[W9,a]
  ·rename_i y a;cases h;simp only[W9,a]
  ·cases h
theorem Q6r {P:Program} {ops:List Oper} {W3:List Value→World→Prop} {o:Oper} {c a:List Oper} {l l':List Value} {w:World} (p:Xr o.op=true) (m: ∀s∈H7 ops o++B0 o,get l' s=get l s)
 (f: ∀v w,Z5 P ops W3 c (put l o.dst v) w→Z5 P ops W3 a (put l' o.dst v) w) (h:Z5 P ops W3 (o::c) l w):Z5 P ops W3 (o::a) l' w:=by
 have n:W9 P l' o=W9 P l o:=Dp p fun x r=>by
  cases x with
  | tmp s=>exact m s (List.mem_append_right _ (by simp only[B0,List.mem_filterMap];exact ⟨.tmp s,by simpa using r,rfl⟩))
  | _=>rfl
 simp only[Z5] at h⊢
 cases e:o.guard with
 | none=>simp only[e] at h⊢;rw[n];exact I6 f h
 | some q=>
  obtain ⟨j,b⟩:=q
  simp only[e] at h⊢
  cases i:(ops[j]?).bind (·.dst) with
  | none=>simp only[i] at h⊢;exact f _ _ h
  | some d=>
   simp only[i] at h⊢
   rw[m d (List.mem_append_left _ (by simp[H7,e,i])),n]
   exact Q15 ((Wu h).imp (fun ⟨k,g⟩=>⟨k,I6 f g⟩) (fun ⟨k,g⟩=>⟨k,f _ _ g⟩))
structure At (os : List Oper) (l0 : List Value) (pre : List Nat) (l : List Value) (u : Nat → Value) : Prop where
  len : l.length = l0.length
  done : ∀ p ∈ pre, ∀ o d, os[p]? = some o → o.dst = some d → l[d]? = some ((Ql os (l0.map .val) p).at u)
  rest : ∀ s, (∀ p ∈ pre, ∀ o, os[p]? = some o → o.dst ≠ some s) → l[s]? = l0[s]?
  refs : ∀ p ∈ pre, ∀ r, Ql os (l0.map .val) p = .ref r → r ∈ pre ∧ ∃ o, os[r]? = some o ∧ mv o = none
theorem X3O {P:Program} {ops os:List Oper} {T:World→World→Prop} {B:World→Prop} {W3:List Value→World→Prop} {m:Nat} {C:List Value} {Φ:Nat→(Nat→Value)→World→Prop}
 (al:Nat→Nat→Bool) (bs: ∀o∈os,Xr o.op=true) (hn:Ua (R4 os)=true) (hd: ∀d∈R4 os,d<C.length)
 (ae: ∀p q a b,p<q→os[p]? =some a→os[q]? =some b→(Qc a b||Qc b a)=true→al p q=true)
 (hg: ∀q o j b,os[q]? =some o→o.guard=some (j,b)→ ∃p,p<q∧os[p]? =ops[j]? ∧al p q=true)
 (hm:m≤os.length) (am: ∀q,m≤q→q<os.length→ ∀p,p<q→al p q=true∨(p<m∧Ml os p=true))
 (hT: ∀w w',B w→T w w'→B w') (hW:Whole P ops T B W3 (os.drop m) Φ (C.map .val) 0 (os.take m) [])
 (L:List Nat) (H:L.Nodup) (bw:L.length=os.length) (ac: ∀q∈L,q<os.length)
 (hC: ∀c q f,L=c++q::f→ ∀p,al p q=true→p<os.length→p∈c):
 ∀(f c:List Nat),L=c++f→(∀q∈c,q<m)→ ∀(l:List Value) (u:Nat→Value) (w:World),At os C c l u→B w→
  (∀r∈c,∀o,os[r]? =some o→mv o=none→Φ r u w∧ ∀j∈refs ops (O4 (C.map .val) 0 (os.take r)) o,j∈c)→Z5 P ops W3 (f.filterMap (os[·]?)) l w:=by
 have a8: ∀d∈R4 os,d<(C.map Ent.val).length:=by simpa using hd
 have a2: ∀q,q≤m→(os.take m).take q=os.take q:=fun q hq=>by rw[List.take_take,Nat.min_eq_left hq]
 have U: ∀q,q<m→(os.take m)[q]? =os[q]? :=fun q hq=>by rw[List.getElem?_take_of_lt hq]
 -- when all of the first part is done
 have co: ∀(c f:List Nat),L=c++f→(∀q∈c,q<m)→(∀q,q<m→q∈c)→ ∀l u w,At os C c l u→B w→
  (∀r∈c,∀o,os[r]? =some o→mv o=none→Φ r u w∧ ∀j∈refs ops (O4 (C.map .val) 0 (os.take r)) o,j∈c)→Z5 P ops W3 (f.filterMap (os[·]?)) l w:=by
  intro c f E D ao l u w hA hB hΦ
  have ci: ∀(f c:List Nat),L=c++f→m≤c.length→(∀q,q∈c↔q<c.length)→f.filterMap (os[·]?)=os.drop c.length:=by
   intro f
   induction f with
   | nil=>
    intro c E _ _
    rw[List.append_nil] at E
    rw[←E,bw];simp
   | cons q f ih=>
    intro c E c9 a0
    have cn:q∉c:=by
     rw[E] at H
     intro h
     exact (List.nodup_append.1 H).2.2 q h q (by simp) rfl
    have cq:c.length≤q:=Nat.le_of_not_lt fun h=>cn ((a0 q).2 h)
    have W:=ac q (by rw[E];simp)
    have cx:q=c.length:=by
     refine Nat.le_antisymm (Nat.le_of_not_lt fun h=>?_) cq
     have:=hC c q f E c.length ((am q (by omega) W _ h).resolve_right (by omega)) (by omega)
     have:=(a0 _).1 this
     omega
    subst cx
    rw[List.filterMap_cons,List.getElem?_eq_getElem W]
    simp only
    rw[ih (c++[c.length]) (by rw[E];simp) (by simp;omega) (by intro x;simp only[List.mem_append,a0,List.mem_singleton,List.length_append,List.length_cons,List.length_nil];omega)]
    simp only[List.length_append,List.length_cons,List.length_nil]
    rw[←List.drop_eq_getElem_cons W]
  have be:c.length=m:=by
   have J:=F7 m c (by rw[E] at H;exact (List.nodup_append.1 H).1) D
   have R:=Wm m c ao
   omega
  have J:=ci f c E (by omega) (fun q=>by rw[be];exact ⟨D q,ao q⟩)
  rw[J,be]
  have R:=hW.last u w hB (by simp) fun k o hk t=>by
   have ay:k<m:=by
    have:=(List.getElem?_eq_some_iff.1 hk).1
    simp at this;omega
   rw[Nat.zero_add]
   rw[U k ay] at hk
   exact (hΦ k (ao k ay) o hk t).1
  have h3:l=A5 u (O4 (C.map .val) 0 (os.take m)):=by
   obtain ⟨g1,g2⟩:=Rv hn a8 m hm
   apply List.ext_getElem?
   intro s
   rw[A5,List.getElem?_map]
   by_cases hs: ∃p,p<m∧ ∃o,os[p]? =some o∧o.dst=some s
   ·obtain ⟨p,hp,o,i,z⟩:=hs
    rw[hA.done p (ao p hp) o s i z,g1 p hp o s i z];rfl
   ·have ad: ∀p,p<m→ ∀o,os[p]? =some o→o.dst≠some s:=fun p hp o i z=>hs ⟨p,hp,o,i,z⟩
    rw[hA.rest s (fun p hp=>ad p (D p hp)),g2 s ad,List.getElem?_map]
    cases C[s]? <;>rfl
  rw[h3];exact R
 -- moves that come late, among the tail
 have ca: ∀(f c:List Nat) (k:Nat),L=c++f→m≤k→k≤os.length→(∀q,m≤q→(q∈c↔q<k))→(∀p∈f,p<m→Ml os p=true)→
  ∀(l lf:List Value) (w:World),l.length=C.length→lf.length=C.length→(∀s,(∀p∈f,p<m→ ∀o,os[p]? =some o→o.dst≠some s)→l[s]? =lf[s]?)→
   (∀p∈f,p<m→ ∀o d x,os[p]? =some o→mv o=some x→o.dst=some d→lf[d]? =some (ev C x))→(∀s,(R4 os).contains s=false→l[s]? =C[s]?)→
   Z5 P ops W3 (os.drop k) lf w→Z5 P ops W3 (f.filterMap (os[·]?)) l w:=by
  intro f
  induction f with
  | nil=>
   intro c k E bc bk ab _ l lf w hl ba av _ _ h
   rw[List.append_nil] at E
   have hk:k=os.length:=by
    refine Nat.le_antisymm bk (Nat.le_of_not_lt fun D=>?_)
    have cp:k∉c:=fun e=>by have:=(ab k bc).1 e;omega
    have J:=F7 os.length (k::c) (List.nodup_cons.2 ⟨cp,E▸H⟩) (fun x hx=>by
     rcases List.mem_cons.1 hx with rfl | hx
     ·exact D
     ·exact ac x (by rw[E];exact hx))
    simp at J
    rw[E] at bw;omega
   have:l=lf:=List.ext_getElem? fun s=>av s (by simp)
   rw[this]
   rw[hk,List.drop_length] at h
   exact h
  | cons q f ih=>
   intro c k E bc bk ab ak l lf w hl ba av a3 Y h
   have O:q∉c:=by
    rw[E] at H
    intro h
    exact (List.nodup_append.1 H).2.2 q h q (by simp) rfl
   have cl:q∉f:=by
    rw[E] at H
    exact (List.nodup_cons.1 (List.nodup_append.1 H).2.1).1
   have W:=ac q (by rw[E];simp)
   have A:os[q]? =some os[q]:=List.getElem?_eq_getElem W
   have cc:L=(c++[q])++f:=by rw[E];simp
   rw[List.filterMap_cons,A]
   simp only
   by_cases Z:q<m
   ·-- a late move
    have D:=ak q (by simp) Z
    unfold Ml at D
    rw[A] at D
    simp only at D
    cases t:mv os[q] with
    | none=>rw[t] at D;cases D
    | some x=>
     rw[t] at D
     have hx:ev l x=ev C x:=by
      cases x with
      | tmp s=>
       simp only[Bool.not_eq_true'] at D
       simp only[ev,get,List.getD_eq_getElem?_getD,Y s D]
      | _=>rfl
     obtain ⟨a7,a4⟩:=X2F (P:=P) t l w (fun v w=>Z5 P ops W3 (f.filterMap (os[·]?)) (put l os[q].dst v) w)
     simp only[Z5,a7]
     rw[a4,hx]
     refine ih (c++[q]) k cc bc bk (fun q' az=>?_) (fun p hp=>ak p (by simp[hp])) _ lf w ?_ ba (fun s hs=>?_) (fun p hp=>a3 p (by simp[hp])) (fun s hs=>?_) h
     ·rw[←ab q' az];simp only[List.mem_append,List.mem_singleton]
      exact ⟨fun e=>e.resolve_right (by omega), .inl⟩
     ·cases g:os[q].dst<;>simp[put,hl]
     ·cases g:os[q].dst with
      | none=>
       refine av s fun p hp M o i=>?_
       rcases List.mem_cons.1 hp with rfl | hp
       ·rw[A] at i;cases i;rw[g];simp
       ·exact hs p hp M o i
      | some d=>
       have ar:d<C.length:=hd d (by simp only[R4,List.mem_filterMap];exact ⟨os[q],List.getElem_mem _,g⟩)
       simp only[put]
       by_cases e:d=s
       ·subst e
        rw[List.getElem?_set_self (by rw[hl];exact ar)]
        exact (a3 q (by simp) Z os[q] d x A t g).symm
       ·rw[List.getElem?_set_ne e]
        refine av s fun p hp M o i=>?_
        rcases List.mem_cons.1 hp with rfl | hp
        ·rw[A] at i;cases i;rw[g];simpa using e
        ·exact hs p hp M o i
     ·cases g:os[q].dst with
      | none=>exact Y s hs
      | some d=>
       have ah:(R4 os).contains d=true:=by
        rw[List.contains_iff_mem];simp only[R4,List.mem_filterMap];exact ⟨os[q],List.getElem_mem _,g⟩
       simp only[put]
       rw[List.getElem?_set_ne (by rintro rfl;rw[hs] at ah;cases ah)]
       exact Y s hs
   ·have Z:m≤q:=by omega
    have cv:q=k:=by
     have J:k≤q:=Nat.le_of_not_lt fun e=>O ((ab q Z).2 e)
     refine Nat.le_antisymm (Nat.le_of_not_lt fun e=>?_) J
     have:=hC c q f E k ((am q Z W k e).resolve_right (by omega)) (by omega)
     have:=(ab k bc).1 this
     omega
    subst cv
    rw[List.drop_eq_getElem_cons W] at h
    have b0: ∀p∈f,p<m→al p q=true→False:=fun p hp M hb=>by
     have:=hC c q f E p hb (by omega)
     rw[E] at H
     exact (List.nodup_append.1 H).2.2 p this p (by simp[hp]) rfl
    refine Q6r (bs _ (List.getElem_mem _)) (fun s hs=>?_) (fun v w' hv=>?_) h
    ·have:l[s]? =lf[s]? :=av s fun p hp M o i z=>by
      rcases List.mem_cons.1 hp with rfl | hp
      ·omega
      refine b0 p hp M ?_
      rcases List.mem_append.1 hs with hs | hs
      ·unfold H7 at hs
       split at hs
       ·simp at hs
       ·rename_i j b bn
        split at hs
        ·rename_i d bm
         simp only[List.mem_singleton] at hs
         subst hs
         obtain ⟨p',aq,bv,hb⟩:=hg q os[q] j b A bn
         obtain ⟨o',bp,b4⟩:=Option.bind_eq_some_iff.1 bm
         have:=Yr os hn p' p o' o s (by rw[bv,bp]) i b4 z
         subst this;exact hb
        ·simp at hs
      ·exact ae p q o os[q] (by omega) i A (by simp only[Qc,z,Bool.or_eq_true];left;left;simpa using hs)
     simp only[get,List.getD_eq_getElem?_getD,this]
    ·refine ih (c++[q]) (q+1) cc (by omega) (by omega) (fun q' az=>?_) (fun p hp=>ak p (by simp[hp])) _ _ w' ?_ ?_ (fun s hs=>?_) (fun p hp M o d x i bb z=>?_) (fun s hs=>?_) hv
     ·simp only[List.mem_append,List.mem_singleton,ab q' az];omega
     ·cases g:os[q].dst<;>simp[put,hl]
     ·cases g:os[q].dst<;>simp[put,ba]
     ·have hb:l[s]? =lf[s]? ∨os[q].dst=some s:=by
       left
       refine av s fun p hp M o i=>?_
       rcases List.mem_cons.1 hp with rfl | hp
       ·omega
       ·exact hs p hp M o i
      cases g:os[q].dst with
      | none=>
       rcases hb with hb | hb
       ·exact hb
       ·rw[g] at hb;cases hb
      | some d=>
       simp only[put]
       by_cases e:d=s
       ·subst e
        have ar:d<C.length:=hd d (by simp only[R4,List.mem_filterMap];exact ⟨os[q],List.getElem_mem _,g⟩)
        rw[List.getElem?_set_self (by rw[hl];exact ar),List.getElem?_set_self (by rw[ba];exact ar)]
       ·rw[List.getElem?_set_ne e,List.getElem?_set_ne e]
        rcases hb with hb | hb
        ·exact hb
        ·rw[g] at hb;cases hb;exact absurd rfl e
     ·have ce:=a3 p (by simp[hp]) M o d x i bb z
      cases g:os[q].dst with
      | none=>exact ce
      | some d'=>
       have aa:d'≠d:=by
        rintro rfl
        have:=Yr os hn p q o os[q] d' i A z g
        omega
       simp only[put]
       rw[List.getElem?_set_ne aa];exact ce
     ·cases g:os[q].dst with
      | none=>exact Y s hs
      | some d=>
       have ah:(R4 os).contains d=true:=by
        rw[List.contains_iff_mem];simp only[R4,List.mem_filterMap];exact ⟨os[q],List.getElem_mem _,g⟩
       simp only[put]
       rw[List.getElem?_set_ne (by rintro rfl;rw[hs] at ah;cases ah)]
       exact Y s hs
 intro f
 induction f with
 | nil=>
  intro c E D l u w hA hB hΦ
  refine co c [] E D ?_ l u w hA hB hΦ
  intro q hq
  rw[List.append_nil] at E
  refine Classical.byContradiction fun a5=>?_
  have J:=F7 os.length (q::c) (List.nodup_cons.2 ⟨a5,E▸H⟩) (fun k hk=>by
   rcases List.mem_cons.1 hk with rfl | hk
   ·omega
   ·exact ac k (by rw[E];exact hk))
  simp at J
  rw[E] at bw;omega
 | cons q f ih=>
  intro c E D l u w hA hB hΦ
  have O:q∉c:=by
   rw[E] at H
   intro h
   exact (List.nodup_append.1 H).2.2 q h q (by simp) rfl
  have W:=ac q (by rw[E];simp)
  by_cases Z:m≤q
  ·-- the tail begins
   have an: ∀p,p<m→p∉c→Ml os p=true:=fun p hp bl=>by
    rcases am q Z W p (by omega) with h | h
    ·exact absurd (hC c q f E p h (by omega)) bl
    ·exact h.2
   have bh: ∀p,Ml os p=true→ ∀o,os[p]? =some o→ ∃x,mv o=some x∧ ∀s,x= .tmp s→(R4 os).contains s=false:=by
    intro p hp o i
    unfold Ml at hp
    rw[i] at hp
    simp only at hp
    cases N:mv o with
    | none=>rw[N] at hp;cases hp
    | some x=>
     refine ⟨x,rfl,fun s hs=>?_⟩
     subst hs
     rw[N] at hp;simpa using hp
   obtain ⟨g1,g2⟩:=Rv hn a8 m hm
   have bf: ∀s,(R4 os).contains s=false→ ∀(p:Nat) o,os[p]? =some o→o.dst≠some s:=by
    intro s hs p o i z
    have:(R4 os).contains s=true:=by
     rw[List.contains_iff_mem];simp only[R4,List.mem_filterMap]
     exact ⟨o,List.mem_of_getElem? i,z⟩
    rw[hs] at this;cases this
   refine ca (q::f) c m E (Nat.le_refl _) hm (fun q' az=>⟨fun e=>D q' e,fun e=>absurd az (by omega)⟩) (fun p hp M=>an p M fun e=>by
    rw[E] at H
    exact (List.nodup_append.1 H).2.2 p e p hp rfl) l (A5 u (O4 (C.map .val) 0 (os.take m))) w hA.len (by simp[A5,Kc os _ m hm]) (fun s hs=>?_) (fun p hp M o d x i bb z=>?_) (fun s hs=>?_) ?_
   ·rw[A5,List.getElem?_map]
    by_cases ap: ∃p,p<m∧ ∃o,os[p]? =some o∧o.dst=some s
    ·obtain ⟨p,hp,o,i,z⟩:=ap
     by_cases V:p∈c
     ·rw[hA.done p V o s i z,g1 p hp o s i z];rfl
     ·exfalso
      have b8:p∈L:=by
       refine Classical.byContradiction fun a5=>?_
       have J:=F7 os.length (p::L) (List.nodup_cons.2 ⟨a5,H⟩) (fun k hk=>by
        rcases List.mem_cons.1 hk with rfl | hk
        ·omega
        ·exact ac k hk)
       simp at J;omega
      rw[E] at b8
      rcases List.mem_append.1 b8 with h | h
      ·exact V h
      ·exact hs p h hp o i z
    ·have ad: ∀p,p<m→ ∀o,os[p]? =some o→o.dst≠some s:=fun p hp o i z=>ap ⟨p,hp,o,i,z⟩
     rw[hA.rest s (fun p hp=>ad p (D p hp)),g2 s ad,List.getElem?_map]
     cases C[s]? <;>rfl
   ·have V:p∉c:=fun e=>by
     rw[E] at H
     exact (List.nodup_append.1 H).2.2 p e p hp rfl
    rw[A5,List.getElem?_map,g1 p M o d i z]
    simp only[Option.map_some,Option.some.injEq]
    have X:Ql os (C.map .val) p=entOf (O4 (C.map .val) 0 (os.take p)) x:=by simp[Ql,i,Su,bb]
    rw[X]
    obtain ⟨x',cb,cw⟩:=bh p (an p M V) o i
    rw[bb] at cb;cases cb
    cases x with
    | tmp s=>
     have hs:=cw s rfl
     obtain ⟨_,k2⟩:=Rv (S0:=C.map .val) hn a8 p (by omega)
     simp only[entOf]
     rw[Fk,k2 s (fun p' _ o' bp=>bf s hs p' o' bp),List.getElem?_map]
     simp only[ev,get,List.getD_eq_getElem?_getD]
     cases C[s]? <;>rfl
    | _=>rfl
   ·exact hA.rest s fun p _ o i=>bf s hs p o i
   ·refine hW.last u w hB (by simp) fun k o hk t=>?_
    have ay:k<m:=by
     have:=(List.getElem?_eq_some_iff.1 hk).1
     simp at this;omega
    rw[Nat.zero_add]
    rw[U k ay] at hk
    refine (hΦ k (Classical.byContradiction fun bl=>?_) o hk t).1
    obtain ⟨x,hx,_⟩:=bh k (an k ay bl) o hk
    rw[t] at hx;cases hx
  ·have Z:q<m:=by omega
   have A:os[q]? =some os[q]:=List.getElem?_eq_getElem W
   obtain ⟨g1,g2⟩:=Rv (S0:=C.map .val) hn a8 q (by omega)
   -- what a slot holds that this operation reads
   have af: ∀s,(∃p o,os[p]? =some o∧o.dst=some s∧p<q∧al p q=true)∨s∈B0 os[q]→
    get l s=(getE (O4 (C.map .val) 0 (os.take q)) s).at u∧ ∀r,getE (O4 (C.map .val) 0 (os.take q)) s= .ref r→r∈c∧ ∃o,os[r]? =some o∧mv o=none:=by
    intro s hs
    have ad:(∀p∈c,∀o,os[p]? =some o→o.dst≠some s)→(∀p,p<q→ ∀o,os[p]? =some o→o.dst≠some s)→
     get l s=(getE (O4 (C.map .val) 0 (os.take q)) s).at u∧ ∀r,getE (O4 (C.map .val) 0 (os.take q)) s= .ref r→r∈c∧ ∃o,os[r]? =some o∧mv o=none:=by
     intro J R
     rw[Fk,g2 s R,List.getElem?_map]
     simp only[get,List.getD_eq_getElem?_getD,hA.rest s J]
     cases C[s]? with
     | none=>exact ⟨rfl,fun r hr=>by cases hr⟩
     | some v=>exact ⟨rfl,fun r hr=>by cases hr⟩
    have bi: ∀p o,os[p]? =some o→o.dst=some s→p<q→p∈c→
     get l s=(getE (O4 (C.map .val) 0 (os.take q)) s).at u∧ ∀r,getE (O4 (C.map .val) 0 (os.take q)) s= .ref r→r∈c∧ ∃o,os[r]? =some o∧mv o=none:=by
     intro p o hp i aq V
     rw[Fk,g1 p aq o s hp i]
     simp only[get,List.getD_eq_getElem?_getD,hA.done p V o s hp i,Option.getD_some]
     first | exact ⟨rfl,hA.refs p V⟩ | exact ⟨trivial,hA.refs p V⟩
    rcases hs with ⟨p,o,hp,i,aq,hb⟩ | hs
    ·exact bi p o hp i aq (hC c q f E p hb (by omega))
    ·by_cases ap: ∃(p:Nat) (o:Oper),os[p]? =some o∧o.dst=some s
     ·obtain ⟨p,o,hp,i⟩:=ap
      have cy:=(List.getElem?_eq_some_iff.1 hp).1
      have Y: ∀p' o',os[p']? =some o'→o'.dst=some s→p'=p:=fun p' o' J R=>Yr os hn p' p o' o s J hp R i
      rcases Nat.lt_trichotomy p q with h | h | h
      ·have hb:=ae p q o os[q] h hp A (by simp only[Qc,i,Bool.or_eq_true];left;left;simpa using hs)
       exact bi p o hp i h (hC c q f E p hb (by omega))
      ·subst h
       exact ad (fun p' ai o' J R=>by rw[Y p' o' J R] at ai;exact O ai) (fun p' ai o' J R=>by rw[Y p' o' J R] at ai;omega)
      ·refine ad (fun p' ai o' J R=>?_) (fun p' ai o' J R=>by rw[Y p' o' J R] at ai;omega)
       have e:=Y p' o' J R
       subst e
       have hb:=ae q p' os[q] o' h A J (by simp only[Qc,R,Bool.or_eq_true];right;left;simpa using hs)
       obtain ⟨p1,p2,V⟩:=List.append_of_mem ai
       have:=hC p1 p' (p2++q::f) (by rw[E,V];simp) q hb W
       exact O (by rw[V];exact List.mem_append_left _ this)
     ·exact ad (fun p _ o J R=>ap ⟨p,o,J,R⟩) (fun p _ o J R=>ap ⟨p,o,J,R⟩)
   have bo: ∀s∈H7 ops os[q]++B0 os[q],(∃p o,os[p]? =some o∧o.dst=some s∧p<q∧al p q=true)∨s∈B0 os[q]:=by
    intro s hs
    rcases List.mem_append.1 hs with hs | hs
    ·left
     unfold H7 at hs
     split at hs
     ·simp at hs
     ·rename_i j b bn
      split at hs
      ·rename_i d bm
       simp only[List.mem_singleton] at hs
       subst hs
       obtain ⟨p,aq,bv,hb⟩:=hg q os[q] j b A bn
       obtain ⟨o,i,z⟩:=Option.bind_eq_some_iff.1 bm
       exact ⟨p,o,by rw[bv,i],z,aq,hb⟩
      ·simp at hs
    ·exact .inr hs
   have aw:=U q Z
   rw[A] at aw
   rw[List.filterMap_cons,A]
   simp only
   -- the state behind it
   have step: ∀(v:Value) (u':Nat→Value) (w':World),(∀p∈c,(Ql os (C.map .val) p).at u'=(Ql os (C.map .val) p).at u)→v=(Ql os (C.map .val) q).at u'→
    (∀r,Ql os (C.map .val) q= .ref r→r∈q::c∧ ∃o,os[r]? =some o∧mv o=none)→B w'→(∀r∈q::c,∀o,os[r]? =some o→mv o=none→Φ r u' w'∧ ∀j∈refs ops (O4 (C.map .val) 0 (os.take r)) o,j∈q::c)→
    Z5 P ops W3 (f.filterMap (os[·]?)) (put l os[q].dst v) w':=by
    intro v u' w' hu hv hr cr cf
    have Q: ∀x,x∈c++[q]↔x∈q::c:=by intro x;simp[or_comm]
    refine ih (c++[q]) (by rw[E];simp) (fun x hx=>by rcases List.mem_cons.1 ((Q x).1 hx) with rfl | hx;exact Z;exact D x hx) _ u' w' ?_ cr (fun r hr o i N=>⟨(cf r ((Q r).1 hr) o i N).1,fun j hj=>(Q j).2 ((cf r ((Q r).1 hr) o i N).2 j hj)⟩)
    have ax: ∀p∈c++[q],∀r,Ql os (C.map .val) p= .ref r→r∈c++[q]∧ ∃o,os[r]? =some o∧mv o=none:=by
     intro p hp r br
     rcases List.mem_cons.1 ((Q p).1 hp) with rfl | hp
     ·exact ⟨(Q r).2 (hr r br).1,(hr r br).2⟩
     ·obtain ⟨J,R⟩:=hA.refs p hp r br
      exact ⟨List.mem_append_left _ J,R⟩
    cases g:os[q].dst with
    | none=>
     refine ⟨hA.len,?_,?_,ax⟩
     ·intro p hp o d i z
      rcases List.mem_cons.1 ((Q p).1 hp) with rfl | hp
      ·rw[A] at i;cases i;rw[g] at z;cases z
      ·rw[hu p hp];exact hA.done p hp o d i z
     ·intro s hs;exact hA.rest s fun p hp=>hs p (List.mem_append_left _ hp)
    | some d0=>
     have ar:d0<C.length:=hd d0 (by simp only[R4,List.mem_filterMap];exact ⟨os[q],List.getElem_mem _,g⟩)
     refine ⟨by simp[put,hA.len],?_,?_,ax⟩
     ·intro p hp o d i z
      rcases List.mem_cons.1 ((Q p).1 hp) with rfl | hp2
      ·rw[A] at i;cases i
       rw[g] at z;cases z
       simp only[put]
       rw[List.getElem?_set_self (by rw[hA.len];exact ar),hv]
      ·have aa:d0≠d:=by
        rintro rfl
        have:=Yr os hn p q o os[q] d0 i A z g
        subst this;exact O hp2
       simp only[put]
       rw[List.getElem?_set_ne aa,hu p hp2]
       exact hA.done p hp2 o d i z
     ·intro s hs
      have aa:d0≠s:=fun e=>hs q (by simp) os[q] A (by rw[g,e])
      simp only[put]
      rw[List.getElem?_set_ne aa]
      exact hA.rest s fun p hp=>hs p (List.mem_append_left _ hp)
   cases t:mv os[q] with
   | some x=>
    have X:Ql os (C.map .val) q=entOf (O4 (C.map .val) 0 (os.take q)) x:=by simp[Ql,A,Su,t]
    -- a move: what the operand holds
    have hx:ev l x=(entOf (O4 (C.map .val) 0 (os.take q)) x).at u∧ ∀r,entOf (O4 (C.map .val) 0 (os.take q)) x= .ref r→r∈c∧ ∃o,os[r]? =some o∧mv o=none:=by
     cases x with
     | tmp s=>
      have hs:s∈B0 os[q]:=by
       unfold mv at t
       split at t
       ·cases t
       ·simp only[B0,List.mem_filterMap]
        split at t
        ·rename_i y hy;cases t;exact ⟨.tmp s,by rw[hy];simp[Op.operands],rfl⟩
        ·rename_i y hy;cases t;exact ⟨.tmp s,by rw[hy];simp[Op.operands],rfl⟩
        ·cases t
      exact af s (.inr hs)
     | _=>exact ⟨rfl,fun r hr=>by cases hr⟩
    have a7:os[q].guard=none:=by
     unfold mv at t
     split at t
     ·cases t
     ·assumption
    simp only[Z5,a7]
    have a4:W9 P l os[q] w (fun v w=>Z5 P ops W3 (f.filterMap (os[·]?)) (put l os[q].dst v) w)=Z5 P ops W3 (f.filterMap (os[·]?)) (put l os[q].dst (ev l x)) w:=by
     unfold mv at t
     rw[a7] at t
     simp only at t
     split at t
     ·rename_i y hy;cases t;simp only[W9,hy]
     ·rename_i y hy;cases t;simp only[W9,hy]
     ·cases t
    rw[a4]
    refine step _ u w (fun _ _=>rfl) (by rw[X];exact hx.1) (fun r hr=>by
     rw[X] at hr
     obtain ⟨J,R⟩:=hx.2 r hr
     exact ⟨List.mem_cons_of_mem _ J,R⟩) hB (fun r hr o i N=>by
     rcases List.mem_cons.1 hr with rfl | hr
     ·rw[A] at i;cases i;rw[t] at N;cases N
     ·exact ⟨(hΦ r hr o i N).1,fun j hj=>List.mem_cons_of_mem _ ((hΦ r hr o i N).2 j hj)⟩)
   | none=>
    have X:Ql os (C.map .val) q= .ref q:=by simp[Ql,A,Su,t]
    have bj:=hW.run q os[q] aw t (bs _ (List.getElem_mem _)) u w hB
    rw[a2 q (by omega),Nat.zero_add] at bj
    have cu:=hW.stable
    have bq:=bj (fun j hj=>by
     obtain ⟨s,hs,he⟩:=Cm (Cr hj)
     obtain ⟨J,o,R,h3⟩:=(af s (bo s hs)).2 j he
     exact (hΦ j J o R h3).1)
    have b6: ∀j∈refs ops (O4 (C.map .val) 0 (os.take q)) os[q],j∈c:=fun j hj=>by
     obtain ⟨s,hs,he⟩:=Cm (Cr hj)
     exact ((af s (bo s hs)).2 j he).1
    refine Q2S ?_
    rw[Q29 (bs _ (List.getElem_mem _)) (l':=A5 u (O4 (C.map .val) 0 (os.take q))) (fun s hs=>by rw[Ps];exact (af s (bo s hs)).1)]
    refine Q2L ?_ bq
    intro v w' ⟨ch,hφ⟩
    have aa: ∀r∈c,r≠q:=fun r hr e=>O (e▸hr)
    refine step v (fun n=>if n=q then v else u n) w' ?_ (by rw[X];simp[Ent.at]) (fun r hr=>by rw[X] at hr;cases hr;exact ⟨by simp,os[q],A,t⟩) (hT w w' hB ch) ?_
    ·intro p hp
     cases he:Ql os (C.map .val) p with
     | val x=>rfl
     | ref r=>
      have:=aa r (hA.refs p hp r he).1
      simp[Ent.at,this]
    ·intro r hr o i N
     rcases List.mem_cons.1 hr with rfl | hr
     ·rw[A] at i;cases i
      exact ⟨hφ _ (fun x hx=>by simp[aa x (b6 x hx)]) (by simp),fun j hj=>List.mem_cons_of_mem _ (b6 j hj)⟩
     ·obtain ⟨f1,f2⟩:=hΦ r hr o i N
      have cd:=D r hr
      have b3:=aa r hr
      have hl:=hW.loc r o (by rw[U r cd];exact i) N (fun n=>if n=q then v else u n) u (fun x hx=>by
       rw[a2 r (by omega),Nat.zero_add] at hx
       have:x≠q:=by
        rcases List.mem_cons.1 hx with rfl | hx
        ·exact b3
        ·exact aa x (f2 x hx)
       simp[this])
      have hs:=cu r o (by rw[U r cd];exact i) N
      rw[Nat.zero_add] at hs hl
      refine ⟨?_,fun j hj=>List.mem_cons_of_mem _ (f2 j hj)⟩
      rw[hl]
      exact hs _ _ _ f1 ch
def X2q:Op→Bool
 | .move _ | .assign _ | .fieldAddr .. | .indexAddr .. | .field .. | .index .. | .binOp .. | .unOp .. | .extract .. | .pick .. | .makeFunc .. | .nilCheck _ | .slice .. =>true
 | _=>false
def ready (ops:List Oper) (a:List Nat) (j:Nat):Bool:=(T6 ops j).all (a.contains ·)
def X29 (ops:List Oper) (j:Nat):Bool:=match ops[j]? with | some o=>X2q o.op | none=>false
def Q81 (ops:List Oper):Nat→List Nat→List Nat→List Nat
 | 0,_,a=>a.reverse
 | n+1,b,a=>
  match b.find? (fun j=>X29 ops j&&ready ops a j) with
  | some j=>Q81 ops n (b.erase j) (j::a)
  | none=>match b.find? (ready ops a) with
   | some j=>Q81 ops n (b.erase j) (j::a)
   | none=>a.reverse
def I7 (ops:List Oper):List Nat:=Q81 ops ops.length (List.range ops.length) []
def Qf (ops:List Oper) (a:List Nat) (p q:Nat):Bool:=((Q0L ops []).getD (a.getD q 0) 0).testBit (a.getD p 0)
def U8 (ops:List Oper) (a:List Nat):List Oper:=a.map fun i=>ops.getD i default
def cutA (ops:List Oper) (a:List Nat):Nat→Nat
 | 0=>0
 | j+1=>if (List.range j).all (fun i=>Qf ops a i j||Ml (U8 ops a) i) then cutA ops a j else j+1
def X3L (ops:List Oper) (a:List Nat) (c n:Nat):Bool:=(List.range n).all fun q=>(List.range q).all fun p=>decide (p<c)||Qf ops a p q
def Ho (ops:List Oper) (a:List Nat) (n:Nat):Nat:=if X3L ops a (cutA ops a n) n then cutA ops a n else n
theorem Q47 (ops:List Oper) (a:List Nat): ∀n,cutA ops a n≤n∧ ∀q,cutA ops a n≤q→q<n→ ∀p,p<q→Qf ops a p q=true∨Ml (U8 ops a) p=true
 | 0=>⟨Nat.le_refl _,fun q _ h=>by omega⟩
 | j+1=>by
  obtain ⟨g,f⟩:=Q47 ops a j
  simp only[cutA]
  split
  ·rename_i h
   refine ⟨by omega,fun q c b p d=>?_⟩
   by_cases e:q=j
   ·subst e
    simpa using List.all_eq_true.1 h p (by simpa using d)
   ·exact f q c (by omega) p d
  ·exact ⟨Nat.le_refl _,fun q c b=>by omega⟩
theorem Q8q (ops:List Oper) (a:List Nat) (n:Nat):Ho ops a n≤n∧ ∀q,Ho ops a n≤q→q<n→ ∀p,p<q→Qf ops a p q=true∨(p<Ho ops a n∧Ml (U8 ops a) p=true):=by
 obtain ⟨f,g⟩:=Q47 ops a n
 unfold Ho
 split
 ·rename_i i
  refine ⟨f,fun q d b p e=>?_⟩
  by_cases c:p<cutA ops a n
  ·exact (g q d b p e).imp id fun h=>⟨c,h⟩
  ·left
   have:=List.all_eq_true.1 (List.all_eq_true.1 i q (by simpa using b)) p (by simpa using e)
   simpa [c] using this
 ·exact ⟨Nat.le_refl _,fun q d b=>by omega⟩
def X0G (ops:List Oper) (a:List Nat):Bool:=
 a.length==ops.length&&(List.range ops.length).all (a.contains ·)&&Ua a&&a.all (fun i=>decide (i<ops.length))&&
  (List.range ops.length).all fun q=>(List.range q).all fun p=> !Qf ops a q p
def Re (ops:List Oper) (n:Nat):Bool:=
 Lh ops&&Q75 (Q0L ops []) ops&&Ua (R4 (U8 ops (I7 ops)))&&(R4 (U8 ops (I7 ops))).all (fun d=>decide (d<n))&&
  (Za .any ops (List.range ops.length)&&Za .text ops (List.range ops.length)&&Za .gc ops (X2f .gc ops ops.length (List.range ops.length) []))&&X0G ops (I7 ops)
theorem Q0T: ∀{l:List Nat},Ua l=true→l.Nodup
 | [],_=>List.nodup_nil
 | x::l,h=>by
  simp only[Ua,Bool.and_eq_true,Bool.not_eq_true'] at h
  exact List.nodup_cons.2 ⟨by simpa using h.1,Q0T h.2⟩
theorem Q5h {ops:List Oper}: ∀(b:List Oper) (a:List Nat),a.length+b.length=ops.length→(∀k,a.length≤k→ops[k]? =b[k-a.length]?)→
 (∀j k,j<a.length→k∈T6 ops j→(a.getD j 0).testBit k=true)→ ∀j k,j<ops.length→k∈T6 ops j→((Q0L b a).getD j 0).testBit k=true
 | [],a,n,_,c=>fun j k p d=>c j k (by simp at n;omega) d
 | o::b,a,n,f,c=>by
  have t:ops[a.length]? =some o:=by rw[f _ (Nat.le_refl _)];simp
  refine Q5h b _ (by simp at n⊢;omega) ?_ ?_
  ·intro k d
   simp only[List.length_append,List.length_cons,List.length_nil] at d⊢
   rw[f k (by omega)]
   obtain ⟨m,u⟩: ∃m,k-a.length=m+1:=⟨k-a.length-1,by omega⟩
   rw[u,List.getElem?_cons_succ]
   congr 1;omega
  ·intro j k p d
   simp only[List.length_append,List.length_cons,List.length_nil] at p
   by_cases g:j<a.length
   ·simp only[List.getD_eq_getElem?_getD,List.getElem?_append_left g]
    simpa only[List.getD_eq_getElem?_getD] using c j k g d
   ·have i:j=a.length:=by omega
    subst i
    simp only[List.getD_eq_getElem?_getD,List.getElem?_append_right (Nat.le_refl _),Nat.sub_self,List.getElem?_cons_zero,Option.getD_some]
    unfold T6 at d
    rw[t] at d
    simp only[Option.map_some,Option.getD_some,List.mem_map] at d
    obtain ⟨e,q,rfl⟩:=d
    have key: ∀(l:List Edge) (s:Nat),(e∈l∨s.testBit e.on=true)→(l.foldl (fun s e=>s ||| 2 ^ e.on ||| (a[e.on]?).getD 0) s).testBit e.on=true:=by
     intro l
     induction l with
     | nil=>intro s h;simpa using h
     | cons x l r=>
      intro s h
      refine r _ ?_
      rcases h with h | h
      ·rcases List.mem_cons.1 h with rfl | h
       ·right;simp
       ·exact .inl h
      ·right;simp[h]
    exact key _ _ (.inl q)
theorem Ss {α β:Type} {f g:α→Option β}: ∀{l:List α},(∀x∈l,f x=g x)→l.filterMap f=l.filterMap g
 | [],_=>rfl
 | x::l,h=>by
  rw[List.filterMap_cons,List.filterMap_cons,h x (by simp),Ss fun y a=>h y (by simp[a])]
structure Arr (ops : List Oper) (ord : List Nat) (L : List Nat) : Prop where
  hpl : ∀ o ∈ U8 ops ord, Xr o.op = true
  hclash : ∀ p q a b, p < q → (U8 ops ord)[p]? = some a → (U8 ops ord)[q]? = some b → (Qc a b || Qc b a) = true → Qf ops ord p q = true
  hg : ∀ q o j b, (U8 ops ord)[q]? = some o → o.guard = some (j, b) → ∃ p, p < q ∧ (U8 ops ord)[p]? = ops[j]? ∧ Qf ops ord p q = true
  hn : L.Nodup
  hlt : ∀ q ∈ L, q < (U8 ops ord).length
  hC : ∀ pre q post, L = pre ++ q :: post → ∀ p, Qf ops ord p q = true → p < (U8 ops ord).length → p ∈ pre
  hLl : L.length = (U8 ops ord).length
theorem Q3S {ops:Array Oper} {n:Nat} (ah:Re ops.toList n=true) (b:Bool) (t:Nat): ∃L,(Region.schedule b ops t).filterMap (ops[·]?)=L.filterMap ((U8 ops.toList (I7 ops.toList))[·]?)∧Arr ops.toList (I7 ops.toList) L∧(U8 ops.toList (I7 ops.toList)).length=ops.toList.length:=by
 simp only[Re,Bool.and_eq_true] at ah
 obtain ⟨⟨⟨⟨⟨Y,hc⟩,hn⟩,hd⟩,⟨be,bc⟩,bd⟩,N⟩:=ah
 generalize I7 ops.toList=c at*
 simp only[X0G,Bool.and_eq_true,beq_iff_eq] at N
 obtain ⟨⟨⟨⟨ad,W⟩,a2⟩,Q⟩,H⟩:=N
 have ai:=Q0T a2
 have am:(U8 ops.toList c).length=ops.toList.length:=by simp[U8,ad]
 have f: ∀p,p<ops.toList.length→c.getD p 0<ops.toList.length:=by
  intro p X
  simp only[List.getD_eq_getElem?_getD]
  rw[List.getElem?_eq_getElem (by omega)]
  have:=List.all_eq_true.1 Q c[p] (List.getElem_mem _)
  simpa using this
 have d: ∀p,p<ops.toList.length→(U8 ops.toList c)[p]? =ops.toList[c.getD p 0]? :=by
  intro p X
  have r:=f p X
  simp only[List.getD_eq_getElem?_getD] at r
  rw[List.getElem?_eq_getElem (by omega:p<c.length)] at r
  simp only[Option.getD_some] at r
  simp only[U8,List.getElem?_map,List.getD_eq_getElem?_getD]
  rw[List.getElem?_eq_getElem (by omega:p<c.length)]
  simp only[Option.map_some,Option.getD_some]
  rw[List.getElem?_eq_getElem r]
  simp
 obtain ⟨ag,M,w⟩:=Q4z b ops t Y (fun m=>by cases m<;>exact ⟨_,by assumption⟩)
 have g:=Q27 b ops t
 generalize Region.schedule b ops t=L0 at ag M w g⊢
 have z: ∀i,i<ops.toList.length→i∈c:=fun i C=>by simpa using List.all_eq_true.1 W i (by simpa using C)
 have l: ∀i,i<ops.toList.length→c.idxOf i<ops.toList.length∧c.getD (c.idxOf i) 0=i:=by
  intro i C
  have r:=List.idxOf_lt_length_of_mem (z i C)
  refine ⟨by omega,?_⟩
  simp only[List.getD_eq_getElem?_getD]
  rw[List.getElem?_eq_getElem r]
  simp
 have s: ∀p,p<ops.toList.length→c.idxOf (c.getD p 0)=p:=by
  intro p X
  simp only[List.getD_eq_getElem?_getD]
  rw[List.getElem?_eq_getElem (by omega:p<c.length)]
  simp only[Option.getD_some]
  exact List.Nodup.idxOf_getElem ai p (by omega)
 have al: ∀p q,p<q→q<ops.toList.length→Qf ops.toList c q p=false:=by
  intro p q U u
  have:=List.all_eq_true.1 (List.all_eq_true.1 H q (by simpa using u)) p (by simpa using U)
  simpa using this
 have aq:L0.filterMap (ops[·]?)=(L0.map (c.idxOf ·)).filterMap ((U8 ops.toList c)[·]?):=by
  rw[List.filterMap_map]
  refine Ss fun i C=>?_
  have:=g i C
  have r:=l i (by simpa using this)
  simp only[Function.comp]
  rw[d _ r.1,r.2]
  simp
 refine ⟨L0.map (c.idxOf ·),aq,⟨?_,?_,?_,?_,?_,?_,by simp[M,ad,U8]⟩,am⟩
 ·intro o ho
  simp only[U8,List.mem_map] at ho
  obtain ⟨i,C,rfl⟩:=ho
  have v:i<ops.toList.length:=by simpa using List.all_eq_true.1 Q i C
  simp only[Lh,List.all_eq_true,Bool.and_eq_true] at Y
  have:=(Y (ops.toList[i],i) (by rw[List.mem_zipIdx_iff_getElem?];simpa using v)).1.1
  rw[List.getD_eq_getElem?_getD,List.getElem?_eq_getElem v]
  exact this
 ·intro p q a b' U ha D E
  have X:p<ops.toList.length:=by have:=(List.getElem?_eq_some_iff.1 ha).1;omega
  have u:q<ops.toList.length:=by have:=(List.getElem?_eq_some_iff.1 D).1;omega
  rw[d p X] at ha
  rw[d q u] at D
  have af: ∀i i' x x',i<i'→ops.toList[i]? =some x→ops.toList[i']? =some x'→(Qc x x'||Qc x' x)=true→((Q0L ops.toList []).getD i' 0).testBit i=true:=by
   intro i i' x x' a7 hx aw E
   simp only[Q75,List.all_eq_true] at hc
   have:=hc (x',i') (by rw[List.mem_zipIdx_iff_getElem?];simpa using aw) (x,i) (by rw[List.mem_zipIdx_iff_getElem?];simpa using hx)
   simp only[a7,E,decide_true,Bool.not_true,Bool.false_or,Bool.or_self] at this
   exact this
  have aa:c.getD p 0≠c.getD q 0:=by
   intro e
   have:=s p X
   rw[e,s q u] at this
   omega
  rcases Nat.lt_or_gt_of_ne aa with h | h
  ·exact af _ _ a b' h ha D E
  ·have r:=af _ _ b' a h D ha (by rw[Bool.or_comm];exact E)
   have B:=al p q U u
   unfold Qf at B
   rw[r] at B;cases B
 ·intro q o j b' u ay
  have J:q<ops.toList.length:=by have:=(List.getElem?_eq_some_iff.1 u).1;omega
  rw[d q J] at u
  have O:j∈T6 ops.toList (c.getD q 0):=by
   have ae:=Y
   simp only[Lh,List.all_eq_true,Bool.and_eq_true] at ae
   have:=(ae (o,c.getD q 0) (by rw[List.mem_zipIdx_iff_getElem?];simpa using u)).2
   rw[ay] at this
   simp only[List.any_eq_true] at this
   obtain ⟨e,ao,ap⟩:=this
   unfold T6
   rw[u]
   simp only[Option.map_some,Option.getD_some,List.mem_map]
   exact ⟨e,ao,by simpa using ap⟩
  have av:=Pb Y _ (f q J) j O
  have hj:j<ops.toList.length:=by have:=f q J;omega
  have D:=Q5h (ops:=ops.toList) ops.toList [] (by simp) (by simp) (by intro j k hj;simp at hj) _ j (f q J) O
  obtain ⟨r,B⟩:=l j hj
  have R:Qf ops.toList c (c.idxOf j) q=true:=by unfold Qf;rw[B];exact D
  refine ⟨c.idxOf j,?_,by rw[d _ r,B],R⟩
  rcases Nat.lt_trichotomy (c.idxOf j) q with h | h | h
  ·exact h
  ·rw[←h,B] at av;omega
  ·have:=al q _ h r
   rw[R] at this;cases this
 ·refine List.pairwise_map.2 (ag.imp_of_mem ?_)
  intro x y hx hy a5 az
  have r:=(l x (by simpa using g x hx)).2
  have B:=(l y (by simpa using g y hy)).2
  exact a5 (by rw[←r,←B,az])
 ·intro q u
  simp only[List.mem_map] at u
  obtain ⟨i,C,rfl⟩:=u
  have:=(l i (by simpa using g i C)).1
  omega
 ·intro bf q a8 hL p D X
  rw[List.map_eq_append_iff] at hL
  obtain ⟨ab,a3,Z,ac,A⟩:=hL
  rw[List.map_eq_cons_iff] at A
  obtain ⟨i,V,hr,C,a6⟩:=A
  subst hr C ac
  have v:i<ops.toList.length:=by simpa using g i (by rw[Z];simp)
  obtain ⟨r,B⟩:=l i v
  unfold Qf at D
  rw[B] at D
  have ar:p<ops.toList.length:=by omega
  have:=Q66 Y w i v (c.getD p 0) ab V Z D
  rw[List.mem_map]
  exact ⟨c.getD p 0,this,s p ar⟩
theorem X1A (P:Program) (ops:Array Oper) (T:World→World→Prop) (B:World→Prop) (W3:List Value→World→Prop) (i:List Value) (f:Re ops.toList i.length=true)
 (s: ∀w w',B w→T w w'→B w')
 (h:chain P ops.toList T B W3 ((U8 ops.toList (I7 ops.toList)).drop (Ho ops.toList (I7 ops.toList) ops.toList.length)) 0
  ((U8 ops.toList (I7 ops.toList)).take (Ho ops.toList (I7 ops.toList) ops.toList.length)) (i.map .val) [] [])
 (b:Bool) (t:Nat) (w:World) (z:B w):Z5 P ops.toList W3 ((Region.schedule b ops t).filterMap (ops[·]?)) i w:=by
 obtain ⟨L,n,c,r⟩:=Q3S f b t
 simp only[Re,Bool.and_eq_true] at f
 obtain ⟨⟨⟨⟨⟨k,Q⟩,M⟩,u⟩,⟨J,y⟩,E⟩,o⟩:=f
 generalize I7 ops.toList=a at*
 obtain ⟨Φ,_,A⟩:=Q0s P ops.toList T B W3 _ _ 0 (i.map .val) [] [] (by intro e k j N;simp only[List.mem_map] at k;obtain ⟨v,_,rfl⟩:=k;cases N) (by simp) (by simp[Uq]) h
 rw[n]
 obtain ⟨l,g⟩:=Q8q ops.toList a ops.toList.length
 exact X3O (os:=U8 ops.toList a) (m:=Ho ops.toList a ops.toList.length) (T:=T) (B:=B) (Φ:=Φ) (Qf ops.toList a) c.hpl M (fun d O=>by simpa using List.all_eq_true.1 u d O) c.hclash c.hg (by omega)
  (fun q C H p D=>g q C (by omega) p D) s A L c.hn c.hLl c.hlt c.hC _ [] rfl (by simp) i (fun _=>undef) w
  ⟨rfl,by simp,fun _ _=>rfl,by simp⟩ z (by simp)
def Ul {α:Type} (P:Program) (s:Sem α):Prop:= ∀w v w',s.run P w= .ok v w'→w'=w
section
variable {P : Program} {α β : Type}
theorem Nq (a:α):Ul P (Pure.pure a:Sem α):=fun w v w' h=>by simp at h;exact h.2.symm
theorem Q6v (m:String):Ul P (stuck m:Sem α):=fun w v w' h=>by simp at h
theorem Yi {s:Sem α} {f:α→Sem β} (d:Ul P s) (c: ∀a,Ul P (f a)):Ul P (s>>=f):=fun w v w' h=>by
 rw[Sem.run_bind] at h
 cases b:s.run P w with
 | halt x w1=>rw[b] at h;simp[Result.andThen] at h
 | ok a w1=>
  rw[b] at h
  have:=d _ _ _ b
  subst this
  exact c a _ _ _ h
theorem Q2H (a:Addr) (m:Mode):Ul P (load a m):=fun w v w' h=>by
 unfold load at h
 simp only[Sem.run] at h
 split at h
 ·cases h;rfl
 ·split at h
  ·cases h;rfl
  ·cases h
theorem Q3N (t:TypeId):Ul P (typeInfo t):=fun w v w' h=>by
 unfold typeInfo at h
 simp only[Sem.run_bind,run_program,Result.andThen_ok] at h
 split at h<;>simp at h
 exact h.2.symm
theorem Q2j (t:TypeId):Ul P (underlying t):=fun w v w' h=>by
 unfold underlying at h
 simp only[Sem.run_bind,run_program,Result.andThen_ok] at h
 split at h<;>simp at h
 exact h.2.symm
theorem Q6D (t:TypeId):Ul P (isAgg t):=by
 unfold isAgg
 refine Yi (Q2j t) fun d=>?_
 split<;>exact Nq _
theorem Q5e (t:TypeId):Ul P (sizeOf t):=Yi (Q3N t) fun _=>Nq _
theorem Q22 (a:Addr): ∀(n i:Nat) (b:Array Value),Ul P (loadCellsFrom a i n b)
 | 0,i,b=>Nq _
 | n+1,i,b=>Yi (Q2H _ _) fun v=>Q22 a n (i+1) _
theorem Q4B (t:TypeId) (a:Addr):Ul P (loadVar t a):=by
 unfold loadVar
 refine Yi (Q6D t) fun b=>?_
 split
 ·exact Yi (Q5e t) fun n=>Yi (Q22 a n 0 #[]) fun cs=>Nq _
 ·exact Q2H _ _
theorem Q5A (t:TypeId) (v:Value):Ul P (Instr.loadAt t v):=by
 unfold Instr.loadAt
 refine Yi ?_ fun a=>Q4B t a
 unfold Instr.sureAddr
 split
 ·exact Nq _
 ·exact Q6v _
def Uo (P:Program) (s:Sem α):Prop:= ∀w v w1,s.run P w= .ok v w1→w1=w∧ ∀w',s.run P w'= .ok v w'
theorem Jb (a:α):Uo P (Pure.pure a:Sem α):=fun w v w' h=>by simp at h⊢;exact ⟨h.2.symm,h.1⟩
theorem Mu (m:String):Uo P (stuck m:Sem α):=fun w v w' h=>by simp at h
theorem Qa {s:Sem α} {f:α→Sem β} (j:Uo P s) (d: ∀a,Uo P (f a)):Uo P (s>>=f):=fun w v w' h=>by
 rw[Sem.run_bind] at h
 cases b:s.run P w with
 | halt x w1=>rw[b] at h;simp[Result.andThen] at h
 | ok a w1=>
  rw[b] at h
  obtain ⟨rfl,i⟩:=j _ _ _ b
  obtain ⟨g,e⟩:=d a _ _ _ h
  refine ⟨g,fun c=>?_⟩
  rw[Sem.run_bind,i c]
  exact e c
theorem Q4w (t:TypeId):Uo P (typeInfo t):=fun w v w' h=>by
 unfold typeInfo at h⊢
 simp only[Sem.run_bind,run_program,Result.andThen_ok] at h⊢
 split at h<;>simp at h
 rename_i i a
 refine ⟨h.2.symm,fun w'=>?_⟩
 simp[a,h.1]
theorem Cl (t:TypeId):Uo P (underlying t):=fun w v w' h=>by
 unfold underlying at h⊢
 simp only[Sem.run_bind,run_program,Result.andThen_ok] at h⊢
 split at h<;>simp at h
 rename_i i a
 refine ⟨h.2.symm,fun w'=>?_⟩
 simp[a,h.1]
theorem Ay (v:Value) (i:Nat):Uo P (Instr.extract v i):=by
 unfold Instr.extract
 split
 ·split
  ·exact Jb _
  ·exact Mu _
 ·exact Mu _
theorem Q8E (v:Value):Uo P (Instr.sureAddr v):=by
 unfold Instr.sureAddr
 split
 ·exact Jb _
 ·exact Mu _
theorem Q3z {s:Sem α} (h: ∀w v w',s.run P w≠ .ok v w'):Uo P s:=fun w v w' e=>absurd e (h w v w')
theorem Q3I {s:Sem α} {f:α→Sem β} (c: ∀a w v w',(f a).run P w≠ .ok v w'): ∀w v w',(s>>=f).run P w≠ .ok v w':=fun w v w' h=>by
 rw[Sem.run_bind] at h
 cases b:s.run P w with
 | halt x w1=>rw[b] at h;simp[Result.andThen] at h
 | ok a w1=>rw[b] at h;exact c a _ _ _ h
theorem Q2K (e:Int×Int×Bool×BoundsCode): ∀w v w',(runtimePanic (.bounds e.1 e.2.1 e.2.2.1 e.2.2.2):Sem α).run P w≠ .ok v w':=by
 unfold runtimePanic
 exact Q3I fun p=>fun w v w' h=>by cases h
theorem Q1R (k:IntKind) (x y:Int) (c:BoundsCode):Uo P (boundsPanic k x y c:Sem α):=Q3z (by
 unfold boundsPanic
 dsimp only
 split
 ·exact Q3I fun b=>Q2K (_,_,_,_)
 ·exact Q3I fun b=>Q2K (_,_,_,_))
theorem Q0j (t:TypeId) (x i:Value):Uo P (Instr.indexAt t x i):=by
 unfold Instr.indexAt
 refine Qa ?_ fun q=>?_
 ·unfold asIntOf
  split
  ·exact Jb _
  ·exact Q3z fun w v w' h=>by cases h
  ·exact Mu _
 refine Qa (Cl t) fun d=>?_
 dsimp only
 have key: ∀(z:Option Addr×Nat×TypeId),Uo P (match z with
  | (base,b,elem)=>do
   let __do_lift←underlying t
   have c:Bool:=decide (b≤1)&&match __do_lift with
    | TypeDesc.array b elem=>true
    | x=>false
   match base with
    | some a=>
     if 0≤q.snd∧q.snd< ↑b then do
      let __do_lift←sizeOf elem
      pure (Value.pointer (some (a.add (q.snd.toNat*__do_lift))))
     else
      if c=true then unsupported (Unsupported.noEntry "op/indexAddr.an index out of range at an array of length 0 or 1 (ledger 616)")
      else boundsPanic q.fst q.snd (↑b) BoundsCode.index
    | none=>boundsPanic q.fst q.snd 0 BoundsCode.index):=by
  rintro ⟨base,b,elem⟩
  dsimp only
  refine Qa (Cl t) fun g=>?_
  cases base with
  | none=>exact Q1R _ _ _ _
  | some a=>
   dsimp only
   by_cases f:0≤q.snd∧q.snd< ↑b
   ·rw[if_pos f]
    exact Qa (Qa (Q4w _) fun _=>Jb _) fun n=>Jb _
   ·rw[if_neg f]
    by_cases e:(decide (b≤1)&&match g with
     | TypeDesc.array b elem=>true
     | x=>false)=true
    ·rw[if_pos e]
     exact Q3z fun w v w' h=>by cases h
    ·rw[if_neg e]
     exact Q1R _ _ _ _
 split
 ·exact Qa (Q8E _) fun a=>Qa (Jb _) key
 ·exact Qa (Jb _) key
 ·exact Qa (Mu _) key
def Q3M (o:Oper):Bool:=match o.op with | .move _ | .assign _ | .load .. | .extract .. | .indexAddr .. =>true | _=>false
def Q7C (o:Oper):Bool:=match o.op with | .move _ | .assign _ | .extract .. | .indexAddr .. =>true | _=>false
theorem Q3l {s:Sem Value} {w:World} {K:Value→World→Prop} (h:op P (sv s) w K): ∃v w',s.run P w= .ok v w'∧K v w':=by
 rw[T9] at h
 unfold P5 sv at h
 rw[Sem.run_bind] at h
 cases a:s.run P w with
 | halt x w1=>rw[a] at h;exact h.elim
 | ok v w1=>rw[a] at h;exact ⟨v,w1,rfl,h⟩
theorem Q3m {s:Sem Value} {v:Value} {w w':World} {K:Value→World→Prop} (h:s.run P w= .ok v w') (k:K v w'):op P (sv s) w K:=by
 rw[T9]
 unfold P5 sv
 rw[Sem.run_bind,h]
 exact k
theorem Q50 {l:List Value} {o:Oper} {w:World} {K:Value→World→Prop} (h:Q3M o=true) (e:W9 P l o w K): ∃v,K v w∧ ∀c,c v w→W9 P l o w c:=by
 obtain ⟨d,p,j,pos,i,g⟩:=o
 cases p<;>(first | (simp[Q3M] at h;done) | skip)<;>simp only[W9] at e⊢
 ·exact ⟨_,e,fun c a=>a⟩
 ·exact ⟨_,e,fun c a=>a⟩
 ·obtain ⟨v,w',b,f⟩:=Q3l e
  have:=Q5A _ _ _ _ _ b
  subst this
  exact ⟨v,f,fun c a=>Q3m b a⟩
 ·obtain ⟨v,w',b,f⟩:=Q3l e
  have:=(Q0j _ _ _ _ _ _ b).1
  subst this
  exact ⟨v,f,fun c a=>Q3m b a⟩
 ·obtain ⟨v,w',b,f⟩:=Q3l e
  have:=(Ay _ _ _ _ _ b).1
  subst this
  exact ⟨v,f,fun c a=>Q3m b a⟩
theorem Q5v {l:List Value} {o:Oper} {w:World} {K:Value→World→Prop} (h:Q7C o=true) (c:W9 P l o w K): ∃v,K v w∧ ∀w' b,b v w'→W9 P l o w' b:=by
 obtain ⟨d,p,k,pos,j,g⟩:=o
 cases p<;>(first | (simp[Q7C] at h;done) | skip)<;>simp only[W9] at c⊢
 ·exact ⟨_,c,fun w' b a=>a⟩
 ·exact ⟨_,c,fun w' b a=>a⟩
 ·obtain ⟨v,w',i,e⟩:=Q3l c
  obtain ⟨rfl,f⟩:=Q0j _ _ _ _ _ _ i
  exact ⟨v,e,fun w' b a=>Q3m (f w') a⟩
 ·obtain ⟨v,w',i,e⟩:=Q3l c
  obtain ⟨rfl,f⟩:=Ay _ _ _ _ _ i
  exact ⟨v,e,fun w' b a=>Q3m (f w') a⟩
end
structure Swap (ops : List Oper) (a b : Oper) : Prop where
  pa : Xr a.op = true
  pb : Xr b.op = true
  ga : a.guard = none
  ab : ∀ d, a.dst = some d → d ∉ H7 ops b ++ B0 b
  ba : ∀ d, b.dst = some d → d ∉ H7 ops a ++ B0 a
  dd : ∀ d, a.dst = some d → b.dst ≠ some d
  gb : ∀ j c, b.guard = some (j, c) → ((ops[j]?).bind (·.dst)).isSome = true
  rd : (Q3M a = true ∧ Q3M b = true ∧ b.guard = none) ∨ Q7C a = true
section
variable {P : Program} {ops : List Oper} {W3 : List Value → World → Prop}
theorem Q2u {l:List Value} {d:Option Nat} {v:Value} {s:Nat} (h: ∀e,d=some e→e≠s):get (put l d v) s=get l s:=by
 cases d with
 | none=>rfl
 | some e=>simp only[put,get,List.getD_eq_getElem?_getD,List.getElem?_set_ne (h e rfl)]
theorem Q9g {l:List Value} {d e:Option Nat} {v u:Value} (h: ∀x,d=some x→e≠some x):put (put l d v) e u=put (put l e u) d v:=by
 cases d with
 | none=>rfl
 | some d=>cases e with
  | none=>rfl
  | some e=>simp only[put];exact List.set_comm _ _ (by intro a;subst a;exact h d rfl rfl)
theorem Q48 {o:Oper} {s:Nat} (a:Operand.tmp s∈o.op.operands):s∈B0 o:=by
 simp only[B0,List.mem_filterMap]
 exact ⟨.tmp s,by simpa using a,rfl⟩
theorem Q6o {a b:Oper} {R:List Oper} {l:List Value} {w:World} (W:Swap ops a b) (h:Z5 P ops W3 (a::b::R) l w):Z5 P ops W3 (b::a::R) l w:=by
 obtain ⟨pa,U,V,J,Z,Y,N,C⟩:=W
 have A: ∀v,W9 P (put l a.dst v) b=W9 P l b:=fun v=>Dp U fun x y=>by
  cases x with
  | tmp s=>exact Q2u fun e m f=>J e m (List.mem_append_right _ (f▸Q48 y))
  | _=>rfl
 have o: ∀v,W9 P (put l b.dst v) a=W9 P l a:=fun v=>Dp pa fun x y=>by
  cases x with
  | tmp s=>exact Q2u fun e m f=>Z e m (List.mem_append_right _ (f▸Q48 y))
  | _=>rfl
 have n: ∀v u,put (put l b.dst u) a.dst v=put (put l a.dst v) b.dst u:=fun v u=>(Q9g Y).symm
 simp only[Z5,V] at h⊢
 cases k:b.guard with
 | none=>
  simp only[k] at h⊢
  rcases C with ⟨M,O,_⟩ | fa
  ·obtain ⟨D,g,i⟩:=Q50 M h
   rw[A] at g
   obtain ⟨E,L,Q⟩:=Q50 O g
   refine Q _ ?_
   rw[o]
   exact i _ (by rw[n];exact L)
  ·obtain ⟨D,g,i⟩:=Q5v fa h
   rw[A] at g
   refine I6 (fun E w' t=>?_) g
   rw[o]
   exact i w' _ (by rw[n];exact t)
 | some q=>
  obtain ⟨j,c⟩:=q
  rcases C with ⟨_,_,H⟩ | fa
  ·rw[k] at H;cases H
  obtain ⟨d,B⟩:=Option.isSome_iff_exists.1 (N j c k)
  have z:d∈H7 ops b:=by simp[H7,k,B]
  have X: ∀v,get (put l a.dst v) d=get l d:=fun v=>Q2u fun e m f=>J e m (List.mem_append_left _ (f▸z))
  simp only[k,B] at h⊢
  obtain ⟨D,g,i⟩:=Q5v fa h
  rw[A,X] at g
  refine Q15 ((Wu g).imp (fun ⟨p,r⟩=>⟨p,I6 (fun E w' t=>?_) r⟩) (fun ⟨p,r⟩=>⟨p,?_⟩))
  ·rw[o];exact i w' _ (by rw[n];exact t)
  ·rw[o];exact i w _ (by rw[n];exact r)
theorem Q21 {a:Oper} {R R':List Oper} {l:List Value} {w:World} (b: ∀l w,Z5 P ops W3 R l w→Z5 P ops W3 R' l w) (h:Z5 P ops W3 (a::R) l w):Z5 P ops W3 (a::R') l w:=by
 simp only[Z5] at h⊢
 cases i:a.guard with
 | none=>simp only[i] at h⊢;exact I6 (fun v w g=>b _ _ g) h
 | some q=>
  obtain ⟨j,c⟩:=q
  simp only[i] at h⊢
  cases k:(ops[j]?).bind (·.dst) with
  | none=>simp only[k] at h⊢;exact b _ _ h
  | some d=>
   simp only[k] at h⊢
   exact Q15 ((Wu h).imp (fun ⟨e,f⟩=>⟨e,I6 (fun m w' g=>b _ _ g) f⟩) (fun ⟨e,f⟩=>⟨e,b _ _ f⟩))
theorem Q0k {q:Oper} {R:List Oper}: ∀(A:List Oper) {l:List Value} {w:World},(∀a∈A,Swap ops a q)→Z5 P ops W3 (A++q::R) l w→Z5 P ops W3 (q::(A++R)) l w
 | [],_,_,_,h=>h
 | a::A,l,w,c,h=>Q6o (c a (by simp)) (Q21 (R:=A++q::R) (fun _ _ h=>Q0k A (fun b d=>c b (by simp[d])) h) h)
theorem Ms: ∀(A:List Oper) {B:List Oper} {l:List Value} {w:World},Z5 P ops W3 (A++B) l w=Z5 P ops (fun l w=>Z5 P ops W3 B l w) A l w
 | [],B,l,w=>rfl
 | a::A,B,l,w=>by
  simp only[List.cons_append,Z5]
  split
  ·congr 1;funext v w;exact Ms A
  ·split
   ·congr 1;funext v w;exact Ms A
   ·exact Ms A
theorem Q7G {A B B':List Oper} {l:List Value} {w:World} (c: ∀l w,Z5 P ops W3 B l w→Z5 P ops W3 B' l w): ∀{l:List Value} {w:World},Z5 P ops W3 (A++B) l w→Z5 P ops W3 (A++B') l w:=by
 induction A with
 | nil=>exact fun h=>c _ _ h
 | cons a A b=>exact fun h=>Q21 (fun _ _ h=>b h) h
theorem Q6S (os:List Oper) (g:Nat→Nat→Bool) (t: ∀p q a b,p<q→os[p]? =some a→os[q]? =some b→g p q=false→Swap ops a b):
 ∀(n:Nat) (W3:List Value→World→Prop) (L:List Nat) (l:List Value) (w:World),L.Nodup→L.length=n→(∀q∈L,q<n)→n≤os.length→L.Pairwise (fun q p=>p<q→g p q=false)→
  Z5 P ops W3 (os.take n) l w→Z5 P ops W3 (L.filterMap (os[·]?)) l w
 | 0,W3,L,l,w,v,H,i,D,z,h=>by
  have:L=[]:=List.eq_nil_of_length_eq_zero H
  subst this;exact h
 | n+1,W3,L,l,w,v,H,i,D,z,h=>by
  have W:n∈L:=Classical.byContradiction fun u=>by
   have V:=F7 n L v fun k M=>by
    have m:=i k M
    have J:k≠n:=fun e=>u (e▸M)
    omega
   omega
  obtain ⟨A,B,rfl⟩:=List.append_of_mem W
  have c:n<os.length:=by omega
  have d:os[n]? =some os[n]:=List.getElem?_eq_getElem c
  have o:=List.nodup_append.1 v
  have C:n∉B:=(List.nodup_cons.1 o.2.1).1
  have E:n∉A:=fun e=>o.2.2 n e n (by simp) rfl
  have Q:os.take (n+1)=os.take n++[os[n]]:=(List.take_append_getElem c).symm
  rw[Q,Ms] at h
  have j: ∀q∈A++B,q<n:=fun q N=>by
   have V:q<n+1:=i q (by rcases List.mem_append.1 N with h | h<;>simp[h])
   have m:q≠n:=fun e=>by
    subst e
    rcases List.mem_append.1 N with h | h
    ·exact E h
    ·exact C h
   omega
  have f:(A++B).Sublist (A++n::B):=List.Sublist.append (List.Sublist.refl A) (List.sublist_cons_self n B)
  have m:=Q6S os g t n _ (A++B) l w (v.sublist f) (by simp at H⊢;omega) j (by omega) (z.sublist f) h
  rw[←Ms] at m
  rw[List.filterMap_append,List.append_assoc] at m
  rw[List.filterMap_append,List.filterMap_cons,d]
  refine Q7G (l:=l) (w:=w) (fun l w J=>?_) m
  have:=Q0k (R:=[]) (B.filterMap (os[·]?)) (fun a O=>?_) J
  ·rwa [List.append_nil] at this
  ·obtain ⟨p,s,y⟩:=List.mem_filterMap.1 O
   have r:=j p (List.mem_append_right _ s)
   refine t p n a _ r y d ?_
   have U:=(List.pairwise_append.1 z).2.1
   exact (List.pairwise_cons.1 U).1 p s r
end
def X0I (ops:List Oper) (a b:Oper):Bool:=
 (match a.guard with | none=>true | some _=>false)&&(match b.guard with | none=>true | some (j,_)=>match (ops[j]?).bind (·.dst) with | some _=>true | none=>false)&&
  ((Q3M a&&Q3M b&&(match b.guard with | none=>true | some _=>false))||Q7C a)
def X3R (o:Oper):Bool:=match o.op with | .call c=>(match c.callee with | .value (.func _)=>true | _=>false) | _=>false
def Q7u (ops:List Oper) (a:List Nat):Bool:=
 ops.any Q8n&&ops.any X3R&&(List.range ops.length).all fun q=>(List.range q).all fun p=>Qf ops a p q||X0I ops (ops.getD (a.getD p 0) default) (ops.getD (a.getD q 0) default)
theorem Ft {α:Type} {R:α→α→Prop}: ∀(a b:List α) {L:List α},L=b++a→(∀b q a,L=b++q::a→ ∀p∈a,R q p)→a.Pairwise R
 | [],_,_,_,_=>List.Pairwise.nil
 | q::a,b,L,c,h=>List.pairwise_cons.2 ⟨h b q a c,Ft a (b++[q]) (by rw[c];simp) h⟩
theorem X2r (P:Program) (ops:Array Oper) (W3:List Value→World→Prop) (V:List Value) (D:Re ops.toList V.length=true) (J:Q7u ops.toList (I7 ops.toList)=true)
 (b:Bool) (t:Nat) (w:World) (h:Z5 P ops.toList W3 (U8 ops.toList (I7 ops.toList)) V w):Z5 P ops.toList W3 ((Region.schedule b ops t).filterMap (ops[·]?)) V w:=by
 obtain ⟨L,X,m,ag⟩:=Q3S D b t
 simp only[Re,Bool.and_eq_true] at D
 obtain ⟨⟨⟨⟨⟨he,hc⟩,hn⟩,U⟩,⟨av,aq⟩,am⟩,ad⟩:=D
 generalize I7 ops.toList=f at*
 rw[X]
 refine Q6S (U8 ops.toList f) (Qf ops.toList f) (fun p q a k C u n E=>?_) _ W3 L V w m.hn rfl (fun q hq=>by rw[m.hLl];exact m.hlt q hq) (by rw[m.hLl];exact Nat.le_refl _) ?_ (by rw[m.hLl,List.take_length];exact h)
 ·have aa:q<ops.toList.length:=by have:=(List.getElem?_eq_some_iff.1 n).1;omega
  have ar:p<ops.toList.length:=by omega
  have v: ∀i o,(U8 ops.toList f)[i]? =some o→ops.toList.getD (f.getD i 0) default=o:=by
   intro i o A
   unfold U8 at A
   rw[List.getElem?_map] at A
   cases ho:f[i]? with
   | none=>rw[ho] at A;cases A
   | some x=>
    rw[ho] at A
    simp only[Option.map_some,Option.some.injEq] at A
    rw[List.getD_eq_getElem?_getD (l:=f),ho];exact A
  have z:(Qc a k||Qc k a)=false:=by
   cases B:Qc a k||Qc k a with
   | false=>rfl
   | true=>rw[m.hclash p q a k C u n B] at E;cases E
  rw[Bool.or_eq_false_iff] at z
  simp only[Q7u,Bool.and_eq_true] at J
  have Z:=List.all_eq_true.1 (List.all_eq_true.1 J.2 q (by simpa using aa)) p (by simpa using C)
  rw[E,Bool.false_or,v p a u,v q k n] at Z
  simp only[X0I,Bool.and_eq_true,Bool.or_eq_true] at Z
  obtain ⟨⟨g1,R⟩,g3⟩:=Z
  have N:a.guard=none:=by
   cases B:a.guard with
   | none=>rfl
   | some _=>rw[B] at g1;cases g1
  have c1: ∀d,a.dst=some d→d∉B0 k∧k.dst≠some d:=fun d U=>by
   have:=z.1
   unfold Qc at this
   rw[U] at this
   simp only[Bool.or_eq_false_iff] at this
   exact ⟨fun e=>by simp[e] at this,fun e=>by simp[e] at this⟩
  have c2: ∀d,k.dst=some d→d∉B0 a:=fun d U=>by
   have:=z.2
   unfold Qc at this
   rw[U] at this
   simp only[Bool.or_eq_false_iff] at this
   exact fun e=>by simp[e] at this
  refine ⟨m.hpl a (List.mem_of_getElem? u),m.hpl k (List.mem_of_getElem? n),N,fun d g=>?_,fun d g=>?_,fun d g=>(c1 d g).2,fun j c r=>?_,?_⟩
  ·rw[List.mem_append,not_or]
   refine ⟨fun e=>?_,(c1 d g).1⟩
   unfold H7 at e
   cases r:k.guard with
   | none=>rw[r] at e;simp at e
   | some q0=>
    obtain ⟨j,c⟩:=q0
    obtain ⟨p',ax,O,Q⟩:=m.hg q k j c n r
    rw[r] at e
    simp only at e
    cases s:ops.toList[j]?.map (·.dst) with
    | none=>
     cases M:ops.toList[j]? with
     | none=>rw[M] at e;simp at e
     | some Y=>rw[M] at s;cases s
    | some dj=>
     cases M:ops.toList[j]? with
     | none=>rw[M] at s;cases s
     | some Y=>
      rw[M] at e O
      simp only[Option.bind_some] at e
      cases y:Y.dst with
      | none=>rw[y] at e;simp at e
      | some d2=>
       rw[y] at e
       simp only[List.mem_singleton] at e
       subst e
       have:=Yr (U8 ops.toList f) hn p' p Y a d O u y g
       subst this
       rw[Q] at E;cases E
  ·rw[List.mem_append,not_or]
   exact ⟨fun e=>by simp[H7,N] at e,c2 d g⟩
  ·rw[r] at R
   simp only at R
   cases B:(ops.toList[j]?).bind (·.dst) with
   | none=>rw[B] at R;cases R
   | some _=>rfl
  ·rcases g3 with ⟨⟨g3,g4⟩,g5⟩ | g3
   ·refine .inl ⟨g3,g4,?_⟩
    cases B:k.guard with
    | none=>rfl
    | some _=>rw[B] at g5;cases g5
   ·exact .inr g3
 ·refine Ft L [] (L:=L) rfl fun W q H hL p hp C=>?_
  cases E:Qf ops.toList f p q with
  | false=>rfl
  | true=>
   have h1:=m.hC W q H hL p E (m.hlt p (by rw[hL];simp[hp]))
   have h2:=m.hn
   rw[hL] at h2
   exact absurd rfl ((List.nodup_append.1 h2).2.2 p h1 p (by simp[hp]))
theorem X0P: ∃f:World→(World→Prop)→Prop,f=fun w A=>A w.drew:=⟨_,rfl⟩
noncomputable def sq:World→(World→Prop)→Prop:=Classical.choose X0P
theorem X0R:sq=fun w A=>A w.drew:=Classical.choose_spec X0P
def Q4M:List Ent→Nat→Ent→(List Ent→Prop)→Prop
 | [],_,_,k=>k []
 | _::l,0,e,k=>k (e::l)
 | x::l,n+1,e,k=>Q4M l n e (fun l'=>k (x::l'))
def Q4L (S:List Ent) (d:Option Nat) (e:Ent) (k:List Ent→Prop):Prop:=
 match d with
 | some d=>Q4M S d e k
 | none=>k S
def Q7v:List Ent→Nat→(Ent→Prop)→Prop
 | [],_,k=>k (.val undef)
 | x::_,0,k=>k x
 | _::l,n+1,k=>Q7v l n k
def Q9o (S:List Ent) (x:Operand) (k:Ent→Prop):Prop:=
 match x with
 | .tmp t=>Q7v S t k
 | .const v=>k (.val v)
 | .global g=>k (.val (.pointer (some ⟨g,0,none⟩)))
 | .func f=>k (.val (.func (.func f) #[] #[]))
def Q1f (u:Nat→Value):List Ent→(List Value→Prop)→Prop
 | [],k=>k []
 | .val v::S,k=>Q1f u S (fun l=>k (v::l))
 | .ref j::S,k=>Q1f u S (fun l=>k (u j::l))
def Q7X:List Value→(List Ent→Prop)→Prop
 | [],k=>k []
 | v::l,k=>Q7X l (fun S=>k (.val v::S))
theorem Q5y: ∀(S:List Ent) (n:Nat) (e:Ent) (k:List Ent→Prop),Q4M S n e k=k (Q2g S n e)
 | [],_,_,_=>rfl
 | _::_,0,_,_=>rfl
 | _::l,n+1,e,k=>by simp only[Q4M,Q2g,Q5y l n e]
theorem Q2i (S:List Ent) (d:Option Nat) (e:Ent) (k:List Ent→Prop):Q4L S d e k=k (putE S d e):=by
 cases d with
 | none=>rfl
 | some d=>exact Q5y S d e k
theorem Q67: ∀(S:List Ent) (n:Nat) (k:Ent→Prop),Q7v S n k=k (getE S n)
 | [],_,_=>rfl
 | _::_,0,_=>rfl
 | _::l,n+1,k=>Q67 l n k
theorem Q9w (S:List Ent) (x:Operand) (k:Ent→Prop):Q9o S x k=k (entOf S x):=by
 cases x with
 | tmp t=>exact Q67 S t k
 | _=>rfl
theorem Q2r (u:Nat→Value): ∀(S:List Ent) (k:List Value→Prop),Q1f u S k=k (A5 u S)
 | [],_=>rfl
 | .val v::S,k=>by simp only[Q1f,Q2r u S];rfl
 | .ref j::S,k=>by simp only[Q1f,Q2r u S];rfl
theorem Q71: ∀(l:List Value) (k:List Ent→Prop),Q7X l k=k (l.map .val)
 | [],_=>rfl
 | v::l,k=>by simp only[Q7X,Q71 l];rfl
noncomputable def Sh (P:Program) (ops:List Oper) (T:World→World→Prop) (B:World→Prop) (W3:List Value→World→Prop) (tail:List Oper):Nat→List Oper→List Ent→Rj→List Nat→Prop
 | _,[],S,b,done=>Kz done (fun _=>undef) fun u=> ∀w,B w→Q1d b u w (Q1f u S fun l=>A8 P ops W3 tail l w) done
 | i,o::a,S,b,done=>
  match mv o with
  | some x=>Q9o S x fun e=>Q4L S o.dst e fun S=>Sh P ops T B W3 tail (i+1) a S b done
  | none=>match Q8n o with
   | true=>Sk T (fun φ=>Kz (refs ops S o) (fun _=>undef) fun u=> ∀w,B w→Kg b u w (runOp P ops (A5 u S) o w (dk T (φ ((refs ops S o).map u)) w)) (refs ops S o))
    (fun φ=>Q4L S o.dst (.ref i) fun c=>Sh P ops T B W3 tail (i+1) a c (b++[(i,refs ops S o,φ)]) (done++[i]))
   | false=>Q6 T (fun φ=>Kz (refs ops S o) (fun _=>undef) fun u=> ∀w,B w→Kg b u w (runOp P ops (A5 u S) o w (dk T φ w)) (refs ops S o))
    (fun φ=>Q4L S o.dst (.ref i) fun c=>Sh P ops T B W3 tail (i+1) a c (b++[(i,[],fun _=>φ)]) (done++[i]))
theorem Cq (P:Program) (ops:List Oper) (T:World→World→Prop) (B:World→Prop) (W3:List Value→World→Prop) (tail:List Oper): ∀(a:List Oper) (i:Nat) (S:List Ent) (b:Rj) (done:List Nat),
 Sh P ops T B W3 tail i a S b done=chain P ops T B W3 tail i a S b done
 | [],i,S,b,done=>by simp only[Sh,chain,Q2r]
 | o::a,i,S,b,done=>by
  simp only[Sh,chain]
  split
  ·rw[Q9w,Q2i,Cq]
  ·split
   ·congr 1
    funext φ
    rw[Q2i,Cq]
   ·congr 1
    funext φ
    rw[Q2i,Cq]
noncomputable def X12 (P:Program) (ops:List Oper) (W3:List Value→World→Prop) (l:List Value) (w:World):Prop:=
 dr w fun T B=>Q7X l fun S=>Sh P ops T B W3 ((U8 ops (I7 ops)).drop (Ho ops (I7 ops) ops.length)) 0 ((U8 ops (I7 ops)).take (Ho ops (I7 ops) ops.length)) S [] []
def Q19 (a b:List Nat):Bool:=a.all (b.contains ·)&&b.all (a.contains ·)
theorem Rt {a b:List Nat} (h:Q19 a b=true) (i:Nat):a.contains i=b.contains i:=by
 simp only[Q19,Bool.and_eq_true,List.all_eq_true] at h
 rw[Bool.eq_iff_iff]
 constructor
 ·intro c;exact h.1 i (by simpa using c)
 ·intro c;exact h.2 i (by simpa using c)
abbrev V8:=List (Option (List Nat×List Nat))
def V8.slots (a:V8):List (Option (List Nat)):=a.map (·.map (·.1))
theorem V8.slots_get (a:V8) (k:Nat):a.slots.getD k none=(a.getD k none).map (·.1):=by
 simp only[V8.slots,List.getD_eq_getElem?_getD,List.getElem?_map]
 cases a[k]? <;>rfl
noncomputable def Wi (P:Program) (b:V8) (a:List (Option (List Nat))):Nat→Code→Ey→List Value→World→Prop
 | _, .skip,Q,l,w=>Q .normal l w
 | _, .label _,Q,l,w=>Q .normal l w
 | _, .exit id,Q,l,w=>Q (.exit id) l w
 | _, .ret,Q,l,w=>Q .ret l w
 | _, .region _ ops false,Q,l,w=>A8 P ops.toList (fun l w=>Q .normal l w) ops.toList l w
 | _, .region _ ops true,Q,l,w=>match Re ops.toList l.length with
  | true=>match Q7u ops.toList (I7 ops.toList) with
   | true=>sq w fun w=>A8 P ops.toList (fun l w=>Q .normal l w) (U8 ops.toList (I7 ops.toList)) l w
   | false=>X12 P ops.toList (fun l w=>Q .normal l w) l w
  | false=>False
 | k, .seq x y,Q,l,w=>match b.getD k none with
  | none=>Wi P b a (k+1) x (thn (fun l w=>Wi P b a (k+1+Qi x) y Q l w) Q) l w
  | some (f,g)=>match Q19 g (N2 a (k+1) x) with
   | true=>jn w (fun J w=>Wi P b a (k+1) x (thn (fun l' w'=>J (Ny l' f) w') Q) l w)
    (fun z d w=>Fu f g z d 0 l fun l=>Wi P b a (k+1+Qi x) y Q l w)
   | false=>False
 | k, .cond c x y,Q,l,w=>X1 (ev l c) (Wi P b a k x Q l w) (Wi P b a (k+Qi x) y Q l w)
 | k, .block id c,Q,l,w=>Wi P b a k c (Q3b id Q) l w
 | k, .loop c,Q,l,w=>match b.getD k none with
  | none=>False
  | some (f,g)=>match Q19 g (N2 a (k+1) c) with
   | true=>lp (Ny l f) w (fun e x d w=>Fu f g x d 0 l fun l=>Wi P b a (k+1) c (thn (fun l' w'=>e (Ny l' f) w') Q) l w)
   | false=>False
 | _,_,_,_,_=>False
theorem Q0i {next a:List Value→World→Prop} {Q b:Ey} (c: ∀l w,next l w→a l w) (d: ∀e l w,Q e l w→b e l w): ∀e l w,thn next Q e l w→thn a b e l w:=by
 intro e l w h;cases e<;>first | exact c _ _ h | exact d _ _ _ h
theorem X0i (P:Program) (m:V8) (c:Code): ∀(k:Nat) (Q j:Ey) (l:List Value) (w:World),(∀e l w,Q e l w→j e l w)→
 Wi P m m.slots k c Q l w→Ov P m.slots k c j l w:=by
 induction c with
 | skip=>intro k Q j l w g h;exact g _ _ _ h
 | label n=>intro k Q j l w g h;exact g _ _ _ h
 | exit id=>intro k Q j l w g h;exact g _ _ _ h
 | ret=>intro k Q j l w g h;exact g _ _ _ h
 | goto n=>intro k Q j l w g h;exact h.elim
 | refuse s=>intro k Q j l w g h;exact h.elim
 | scope c=>intro k Q j l w g h;exact h.elim
 | rangeFunc f p a b=>intro k Q j l w g h;exact h.elim
 | region id ops C=>
  intro k Q j l w g h
  cases C with
  | true=>
   simp only[Wi] at h
   split at h
   ·rename_i v
    intro t
    have u:Z5 P ops.toList (fun l w=>Q .normal l w) ((Region.schedule (P.follows .mixedOrders) ops t).filterMap (ops[·]?)) l w.drew:=by
     split at h
     ·rename_i H
      simp only[X0R,Kq] at h
      exact X2r P ops _ l v H _ t _ h
     ·simp only[X12,X0Z,Q7H,Q71,Cq] at h
      obtain ⟨T,B,h0,Y,h⟩:=h
      exact X1A P ops T B _ l v Y h (P.follows .mixedOrders) t w.drew h0
    refine Ub P _ _ _ (R4 ops.toList) l _ _ _ ?_ (Qm.refl _ _) (fun l w R _=>g _ _ _ R) u
    intro o E d u
    simp only[List.mem_filterMap] at E
    obtain ⟨i,_,hi⟩:=E
    simp only[R4,List.contains_eq_mem,List.mem_filterMap,decide_eq_true_eq]
    exact ⟨o,by simpa using Array.mem_of_getElem? hi,u⟩
   ·exact h.elim
  | false=>
   simp only[Wi] at h
   rw[Kq] at h
   refine Ub P _ _ _ (R4 ops.toList) l _ _ _ ?_ (Qm.refl _ _) (fun l w R _=>g _ _ _ R) h
   intro o E d u
   simp only[R4,List.contains_eq_mem,List.mem_filterMap,decide_eq_true_eq]
   exact ⟨o,E,u⟩
 | seq x y q r=>
  intro k Q j l w g h
  simp only[Wi,Ov] at h⊢
  rw[V8.slots_get]
  split at h
  ·rename_i A
   simp only[A,Option.map_none]
   exact q _ _ _ _ _ (Q0i (fun l w h=>r _ _ _ _ _ g h) g) h
  ·rename_i W wr A
   simp only[A,Option.map_some]
   split at h
   ·rename_i L
    obtain ⟨J,h1,Z⟩:=Q4O h
    refine Up J (q _ _ _ _ _ (Q0i (fun l w h=>h) g) h1) fun z d w hz=>?_
    have V:=Z z d w hz
    rw[Q3Y,Bb _ _ _ (Rt L)] at V
    exact r _ _ _ _ _ g V
   ·exact h.elim
 | cond c x y q r=>
  intro k Q j l w g h
  exact Q4n (q k _ _ _ _ g) (r _ _ _ _ _ g) h
 | block id c N=>
  intro k Q j l w g h
  refine N k _ _ _ _ ?_ h
  intro e l' w' D
  cases e with
  | exit ad=>simp only[Q3b] at D⊢;split<;>rename_i M<;>simp only[M,if_true,if_false] at D<;>exact g _ _ _ D
  | _=>exact g _ _ _ D
 | loop c N=>
  intro k Q j l w g h
  simp only[Wi,Ov] at h⊢
  split at h
  ·exact h.elim
  ·rename_i W wr A
   have O:(m.slots.getD k none).getD []=W:=by rw[V8.slots_get,A];rfl
   split at h
   ·rename_i L
    subst O
    refine Q3U (fun U x d w X=>?_) h
    rw[Q3Y,Bb _ _ _ (Rt L)] at X
    exact N _ _ _ _ _ (Q0i (fun l w h=>h) g) X
   ·exact h.elim
def Q2I (P:Program) (t:TypeId) (a:Value) (w:World) (K:Value→Prop):Prop:= ∃v,(do loadVar t (←asAddr a):Sem Value).run P w= .ok v w∧K v
theorem Q2W: ∃f:Program→TypeId→Value→World→(Value→Prop)→Prop,f=Q2I:=⟨_,rfl⟩
noncomputable def Y7:Program→TypeId→Value→World→(Value→Prop)→Prop:=Classical.choose Q2W
theorem Q3a:Y7=Q2I:=Classical.choose_spec Q2W
noncomputable def Q5b (P:Program) (l:List Value) (K:List Value→World→Prop):List ResultVar→List Value→World→Prop
 | [],b,w=>K b.reverse w
 | .tmp t::c,b,w=>Q5b P l K c (get l t::b) w
 | .cell a t::c,b,w=>Y7 P t (get l a) w fun v=>Q5b P l K c (v::b) w
def Q2z:List Value→Value
 | [v]=>v
 | vs=> .tuple vs.toArray
noncomputable def results (P:Program) (a:List ResultVar) (K:Value→World→Prop) (l:List Value) (w:World):Prop:=
 Q5b P l (fun vs w=>K (Q2z vs) w) a [] w
noncomputable def Q7R (P:Program) (fn:Func) (K:Value→World→Prop):Ey
 | .normal,l,w | .ret,l,w=>results P fn.results.toList K l w
 | _,_,_=>False
def Q9O (K:Value→World→Prop) (e:Ending) (w:World):Prop:=match e with | .returned v=>K v w | _=>False
theorem Q5R (a:Array Value) (t:Nat):a.getD t undef=get a.toList t:=by
 simp[get,List.getD_eq_getElem?_getD]
theorem Q8I (vs:List Value):(if h:vs.toArray.size=1 then vs.toArray[0] else Value.tuple vs.toArray)=Q2z vs:=by
 match vs with
 | []=>rfl
 | [v]=>rfl
 | _::_::_=>rfl
theorem Q2t (P:Program) (l:List Value) (K:List Value→World→Prop) (f:ResultVar→Sem Value)
 (d: ∀t,f (.tmp t)=Pure.pure (get l t)) (c: ∀a t,f (.cell a t)=(do loadVar t (←asAddr (get l a)))): ∀(e:List ResultVar) (b:List Value) (w:World),Q5b P l K e b w→
 ∃vs,(e.mapM f).run P w= .ok vs w∧K (b.reverse++vs) w
 | [],b,w,h=>⟨[],by simp,by rw[List.append_nil];exact h⟩
 | .tmp t::e,b,w,h=>by
  obtain ⟨vs,g,i⟩:=Q2t P l K f d c e _ w h
  refine ⟨get l t::vs,?_,by simpa using i⟩
  rw[List.mapM_cons,d]
  simp[g]
 | .cell a t::e,b,w,h=>by
  simp only[Q5b,Q3a] at h
  obtain ⟨v,j,h⟩:=h
  obtain ⟨vs,g,i⟩:=Q2t P l K f d c e _ w h
  refine ⟨v::vs,?_,by simpa using i⟩
  rw[List.mapM_cons,c,Sem.run_bind,j]
  simp[g]
def X2z (a:Array Value):ResultVar→Sem Value
 | .tmp t=>Pure.pure (a.getD t undef)
 | .cell b t=>do loadVar t (←asAddr (a.getD b undef))
theorem Q5Q (fn:Func) (a:Array Value):Go.results fn a=(do
 let vs←fn.results.mapM (X2z a)
 Pure.pure (if h:vs.size=1 then vs[0] else .tuple vs)):=by
 unfold Go.results
 congr 1
theorem Q1T (P:Program) (fn:Func) (K:Value→World→Prop) (a:Array Value) (w:World) (h:results P fn.results.toList K a.toList w):
 ∃v,(Go.results fn a).run P w= .ok v w∧K v w:=by
 rw[Q5Q,Array.mapM_eq_mapM_toList]
 obtain ⟨vs,b,c⟩:=Q2t P a.toList (fun vs w=>K (Q2z vs) w) (X2z a) (fun t=>by rw[←Q5R];rfl) (fun d t=>by rw[←Q5R];rfl) fn.results.toList [] w h
 refine ⟨Q2z vs,?_,by simpa using c⟩
 rw[Sem.run_bind,Sem.run_map,b]
 simp only[Result.andThen_ok,Sem.run_pure,Q8I]
def Q11 (fn:Func) (a:List Value):List Value:=a++List.replicate (fn.ntmps-a.length) undef
theorem Q62 {P:Program} {f:FuncId} {fn:Func} {c:Code} {b:List Value} {w:World} {K:Value→World→Prop} (d:List (Option (List Nat)))
 (j:P.funcs[f]? =some fn) (k:fn.body=some c) (h:Ov P d 0 c (Q7R P fn K) (Q11 fn b) w):Calls P f b.toArray w (Q9O K):=by
 refine calls_of_wp j k (wp_mono (Q9l P d c 0 (Q7R P fn K) _ w rfl ?_) ?_)
 ·have:(b.toArray++Array.replicate (fn.ntmps-b.toArray.size) undef).toList=Q11 fn b:=by simp[Q11]
  simp only[this];exact h
 ·intro e a w ⟨i,g⟩
  cases e with
  | normal=>exact ⟨i,Q1T P fn K _ _ g⟩
  | ret=>exact ⟨i,Q1T P fn K _ _ g⟩
  | _=>exact g.elim
theorem Wo {P:Program} {f:FuncId} {fn:Func} {a:List Value} {w:World} {K:Value→World→Prop}
 (i:P.funcs[f]? =some fn) (d:fn.body.isSome=true) (g:(fn.name== "runtime.NumGoroutine")=false) (h:Calls P f a.toArray w (Q9O K)):Q1 P f a w K:=by
 have k:(callFunc f a.toArray).run P w= .ok (.enter f a.toArray) w:=by
  unfold callFunc
  simp only[Sem.run_bind,run_program,Result.andThen_ok,i,g,Bool.false_eq_true,if_false]
  cases b:fn.body with
  | none=>rw[b] at d;cases d
  | some c=>simp
 unfold Q1
 rw[T9]
 unfold P5
 rw[k]
 refine h.mono fun e w' j=>?_
 cases e<;>exact j
theorem Q3D {P:Program} {f:FuncId} {fn:Func} {a:List Value} {w:World} {K:Value→World→Prop}
 (i:P.funcs[f]? =some fn) (d:fn.body.isSome=true) (g:(fn.name== "runtime.NumGoroutine")=false) (h:Q1 P f a w K):Calls P f a.toArray w (Q9O K):=by
 have k:(callFunc f a.toArray).run P w= .ok (.enter f a.toArray) w:=by
  unfold callFunc
  simp only[Sem.run_bind,run_program,Result.andThen_ok,i,g,Bool.false_eq_true,if_false]
  cases b:fn.body with
  | none=>rw[b] at d;cases d
  | some c=>simp
 unfold Q1 at h
 rw[T9] at h
 unfold P5 at h
 rw[k] at h
 refine Calls.mono h fun e w' j=>?_
 cases e<;>exact j
theorem X1C {P:Program} {f:FuncId} {fn:Func} {b:List Value} {w:World} {K:Value→World→Prop} (a:V8)
 (d:P.funcs[f]? =some fn) (g:fn.body.isSome=true) (i:(fn.name== "runtime.NumGoroutine")=false)
 (h:Wi P a a.slots 0 (fn.body.getD .skip) (Q7R P fn K) (Q11 fn b) w):Q1 P f b w K:=by
 refine Wo d g i ?_
 obtain ⟨c,e⟩:=Option.isSome_iff_exists.1 g
 rw[e] at h
 exact Q62 a.slots d e (X0i P a c 0 _ _ _ _ (fun _ _ _ h=>h) h)
theorem Q9 {P:Program} {f:FuncId} {fn:Func} {a:List Value} {w:World} {K:Value→World→Prop} {g:Prop} (b:V8)
 (d:P.funcs[f]? =some fn) (e:fn.body.isSome=true) (c:(fn.name== "runtime.NumGoroutine")=false)
 (i:g=Wi P b b.slots 0 (fn.body.getD .skip) (Q7R P fn K) (Q11 fn a) w) (h:g):Q1 P f a w K:=
 X1C b d e c (i▸h)
theorem Z6 {P:Program} {f:FuncId} {first caps:List Value} {a:List Value} {w:World} {K:Value→World→Prop} (h:Q1 P f (first++a++caps) w K):Z3 P (.func (.func f) first.toArray caps.toArray) a w K:=by
 simpa [Z3,Q1,Deferred.ofValue,invoke,pure_bind,List.append_toArray] using h
end Go.Emb

namespace Go.Proofs.YtjdiakhipmggjaaGreatDoor
noncomputable abbrev P : Program := Tryz.prog
namespace F
abbrev c5 : Nat := 5
abbrev cL : Nat := 12
abbrev aw : Nat := 13
abbrev aF : Nat := 14
abbrev cM : Nat := 15
abbrev c0 : Nat := 16
abbrev b3 : Nat := 17
abbrev v : Nat := 18
abbrev ax : Nat := 20
abbrev aX : Nat := 21
abbrev b4 : Nat := 22
abbrev bz : Nat := 23
abbrev ag : Nat := 24
abbrev aY : Nat := 25
abbrev aC : Nat := 26
abbrev ay : Nat := 27
abbrev bA : Nat := 28
abbrev ct : Nat := 29
abbrev aM : Nat := 30
abbrev cc : Nat := 31
abbrev c1 : Nat := 32
abbrev aG : Nat := 33
abbrev aN : Nat := 34
abbrev bB : Nat := 35
abbrev a3 : Nat := 36
abbrev aO : Nat := 37
abbrev c2 : Nat := 40
abbrev cD : Nat := 41
abbrev cw : Nat := 42
abbrev cx : Nat := 43
abbrev j : Nat := 44
abbrev bb : Nat := 45
abbrev o : Nat := 46
abbrev bj : Nat := 47
abbrev bk : Nat := 48
abbrev b5 : Nat := 49
abbrev aP : Nat := 50
abbrev aD : Nat := 51
abbrev az : Nat := 52
abbrev n : Nat := 53
abbrev cq : Nat := 54
abbrev bC : Nat := 55
abbrev bM : Nat := 56
abbrev bc : Nat := 57
abbrev bl : Nat := 58
abbrev bN : Nat := 59
abbrev bO : Nat := 60
abbrev bP : Nat := 61
abbrev bQ : Nat := 62
abbrev bR : Nat := 63
abbrev aZ : Nat := 64
abbrev aH : Nat := 65
abbrev aA : Nat := 66
abbrev b6 : Nat := 67
abbrev cQ : Nat := 68
abbrev s : Nat := 69
abbrev aQ : Nat := 70
abbrev bD : Nat := 71
abbrev b7 : Nat := 72
abbrev p : Nat := 73
abbrev bE : Nat := 74
abbrev k : Nat := 75
abbrev bF : Nat := 76
abbrev cE : Nat := 77
abbrev cy : Nat := 78
abbrev a8 : Nat := 79
abbrev ac : Nat := 80
abbrev c6 : Nat := 81
abbrev h : Nat := 82
abbrev b8 : Nat := 83
abbrev x : Nat := 84
abbrev c7 : Nat := 85
abbrev c : Nat := 86
abbrev z : Nat := 87
abbrev aE : Nat := 88
abbrev bm : Nat := 89
abbrev aj : Nat := 90
abbrev ak : Nat := 91
abbrev aW : Nat := 92
abbrev a : Nat := 93
abbrev aI : Nat := 94
abbrev ce : Nat := 95
abbrev bd : Nat := 96
abbrev c3 : Nat := 97
abbrev a9 : Nat := 98
abbrev bn : Nat := 99
abbrev bo : Nat := 100
abbrev b : Nat := 101
abbrev be : Nat := 102
abbrev ah : Nat := 103
abbrev b0 : Nat := 104
abbrev b9 : Nat := 105
abbrev a1 : Nat := 106
abbrev a2 : Nat := 107
abbrev aJ : Nat := 108
abbrev aL : Nat := 109
abbrev bp : Nat := 110
abbrev y : Nat := 111
abbrev bG : Nat := 113
abbrev a0 : Nat := 114
abbrev cu : Nat := 115
abbrev bH : Nat := 116
abbrev q : Nat := 117
abbrev e : Nat := 118
abbrev a4 : Nat := 119
abbrev af : Nat := 120
abbrev cl : Nat := 121
abbrev cm : Nat := 122
abbrev aa : Nat := 123
abbrev ai : Nat := 124
abbrev aR : Nat := 125
abbrev cn : Nat := 126
abbrev aB : Nat := 127
abbrev co : Nat := 128
abbrev an : Nat := 129
abbrev cp : Nat := 130
abbrev ao : Nat := 131
abbrev bx : Nat := 132
abbrev bS : Nat := 133
abbrev al : Nat := 134
abbrev ba : Nat := 135
abbrev ad : Nat := 136
abbrev ae : Nat := 137
abbrev w : Nat := 138
abbrev c8 : Nat := 139
abbrev i : Nat := 140
abbrev cf : Nat := 141
abbrev g : Nat := 142
abbrev cN : Nat := 143
abbrev cA : Nat := 144
abbrev aS : Nat := 145
abbrev bI : Nat := 146
abbrev bJ : Nat := 147
abbrev bq : Nat := 148
abbrev br : Nat := 149
abbrev bs : Nat := 150
abbrev aT : Nat := 151
abbrev bf : Nat := 152
abbrev aU : Nat := 153
abbrev r : Nat := 154
abbrev cv : Nat := 155
abbrev cR : Nat := 156
abbrev cg : Nat := 157
abbrev am : Nat := 158
abbrev cO : Nat := 159
abbrev d : Nat := 160
abbrev ap : Nat := 161
abbrev ch : Nat := 162
abbrev c4 : Nat := 163
abbrev ci : Nat := 164
abbrev cr : Nat := 165
abbrev f : Nat := 166
abbrev c9 : Nat := 167
abbrev bV : Nat := 168
abbrev bW : Nat := 169
abbrev bT : Nat := 170
abbrev bh : Nat := 171
abbrev aq : Nat := 172
abbrev bi : Nat := 173
abbrev cF : Nat := 174
abbrev ar : Nat := 175
abbrev cS : Nat := 179
abbrev cd : Nat := 180
abbrev u : Nat := 181
abbrev a5 : Nat := 182
abbrev b1 : Nat := 183
abbrev aK : Nat := 184
abbrev bK : Nat := 185
abbrev bt : Nat := 186
abbrev av : Nat := 187
abbrev aV : Nat := 190
abbrev cB : Nat := 191
abbrev ca : Nat := 192
abbrev cj : Nat := 193
abbrev l : Nat := 194
abbrev bX : Nat := 195
abbrev ck : Nat := 196
abbrev cJ : Nat := 197
abbrev m : Nat := 198
abbrev bY : Nat := 199
abbrev ab : Nat := 202
abbrev b2 : Nat := 203
abbrev cb : Nat := 204
abbrev a6 : Nat := 208
abbrev cK : Nat := 209
abbrev cC : Nat := 210
abbrev cG : Nat := 211
abbrev a7 : Nat := 212
abbrev bu : Nat := 215
abbrev cT : Nat := 219
abbrev cs : Nat := 220
abbrev t : Nat := 221
abbrev cP : Nat := 222
abbrev cz : Nat := 224
abbrev bv : Nat := 225
abbrev bw : Nat := 226
abbrev au : Nat := 227
abbrev bL : Nat := 228
abbrev cH : Nat := 229
abbrev bg : Nat := 230
abbrev bZ : Nat := 231
abbrev cI : Nat := 232
abbrev bU : Nat := 233
end F
namespace T
abbrev x : Nat := 0
abbrev a1 : Nat := 2
abbrev e : Nat := 3
abbrev u : Nat := 4
abbrev a3 : Nat := 5
abbrev c : Nat := 9
abbrev av : Nat := 12
abbrev an : Nat := 21
abbrev r : Nat := 22
abbrev y : Nat := 23
abbrev i : Nat := 26
abbrev a5 : Nat := 29
abbrev f : Nat := 33
abbrev g : Nat := 37
abbrev ao : Nat := 43
abbrev a0 : Nat := 44
abbrev a : Nat := 46
abbrev m : Nat := 51
abbrev h : Nat := 54
abbrev k : Nat := 65
abbrev n : Nat := 69
abbrev ak : Nat := 74
abbrev l : Nat := 76
abbrev o : Nat := 78
abbrev a2 : Nat := 80
abbrev z : Nat := 82
abbrev j : Nat := 83
abbrev b : Nat := 85
abbrev a4 : Nat := 88
abbrev a7 : Nat := 91
abbrev v : Nat := 94
abbrev q : Nat := 95
abbrev s : Nat := 96
abbrev d : Nat := 98
abbrev p : Nat := 100
abbrev ac : Nat := 120
abbrev ap : Nat := 126
abbrev w : Nat := 136
abbrev a9 : Nat := 139
abbrev ae : Nat := 140
abbrev a8 : Nat := 146
abbrev a6 : Nat := 148
abbrev au : Nat := 154
abbrev aj : Nat := 156
abbrev al : Nat := 157
abbrev aa : Nat := 165
abbrev ag : Nat := 168
abbrev t : Nat := 172
abbrev ax : Nat := 184
abbrev ab : Nat := 190
abbrev ah : Nat := 197
abbrev ai : Nat := 200
abbrev ar : Nat := 203
abbrev am : Nat := 205
abbrev aw : Nat := 220
abbrev ad : Nat := 225
abbrev af : Nat := 226
abbrev aq : Nat := 235
abbrev ay : Nat := 241
end T
namespace G
abbrev b : Nat := 0
abbrev e : Nat := 1
abbrev d : Nat := 2
abbrev a : Nat := 3
abbrev c : Nat := 4
end G
end Go.Proofs.YtjdiakhipmggjaaGreatDoor

set_option maxRecDepth 100000
namespace Go.Proofs.YtjdiakhipmggjaaGreatDoor
open Go.Emb
def Q68:V8:=[none,none,none,none,some ([1,10],[1,3,10,11,12,13,14,15,16,17,18]),none,none,none,none,none]
def Q0O (w:World) (K:Value→World→Prop):Prop:= H1 P T.b [(0,(.string ⟨#[79,98,106,101,99,116]⟩))] w fun k w=>H1 P T.n [(0,(.string ⟨#[119,104,97,116]⟩)),(1,(.string ⟨#[116,101,120,116]⟩))] w fun l w=>buildSlice P T.k 1 [(0,l)] w fun n w=>H1 P T.b [(0,(.string ⟨#[70,97,117,108,116]⟩)),(1,(.string ⟨#[79,98,106,101,99,116]⟩)),(6,n)] w fun i w=>buildSlice P T.i 2 [(0,k),(1,i)] w fun j w=>Q2 P T.ap (.pointer (some ⟨G.b,0,none⟩)) w fun m w=>lp (α:=Value×Value) (j,(.int .i64 0)) w fun a b o w=>Q3 P .lss T.e (.tmp 10) (.const (.int .i64 6)) b.2 (.int .i64 6) w fun f w=>X1 f (S6 P T.ap m b.2 w fun g w=>H1 P T.b [(0,g),(1,(.string ⟨#[70,97,117,108,116]⟩)),(5,(.bool true))] w fun h w=>buildSlice P T.i 1 [(0,h)] w fun e w=>X3 P .append [T.i,T.i] T.i [false,false] [b.1,e] w fun c w=>Q3 P .add T.e (.tmp 10) (.const (.int .i64 1)) b.2 (.int .i64 1) w fun d w=>a (c,d) w) (K b.1 w)
theorem Q5x {w:World} {K:Value→World→Prop} (h:Q0O w K):Q1 P F.cD [] w K:=Q9 Q68 Tryz.func41 rfl (by decide) (by kernel_rfl) h
def Q5F:V8:=[none,none,none,some ([8],[2,4,8,9,10,11,12,13,14,15,16,17,18,19,20,21,22,23,24,25,26,27,28,29,30,31,32,33]),none,none,none,none,none,none,none]
def Q0w (X:Value) (w:World) (K:Value→World→Prop):Prop:= box P T.b X w fun b w=>fieldAddr P T.b b 7 w fun t5 w=>Q2 P T.j t5 w fun W w=>X3 P .len [T.j] T.e [false] [W] w fun Y w=>lp (α:=Value) (.int .i64 0) w fun g i d_ w=>Q3 P .lss T.e (.tmp 8) (.tmp 7) i Y w fun Z w=>X1 Z (indexAddr P T.j W i w fun M w=>Q2 P T.d M w fun q w=>W0 P T.d w fun a w=>Y0 P T.d a q w fun _u w=>fieldAddr P T.d a 1 w fun l w=>Q2 P T.h l w fun s w=>X3 P .len [T.h] T.e [false] [s] w fun r w=>Q3 P .gtr T.e (.tmp 14) (.const (.int .i64 32)) r (.int .i64 32) w fun d w=>Q0 d false w (fieldAddr P T.d a 6) fun y w=>Q0 d false w (Q2 P T.s y) fun z w=>Q0 d false w (X3 P .len [T.s] T.e [false] [z]) fun B w=>Q0 d false w (Q3 P .gtr T.e (.tmp 19) (.const (.int .i64 32)) B (.int .i64 32)) fun u w=>pick P d (.bool true) u w fun e w=>Q0 e false w (fieldAddr P T.d a 5) fun p w=>Q0 e false w (Q2 P T.q p) fun J w=>Q0 e false w (X3 P .len [T.q] T.e [false] [J]) fun U w=>Q0 e false w (Q3 P .gtr T.e (.tmp 25) (.const (.int .i64 200)) U (.int .i64 200)) fun t w=>pick P e (.bool true) t w fun h w=>Q0 h false w (fieldAddr P T.d a 4) fun n w=>Q0 h false w (Q2 P T.e n) fun D w=>Q0 h false w (Q3 P .gtr T.e (.tmp 30) (.const (.int .i64 64)) D (.int .i64 64)) fun m w=>pick P h (.bool true) m w fun V w=>X1 V (K (.bool true) w) (Q3 P .add T.e (.tmp 8) (.const (.int .i64 1)) i (.int .i64 1) w fun L w=>g L w)) (fieldAddr P T.b b 2 w fun E w=>Q2 P T.h E w fun v w=>X3 P .len [T.h] T.e [false] [v] w fun R w=>Q3 P .gtr T.e (.tmp 36) (.const (.int .i64 32)) R (.int .i64 32) w fun f w=>Q0 f false w (fieldAddr P T.b b 6) fun O w=>Q0 f false w (Q2 P T.k O) fun H w=>Q0 f false w (X3 P .len [T.k] T.e [false] [H]) fun o w=>Q0 f false w (Q3 P .gtr T.e (.tmp 41) (.const (.int .i64 32)) o (.int .i64 32)) fun j w=>pick P f (.bool true) j w fun c w=>Q0 c false w (fieldAddr P T.b b 7) fun Q w=>Q0 c false w (Q2 P T.j Q) fun k w=>Q0 c false w (X3 P .len [T.j] T.e [false] [k]) fun C w=>Q0 c false w (Q3 P .gtr T.e (.tmp 47) (.const (.int .i64 32)) C (.int .i64 32)) fun A w=>pick P c (.bool true) A w fun N w=>K N w)
theorem Q5j {a:Value} {w:World} {K:Value→World→Prop} (h:Q0w a w K):Q1 P F.cE [a] w K:=Q9 Q5F Tryz.func77 rfl (by decide) (by kernel_rfl) h
def Xi:V8:=[none,none,none,some ([8],[4,5,8,9,10,11,12,13,14,15,16,17,18]),none,none,none,none,none,none,none]
def C9 (g i:Value) (w:World) (K:Value→World→Prop):Prop:= X3 P .len [T.j] T.e [false] [g] w fun h w=>lp (α:=Value) (.int .i64 0) w fun a b k w=>Q3 P .lss T.e (.tmp 8) (.tmp 7) b h w fun j w=>X1 j (indexAddr P T.j g b w fun e w=>Q2 P T.d e w fun f w=>Z3 P i [f] w fun d w=>X1 d (K b w) (Q3 P .add T.e (.tmp 8) (.const (.int .i64 1)) b (.int .i64 1) w fun c w=>a c w)) (K (.int .i64 (-1)) w)
theorem Xs {a b:Value} {w:World} {K:Value→World→Prop} (h:C9 a b w K):Q1 P F.g [a,b] w K:=Q9 Xi Tryz.func142 rfl (by decide) (by kernel_rfl) h
def R8 (c d:Value) (w:World) (K:Value→World→Prop):Prop:= Q1 P F.g [c,d] w fun a w=>Q3 P .geq T.e (.tmp 7) (.const (.int .i64 0)) a (.int .i64 0) w fun b w=>K b w
theorem Qd {a b:Value} {w:World} {K:Value→World→Prop} (h:R8 a b w K):Q1 P F.a [a,b] w K:=Q9 (List.replicate 2 none) Tryz.func93 rfl (by decide) (by kernel_rfl) h
def Lq:V8:=[none,none,none,some ([8],[4,5,8,9,10,11,12,13,14,15,16,17,18]),none,none,none,none,none,none,none]
def Qh (g i:Value) (w:World) (K:Value→World→Prop):Prop:= X3 P .len [T.h] T.e [false] [g] w fun h w=>lp (α:=Value) (.int .i64 0) w fun a b k w=>Q3 P .lss T.e (.tmp 8) (.tmp 7) b h w fun j w=>X1 j (indexAddr P T.h g b w fun e w=>Q2 P T.c e w fun f w=>Q3 P .eql T.c (.tmp 11) (.tmp 15) i f w fun d w=>X1 d (K b w) (Q3 P .add T.e (.tmp 8) (.const (.int .i64 1)) b (.int .i64 1) w fun c w=>a c w)) (K (.int .i64 (-1)) w)
theorem Nc {a b:Value} {w:World} {K:Value→World→Prop} (h:Qh a b w K):Q1 P F.ap [a,b] w K:=Q9 Lq Tryz.func161 rfl (by decide) (by kernel_rfl) h
def T0 (c d:Value) (w:World) (K:Value→World→Prop):Prop:= Q1 P F.ap [c,d] w fun a w=>Q3 P .geq T.e (.tmp 7) (.const (.int .i64 0)) a (.int .i64 0) w fun b w=>K b w
theorem Vs {a b:Value} {w:World} {K:Value→World→Prop} (h:T0 a b w K):Q1 P F.af [a,b] w K:=Q9 (List.replicate 2 none) Tryz.func120 rfl (by decide) (by kernel_rfl) h
def Cv (c:Value) (w:World) (K:Value→World→Prop):Prop:= box P T.d c w fun a w=>fieldAddr P T.d a 3 w fun b w=>Q2 P T.u b w fun d w=>K d w
theorem Q3c {a:Value} {w:World} {K:Value→World→Prop} (h:Cv a w K):Q1 P F.cl [a] w K:=Q9 (List.replicate 2 none) Tryz.func121 rfl (by decide) (by kernel_rfl) h
def Cn (b:Value) (w:World) (K:Value→World→Prop):Prop:= box P T.d b w fun a w=>fieldAddr P T.d a 3 w fun c w=>Q2 P T.u c w fun d w=>J7 P .not d w fun e w=>K e w
theorem Q2V {a:Value} {w:World} {K:Value→World→Prop} (h:Cn a w K):Q1 P F.cm [a] w K:=Q9 (List.replicate 2 none) Tryz.func122 rfl (by decide) (by kernel_rfl) h
def Vc:V8:=[none,none,none,some ([8],[4,5,8,9,10,11,12,13,14,15,16,17,18]),none,none,none,none,none,none,none]
def P4 (g i:Value) (w:World) (K:Value→World→Prop):Prop:= X3 P .len [T.h] T.e [false] [g] w fun h w=>lp (α:=Value) (.int .i64 0) w fun a b k w=>Q3 P .lss T.e (.tmp 8) (.tmp 7) b h w fun j w=>X1 j (indexAddr P T.h g b w fun e w=>Q2 P T.c e w fun f w=>Z3 P i [f] w fun d w=>X1 d (K b w) (Q3 P .add T.e (.tmp 8) (.const (.int .i64 1)) b (.int .i64 1) w fun c w=>a c w)) (K (.int .i64 (-1)) w)
theorem Vb {a b:Value} {w:World} {K:Value→World→Prop} (h:P4 a b w K):Q1 P F.w [a,b] w K:=Q9 Vc Tryz.func138 rfl (by decide) (by kernel_rfl) h
def I3 (c d:Value) (w:World) (K:Value→World→Prop):Prop:= Q1 P F.w [c,d] w fun a w=>Q3 P .geq T.e (.tmp 7) (.const (.int .i64 0)) a (.int .i64 0) w fun b w=>K b w
theorem Ja {a b:Value} {w:World} {K:Value→World→Prop} (h:I3 a b w K):Q1 P F.c [a,b] w K:=Q9 (List.replicate 2 none) Tryz.func86 rfl (by decide) (by kernel_rfl) h
def Vi (b c:Value) (w:World) (K:Value→World→Prop):Prop:= Q2 P T.a4 c w fun d w=>Z3 P d [b] w fun e w=>J7 P .not e w fun a w=>K a w
theorem Bd {a b:Value} {w:World} {K:Value→World→Prop} (h:Vi a b w K):Q1 P F.ch [a,b] w K:=Q9 (List.replicate 2 none) Tryz.func162 rfl (by decide) (by kernel_rfl) h
def Lp (d e:Value) (w:World) (K:Value→World→Prop):Prop:= box P T.a4 e w fun a w=>E8 P (.func F.ch) [] [a] w fun f w=>Q1 P F.c [d,f] w fun b w=>J7 P .not b w fun c w=>K c w
theorem Km {a b:Value} {w:World} {K:Value→World→Prop} (h:Lp a b w K):Q1 P F.aa [a,b] w K:=Q9 (List.replicate 2 none) Tryz.func123 rfl (by decide) (by kernel_rfl) h
def Q80:V8:=[none,none,none,some ([],[4,6,9,10,11,12,13,14,15]),none,none,none,none,none,none]
def Q2U (h i:Value) (w:World) (K:Value→World→Prop):Prop:= rng P T.c h w fun g w=>lp (α:=Unit) () w fun a j k w=>W3 P g true T.x w fun f w=>ext P f 0 w fun b w=>X1 b (ext P f 2 w fun d w=>Z3 P i [d] w fun c w=>J7 P .not c w fun e w=>X1 e (K (.bool false) w) (a () w)) (K (.bool true) w)
theorem Q7J {a b:Value} {w:World} {K:Value→World→Prop} (h:Q2U a b w K):Q1 P F.cB [a,b] w K:=Q9 Q80 Tryz.func191 rfl (by decide) (by kernel_rfl) h
def Q0C (b:Value) (w:World) (K:Value→World→Prop):Prop:= Q3 P .geq T.an (.tmp 3) (.const (.int .i32 65)) b (.int .i32 65) w fun a w=>Q0 a true w (fun w J=>J b w) fun e w=>Q0 a true w (Q3 P .leq T.an (.tmp 6) (.const (.int .i32 90)) e (.int .i32 90)) fun c w=>pick P a c (.bool false) w fun d w=>K d w
theorem Q5s {a:Value} {w:World} {K:Value→World→Prop} (h:Q0C a w K):Q1 P F.ci [a] w K:=Q9 (List.replicate 2 none) Tryz.func164 rfl (by decide) (by kernel_rfl) h
def Q06 (b:Value) (w:World) (K:Value→World→Prop):Prop:= Q3 P .geq T.an (.tmp 3) (.const (.int .i32 97)) b (.int .i32 97) w fun a w=>Q0 a true w (fun w J=>J b w) fun e w=>Q0 a true w (Q3 P .leq T.an (.tmp 6) (.const (.int .i32 122)) e (.int .i32 122)) fun c w=>pick P a c (.bool false) w fun d w=>K d w
theorem Q5B {a:Value} {w:World} {K:Value→World→Prop} (h:Q06 a w K):Q1 P F.cj [a] w K:=Q9 (List.replicate 2 none) Tryz.func193 rfl (by decide) (by kernel_rfl) h
def Py (c:Value) (w:World) (K:Value→World→Prop):Prop:= Q1 P F.ci [c] w fun e w=>Q0 e false w (fun w J=>J c w) fun l w=>Q0 e false w (Q1 P F.cj [l]) fun k w=>pick P e (.bool true) k w fun b w=>Q0 b false w (fun w J=>J c w) fun d w=>Q0 b false w (Q3 P .geq T.an (.tmp 10) (.const (.int .i32 48)) d (.int .i32 48)) fun h w=>Q0 b false w (fun w J=>J h w) fun a w=>Q0 a true w (fun w J=>J c w) fun j w=>Q0 a true w (Q3 P .leq T.an (.tmp 13) (.const (.int .i32 57)) j (.int .i32 57)) fun g w=>Q0 b false w (pick P a g (.bool false)) fun i w=>pick P b (.bool true) i w fun f w=>K f w
theorem Q4y {a:Value} {w:World} {K:Value→World→Prop} (h:Py a w K):Q1 P F.ca [a] w K:=Q9 (List.replicate 2 none) Tryz.func192 rfl (by decide) (by kernel_rfl) h
def Q1X (c:Value) (w:World) (K:Value→World→Prop):Prop:= Q3 P .eql T.c (.tmp 3) (.const (.string ⟨#[]⟩)) c (.string ⟨#[]⟩) w fun d w=>Q0 d false w (fun w J=>J c w) fun p w=>Q0 d false w (X3 P .len [T.c] T.e [false] [p]) fun n w=>Q0 d false w (Q3 P .gtr T.e (.tmp 7) (.const (.int .i64 32)) n (.int .i64 32)) fun o w=>pick P d (.bool true) o w fun b w=>Q0 b false w (fun w J=>J c w) fun f w=>Q0 b false w (S6 P T.c f (.int .i64 0)) fun e w=>Q0 b false w (Q3 P .geq T.a3 (.tmp 12) (.const (.int .u8 48)) e (.int .u8 48)) fun i w=>Q0 b false w (fun w J=>J i w) fun a w=>Q0 a true w (fun w J=>J c w) fun g w=>Q0 a true w (S6 P T.c g (.int .i64 0)) fun l w=>Q0 a true w (Q3 P .leq T.a3 (.tmp 16) (.const (.int .u8 57)) l (.int .u8 57)) fun j w=>Q0 b false w (pick P a j (.bool false)) fun k w=>pick P b (.bool true) k w fun m w=>X1 m (K (.bool false) w) (Q1 P F.cB [c,(.func (.func F.ca) #[] #[])] w fun h w=>K h w)
theorem Q69 {a:Value} {w:World} {K:Value→World→Prop} (h:Q1X a w K):Q1 P F.c4 [a] w K:=Q9 (List.replicate 5 none) Tryz.func163 rfl (by decide) (by kernel_rfl) h
def Q0R (c:Value) (w:World) (K:Value→World→Prop):Prop:= Q1 P F.c4 [c] w fun a w=>Q0 a true w (fun w J=>J c w) fun f w=>Q0 a true w (S6 P T.c f (.int .i64 0)) fun d w=>Q0 a true w (conv P T.a3 T.an d) fun e w=>Q0 a true w (Q1 P F.ci [e]) fun g w=>pick P a g (.bool false) w fun b w=>K b w
theorem Q57 {a:Value} {w:World} {K:Value→World→Prop} (h:Q0R a w K):Q1 P F.ai [a] w K:=Q9 (List.replicate 2 none) Tryz.func124 rfl (by decide) (by kernel_rfl) h
def Wx (o l n:Value) (w:World) (K:Value→World→Prop):Prop:= dr w fun a b=>Q6 a (fun c=> ∀w,b w→Q2 P T.ac l w (dk a c w)) fun c=>Q6 a (fun e=> ∀d w,b w→c d w→Z3 P d [o] w (dk a e w)) fun e=>Q6 a (fun g=> ∀w,b w→Q2 P T.ac l w (dk a g w)) fun g=>Q6 a (fun i=> ∀w,b w→Q2 P T.c n w (dk a i w)) fun i=>∀d j k m w,b w→c d w→e j w→g k w→i m w→ Z3 P k [m] w fun f w=>Q3 P .eql T.c (.tmp 7) (.tmp 10) j f w fun h w=>K h w
theorem Fj {b c a:Value} {w:World} {K:Value→World→Prop} (h:Wx b c a w K):Q1 P F.cr [b,c,a] w K:=Q9 (List.replicate 2 none) Tryz.func165 rfl (by decide) (by kernel_rfl) h
def Ac:V8:=[none,none,none,some ([9],[4,5,6,9,10,11,12,13,14,15,16,17,18,19]),none,none,none,none,none,none,none]
def Db (g n:Value) (w:World) (K:Value→World→Prop):Prop:= box P T.ac n w fun a w=>X3 P .len [T.h] T.e [false] [g] w fun m w=>lp (α:=Value) (.int .i64 0) w fun c d o w=>Q3 P .lss T.e (.tmp 9) (.tmp 8) d m w fun h w=>X1 h (indexAddr P T.h g d w fun l w=>Q2 P T.c l w fun i w=>W0 P T.c w fun b w=>Y0 P T.c b i w fun _u w=>R2 P T.h g none (some d) none w fun j w=>E8 P (.func F.cr) [] [a,b] w fun e w=>Q1 P F.c [j,e] w fun f w=>X1 f (K (.bool false) w) (Q3 P .add T.e (.tmp 9) (.const (.int .i64 1)) d (.int .i64 1) w fun k w=>c k w)) (K (.bool true) w)
theorem An {a b:Value} {w:World} {K:Value→World→Prop} (h:Db a b w K):Q1 P F.aR [a,b] w K:=Q9 Ac Tryz.func125 rfl (by decide) (by kernel_rfl) h
def Q30 (a:Value) (w:World) (K:Value→World→Prop):Prop:= K a w
theorem Q39 {a:Value} {w:World} {K:Value→World→Prop} (h:Q30 a w K):Q1 P F.cn [a] w K:=Q9 (List.replicate 2 none) Tryz.func126 rfl (by decide) (by kernel_rfl) h
def Yo:V8:=[none,none,none,some ([8],[4,5,8,9,10,11,12,13,14,15,16,17,18]),none,none,none,none,none,none,none]
def F6 (g i:Value) (w:World) (K:Value→World→Prop):Prop:= X3 P .len [T.k] T.e [false] [g] w fun h w=>lp (α:=Value) (.int .i64 0) w fun a b k w=>Q3 P .lss T.e (.tmp 8) (.tmp 7) b h w fun j w=>X1 j (indexAddr P T.k g b w fun e w=>Q2 P T.n e w fun f w=>Z3 P i [f] w fun d w=>X1 d (K b w) (Q3 P .add T.e (.tmp 8) (.const (.int .i64 1)) b (.int .i64 1) w fun c w=>a c w)) (K (.int .i64 (-1)) w)
theorem Yq {a b:Value} {w:World} {K:Value→World→Prop} (h:F6 a b w K):Q1 P F.i [a,b] w K:=Q9 Yo Tryz.func140 rfl (by decide) (by kernel_rfl) h
def C4 (c d:Value) (w:World) (K:Value→World→Prop):Prop:= Q1 P F.i [c,d] w fun a w=>Q3 P .geq T.e (.tmp 7) (.const (.int .i64 0)) a (.int .i64 0) w fun b w=>K b w
theorem Qw {a b:Value} {w:World} {K:Value→World→Prop} (h:C4 a b w K):Q1 P F.f [a,b] w K:=Q9 (List.replicate 2 none) Tryz.func166 rfl (by decide) (by kernel_rfl) h
def Ue (r n q:Value) (w:World) (K:Value→World→Prop):Prop:= box P T.n r w fun b w=>dr w fun a c=>Q6 a (fun e=> ∀w,c w→Q2 P T.aa n w (dk a e w)) fun e=>Q6 a (fun d=> ∀w,c w→Q2 P T.n b w (dk a d w)) fun d=>Q6 a (fun k=> ∀f g w,c w→e f w→d g w→Z3 P f [g] w (dk a k w)) fun k=>Q6 a (fun h=> ∀w,c w→Q2 P T.aa n w (dk a h w)) fun h=>Q6 a (fun j=> ∀w,c w→Q2 P T.n q w (dk a j w)) fun j=>∀f g m p o w,c w→e f w→d g w→k m w→h p w→j o w→ Z3 P p [o] w fun l w=>Q3 P .eql T.c (.tmp 7) (.tmp 10) m l w fun i w=>K i w
theorem Ry {b c a:Value} {w:World} {K:Value→World→Prop} (h:Ue b c a w K):Q1 P F.c9 [b,c,a] w K:=Q9 (List.replicate 2 none) Tryz.func167 rfl (by decide) (by kernel_rfl) h
def Bg:V8:=[none,none,none,some ([9],[4,5,6,9,10,11,12,13,14,15,16,17,18,19]),none,none,none,none,none,none,none]
def Vo (g n:Value) (w:World) (K:Value→World→Prop):Prop:= box P T.aa n w fun a w=>X3 P .len [T.k] T.e [false] [g] w fun m w=>lp (α:=Value) (.int .i64 0) w fun c d o w=>Q3 P .lss T.e (.tmp 9) (.tmp 8) d m w fun h w=>X1 h (indexAddr P T.k g d w fun l w=>Q2 P T.n l w fun i w=>W0 P T.n w fun b w=>Y0 P T.n b i w fun _u w=>R2 P T.k g none (some d) none w fun j w=>E8 P (.func F.c9) [] [a,b] w fun e w=>Q1 P F.f [j,e] w fun f w=>X1 f (K (.bool false) w) (Q3 P .add T.e (.tmp 9) (.const (.int .i64 1)) d (.int .i64 1) w fun k w=>c k w)) (K (.bool true) w)
theorem Bt {a b:Value} {w:World} {K:Value→World→Prop} (h:Vo a b w K):Q1 P F.aB [a,b] w K:=Q9 Bg Tryz.func127 rfl (by decide) (by kernel_rfl) h
def Cx (c:Value) (w:World) (K:Value→World→Prop):Prop:= box P T.n c w fun a w=>fieldAddr P T.n a 0 w fun b w=>Q2 P T.c b w fun d w=>K d w
theorem Q3i {a:Value} {w:World} {K:Value→World→Prop} (h:Cx a w K):Q1 P F.co [a] w K:=Q9 (List.replicate 2 none) Tryz.func128 rfl (by decide) (by kernel_rfl) h
def Zs (r n q:Value) (w:World) (K:Value→World→Prop):Prop:= box P T.d r w fun b w=>dr w fun a c=>Q6 a (fun e=> ∀w,c w→Q2 P T.a9 n w (dk a e w)) fun e=>Q6 a (fun d=> ∀w,c w→Q2 P T.d b w (dk a d w)) fun d=>Q6 a (fun k=> ∀f g w,c w→e f w→d g w→Z3 P f [g] w (dk a k w)) fun k=>Q6 a (fun h=> ∀w,c w→Q2 P T.a9 n w (dk a h w)) fun h=>Q6 a (fun j=> ∀w,c w→Q2 P T.d q w (dk a j w)) fun j=>∀f g m p o w,c w→e f w→d g w→k m w→h p w→j o w→ Z3 P p [o] w fun l w=>Q3 P .eql T.c (.tmp 7) (.tmp 10) m l w fun i w=>K i w
theorem Hs {b c a:Value} {w:World} {K:Value→World→Prop} (h:Zs b c a w K):Q1 P F.bV [b,c,a] w K:=Q9 (List.replicate 2 none) Tryz.func168 rfl (by decide) (by kernel_rfl) h
def Cg:V8:=[none,none,none,some ([9],[4,5,6,9,10,11,12,13,14,15,16,17,18,19]),none,none,none,none,none,none,none]
def Uu (g n:Value) (w:World) (K:Value→World→Prop):Prop:= box P T.a9 n w fun a w=>X3 P .len [T.j] T.e [false] [g] w fun m w=>lp (α:=Value) (.int .i64 0) w fun c d o w=>Q3 P .lss T.e (.tmp 9) (.tmp 8) d m w fun h w=>X1 h (indexAddr P T.j g d w fun l w=>Q2 P T.d l w fun i w=>W0 P T.d w fun b w=>Y0 P T.d b i w fun _u w=>R2 P T.j g none (some d) none w fun j w=>E8 P (.func F.bV) [] [a,b] w fun e w=>Q1 P F.a [j,e] w fun f w=>X1 f (K (.bool false) w) (Q3 P .add T.e (.tmp 9) (.const (.int .i64 1)) d (.int .i64 1) w fun k w=>c k w)) (K (.bool true) w)
theorem Cb {a b:Value} {w:World} {K:Value→World→Prop} (h:Uu a b w K):Q1 P F.an [a,b] w K:=Q9 Cg Tryz.func129 rfl (by decide) (by kernel_rfl) h
def Cw (c:Value) (w:World) (K:Value→World→Prop):Prop:= box P T.d c w fun a w=>fieldAddr P T.d a 0 w fun b w=>Q2 P T.c b w fun d w=>K d w
theorem Q3f {a:Value} {w:World} {K:Value→World→Prop} (h:Cw a w K):Q1 P F.cp [a] w K:=Q9 (List.replicate 2 none) Tryz.func130 rfl (by decide) (by kernel_rfl) h
def Zu (c d:Value) (w:World) (K:Value→World→Prop):Prop:= box P T.n c w fun a w=>Q2 P T.ag d w fun e w=>Q2 P T.n a w fun f w=>Z3 P e [f] w fun g w=>J7 P .not g w fun b w=>K b w
theorem Hx {a b:Value} {w:World} {K:Value→World→Prop} (h:Zu a b w K):Q1 P F.bW [a,b] w K:=Q9 (List.replicate 2 none) Tryz.func169 rfl (by decide) (by kernel_rfl) h
def Ur (d e:Value) (w:World) (K:Value→World→Prop):Prop:= box P T.ag e w fun a w=>E8 P (.func F.bW) [] [a] w fun f w=>Q1 P F.f [d,f] w fun b w=>J7 P .not b w fun c w=>K c w
theorem Ch {a b:Value} {w:World} {K:Value→World→Prop} (h:Ur a b w K):Q1 P F.ao [a,b] w K:=Q9 (List.replicate 2 none) Tryz.func131 rfl (by decide) (by kernel_rfl) h
def Q0G (b:Value) (w:World) (K:Value→World→Prop):Prop:= Q3 P .eql T.c (.tmp 3) (.const (.string ⟨#[105,110,116]⟩)) b (.string ⟨#[105,110,116]⟩) w fun d w=>Q0 d false w (fun w J=>J b w) fun h w=>Q0 d false w (Q3 P .eql T.c (.tmp 6) (.const (.string ⟨#[98,111,111,108]⟩)) h (.string ⟨#[98,111,111,108]⟩)) fun g w=>pick P d (.bool true) g w fun a w=>Q0 a false w (fun w J=>J b w) fun c w=>Q0 a false w (Q3 P .eql T.c (.tmp 10) (.const (.string ⟨#[116,101,120,116]⟩)) c (.string ⟨#[116,101,120,116]⟩)) fun e w=>pick P a (.bool true) e w fun f w=>K f w
theorem Q55 {a:Value} {w:World} {K:Value→World→Prop} (h:Q0G a w K):Q1 P F.aL [a] w K:=Q9 (List.replicate 2 none) Tryz.func109 rfl (by decide) (by kernel_rfl) h
def Uw (d f:Value) (w:World) (K:Value→World→Prop):Prop:= X3 P .len [T.c] T.e [false] [d] w fun o w=>X3 P .len [T.c] T.e [false] [f] w fun n w=>Q3 P .geq T.e (.tmp 6) (.tmp 8) o n w fun a w=>Q0 a true w (fun w J=>J d w) fun j w=>Q0 a true w (fun w J=>J d w) fun k w=>Q0 a true w (X3 P .len [T.c] T.e [false] [k]) fun m w=>Q0 a true w (fun w J=>J f w) fun i w=>Q0 a true w (X3 P .len [T.c] T.e [false] [i]) fun l w=>Q0 a true w (Q3 P .sub T.e (.tmp 13) (.tmp 15) m l) fun g w=>Q0 a true w (R2 P T.c j (some g) none none) fun c w=>Q0 a true w (fun w J=>J f w) fun e w=>Q0 a true w (Q3 P .eql T.c (.tmp 17) (.tmp 18) c e) fun h w=>pick P a h (.bool false) w fun b w=>K b w
theorem Ce {a b:Value} {w:World} {K:Value→World→Prop} (h:Uw a b w K):Q1 P F.ab [a,b] w K:=Q9 (List.replicate 2 none) Tryz.func202 rfl (by decide) (by kernel_rfl) h
def Oj (b c:Value) (w:World) (K:Value→World→Prop):Prop:= Q1 P F.ab [b,c] w fun a w=>K a w
theorem Ak {a b:Value} {w:World} {K:Value→World→Prop} (h:Oj a b w K):Q1 P F.bK [a,b] w K:=Q9 (List.replicate 2 none) Tryz.func185 rfl (by decide) (by kernel_rfl) h
def Jr (a f:Value) (w:World) (K:Value→World→Prop):Prop:= Q1 P F.ab [a,f] w fun g w=>X1 g (X3 P .len [T.c] T.e [false] [a] w fun b w=>X3 P .len [T.c] T.e [false] [f] w fun c w=>Q3 P .sub T.e (.tmp 10) (.tmp 12) b c w fun e w=>R2 P T.c a none (some e) none w fun d w=>K d w) (K a w)
theorem Rd {a b:Value} {w:World} {K:Value→World→Prop} (h:Jr a b w K):Q1 P F.cb [a,b] w K:=Q9 (List.replicate 5 none) Tryz.func204 rfl (by decide) (by kernel_rfl) h
def Mv (b c:Value) (w:World) (K:Value→World→Prop):Prop:= Q1 P F.cb [b,c] w fun a w=>K a w
theorem Gs {a b:Value} {w:World} {K:Value→World→Prop} (h:Mv a b w K):Q1 P F.bt [a,b] w K:=Q9 (List.replicate 2 none) Tryz.func186 rfl (by decide) (by kernel_rfl) h
def Q6K:V8:=[none,none,none,some ([0,4],[0,4,5,6,7,8,9,10]),none,none,none]
def Q2a (e:Value) (w:World) (K:Value→World→Prop):Prop:= lp (α:=Value×Value) (e,(.int .i64 0)) w fun a b g w=>Q1 P F.bK [b.1,(.string ⟨#[91,93]⟩)] w fun f w=>X1 f (Q1 P F.bt [b.1,(.string ⟨#[91,93]⟩)] w fun d w=>Q3 P .add T.e (.tmp 9) (.const (.int .i64 1)) b.2 (.int .i64 1) w fun c w=>a (d,c) w) (K (.tuple #[b.1,b.2]) w)
theorem Q6d {a:Value} {w:World} {K:Value→World→Prop} (h:Q2a a w K):Q1 P F.cv [a] w K:=Q9 Q6K Tryz.func155 rfl (by decide) (by kernel_rfl) h
def Q0u (k:Value) (w:World) (K:Value→World→Prop):Prop:= Q1 P F.cv [k] w fun i w=>ext P i 0 w fun j w=>ext P i 1 w fun l w=>Q3 P .leq T.e (.tmp 10) (.const (.int .i64 3)) l (.int .i64 3) w fun a w=>Q0 a true w (fun w J=>J j w) fun h w=>Q0 a true w (Q1 P F.aL [h]) fun g w=>Q0 a true w (fun w J=>J g w) fun b w=>Q0 b false w (fun w J=>J j w) fun e w=>Q0 b false w (Q1 P F.ai [e]) fun c w=>Q0 a true w (pick P b (.bool true) c) fun d w=>pick P a d (.bool false) w fun f w=>K f w
theorem Q5G {a:Value} {w:World} {K:Value→World→Prop} (h:Q0u a w K):Q1 P F.a0 [a] w K:=Q9 (List.replicate 3 none) Tryz.func114 rfl (by decide) (by kernel_rfl) h
def Fl (b:Value) (w:World) (K:Value→World→Prop):Prop:= Q1 P F.c4 [b] w fun a w=>Q0 a true w (fun w J=>J b w) fun e w=>Q0 a true w (Q1 P F.ai [e]) fun c w=>Q0 a true w (J7 P .not c) fun d w=>pick P a d (.bool false) w fun f w=>K f w
theorem Q3G {a:Value} {w:World} {K:Value→World→Prop} (h:Fl a w K):Q1 P F.bS [a] w K:=Q9 (List.replicate 2 none) Tryz.func133 rfl (by decide) (by kernel_rfl) h
def Cu (f:Value) (w:World) (K:Value→World→Prop):Prop:= box P T.n f w fun a w=>fieldAddr P T.n a 0 w fun g w=>Q2 P T.c g w fun h w=>Q1 P F.bS [h] w fun b w=>Q0 b true w (fieldAddr P T.n a 1) fun d w=>Q0 b true w (Q2 P T.c d) fun e w=>Q0 b true w (Q1 P F.a0 [e]) fun i w=>pick P b i (.bool false) w fun c w=>K c w
theorem Q2D {a:Value} {w:World} {K:Value→World→Prop} (h:Cu a w K):Q1 P F.bx [a] w K:=Q9 (List.replicate 2 none) Tryz.func132 rfl (by decide) (by kernel_rfl) h
def Yz (c d:Value) (w:World) (K:Value→World→Prop):Prop:= box P T.d c w fun a w=>Q2 P T.ae d w fun e w=>Q2 P T.d a w fun f w=>Z3 P e [f] w fun g w=>J7 P .not g w fun b w=>K b w
theorem Ew {a b:Value} {w:World} {K:Value→World→Prop} (h:Yz a b w K):Q1 P F.bT [a,b] w K:=Q9 (List.replicate 2 none) Tryz.func170 rfl (by decide) (by kernel_rfl) h
def Ud (d e:Value) (w:World) (K:Value→World→Prop):Prop:= box P T.ae e w fun a w=>E8 P (.func F.bT) [] [a] w fun f w=>Q1 P F.a [d,f] w fun b w=>J7 P .not b w fun c w=>K c w
theorem Rz {a b:Value} {w:World} {K:Value→World→Prop} (h:Ud a b w K):Q1 P F.al [a,b] w K:=Q9 (List.replicate 2 none) Tryz.func134 rfl (by decide) (by kernel_rfl) h
def Rs (B A:Value) (w:World) (K:Value→World→Prop):Prop:= box P T.t B w fun a w=>fieldAddr P T.t a 0 w fun E w=>Q2 P T.e E w fun H w=>Q3 P .geq T.e (.tmp 5) (.const (.int .i64 0)) H (.int .i64 0) w fun f w=>Q0 f true w (fieldAddr P T.t a 1) fun D w=>Q0 f true w (Q2 P T.e D) fun C w=>Q0 f true w (fieldAddr P T.t a 0) fun v w=>Q0 f true w (Q2 P T.e v) fun j w=>Q0 f true w (Q3 P .gtr T.e (.tmp 9) (.tmp 11) C j) fun g w=>pick P f g (.bool false) w fun b w=>Q0 b true w (fieldAddr P T.t a 1) fun k w=>Q0 b true w (Q2 P T.e k) fun q w=>Q0 b true w (Q2 P T.e A) fun o w=>Q0 b true w (Q3 P .leq T.e (.tmp 16) (.tmp 17) q o) fun p w=>pick P b p (.bool false) w fun d w=>Q0 d true w (fieldAddr P T.t a 2) fun l w=>Q0 d true w (Q2 P T.e l) fun y w=>Q0 d true w (Q3 P .geq T.e (.tmp 22) (.const (.int .i64 0)) y (.int .i64 0)) fun i w=>pick P d i (.bool false) w fun c w=>Q0 c true w (fieldAddr P T.t a 2) fun n w=>Q0 c true w (Q2 P T.e n) fun t w=>Q0 c true w (Q2 P T.e A) fun r w=>Q0 c true w (Q3 P .lss T.e (.tmp 27) (.tmp 28) t r) fun h w=>pick P c h (.bool false) w fun e w=>Q0 e true w (fieldAddr P T.t a 3) fun z w=>Q0 e true w (Q2 P T.c z) fun u w=>Q0 e true w (Q1 P F.ai [u]) fun s w=>pick P e s (.bool false) w fun m w=>K m w
theorem Q2v {a b:Value} {w:World} {K:Value→World→Prop} (h:Rs a b w K):Q1 P F.bh [a,b] w K:=Q9 (List.replicate 2 none) Tryz.func171 rfl (by decide) (by kernel_rfl) h
def Yb:V8:=[none,none,none,some ([8],[4,5,8,9,10,11,12,13,14,15,16,17,18]),none,none,none,none,none,none,none]
def B8 (g i:Value) (w:World) (K:Value→World→Prop):Prop:= X3 P .len [T.q] T.e [false] [g] w fun h w=>lp (α:=Value) (.int .i64 0) w fun a b k w=>Q3 P .lss T.e (.tmp 8) (.tmp 7) b h w fun j w=>X1 j (indexAddr P T.q g b w fun e w=>Q2 P T.v e w fun f w=>Z3 P i [f] w fun d w=>X1 d (K b w) (Q3 P .add T.e (.tmp 8) (.const (.int .i64 1)) b (.int .i64 1) w fun c w=>a c w)) (K (.int .i64 (-1)) w)
theorem Yk {a b:Value} {w:World} {K:Value→World→Prop} (h:B8 a b w K):Q1 P F.a6 [a,b] w K:=Q9 Yb Tryz.func208 rfl (by decide) (by kernel_rfl) h
def C5 (c d:Value) (w:World) (K:Value→World→Prop):Prop:= Q1 P F.a6 [c,d] w fun a w=>Q3 P .geq T.e (.tmp 7) (.const (.int .i64 0)) a (.int .i64 0) w fun b w=>K b w
theorem Qz {a b:Value} {w:World} {K:Value→World→Prop} (h:C5 a b w K):Q1 P F.l [a,b] w K:=Q9 (List.replicate 2 none) Tryz.func194 rfl (by decide) (by kernel_rfl) h
def Zt (c d:Value) (w:World) (K:Value→World→Prop):Prop:= box P T.v c w fun a w=>Q2 P T.ai d w fun e w=>Q2 P T.v a w fun f w=>Z3 P e [f] w fun g w=>J7 P .not g w fun b w=>K b w
theorem Hr {a b:Value} {w:World} {K:Value→World→Prop} (h:Zt a b w K):Q1 P F.bX [a,b] w K:=Q9 (List.replicate 2 none) Tryz.func195 rfl (by decide) (by kernel_rfl) h
def Ux (d e:Value) (w:World) (K:Value→World→Prop):Prop:= box P T.ai e w fun a w=>E8 P (.func F.bX) [] [a] w fun f w=>Q1 P F.l [d,f] w fun b w=>J7 P .not b w fun c w=>K c w
theorem Cd {a b:Value} {w:World} {K:Value→World→Prop} (h:Ux a b w K):Q1 P F.aq [a,b] w K:=Q9 (List.replicate 2 none) Tryz.func172 rfl (by decide) (by kernel_rfl) h
def Jn:V8:=[none,none,none,some ([8],[4,5,8,9,10,11,12,13,14,15,16,17,18]),none,none,none,none,none,none,none]
def K0 (g i:Value) (w:World) (K:Value→World→Prop):Prop:= X3 P .len [T.aq] T.e [false] [g] w fun h w=>lp (α:=Value) (.int .i64 0) w fun a b k w=>Q3 P .lss T.e (.tmp 8) (.tmp 7) b h w fun j w=>X1 j (indexAddr P T.aq g b w fun e w=>Q2 P T.ad e w fun f w=>Z3 P i [f] w fun d w=>X1 d (K b w) (Q3 P .add T.e (.tmp 8) (.const (.int .i64 1)) b (.int .i64 1) w fun c w=>a c w)) (K (.int .i64 (-1)) w)
theorem Ju {a b:Value} {w:World} {K:Value→World→Prop} (h:K0 a b w K):Q1 P F.t [a,b] w K:=Q9 Jn Tryz.func221 rfl (by decide) (by kernel_rfl) h
def Pu (c d:Value) (w:World) (K:Value→World→Prop):Prop:= box P T.ad c w fun a w=>fieldAddr P T.ad a 0 w fun e w=>Q2 P T.c e w fun f w=>Q2 P T.c d w fun g w=>Q3 P .eql T.c (.tmp 5) (.tmp 6) f g w fun b w=>K b w
theorem Q4G {a b:Value} {w:World} {K:Value→World→Prop} (h:Pu a b w K):Q1 P F.cP [a,b] w K:=Q9 (List.replicate 2 none) Tryz.func222 rfl (by decide) (by kernel_rfl) h
def Q1Q (b:Value) (w:World) (K:Value→World→Prop):Prop:= box P T.c b w fun a w=>R2 P T.af (.pointer (some ⟨G.a,0,none⟩)) none none none w fun c w=>E8 P (.func F.cP) [] [a] w fun d w=>Q1 P F.t [c,d] w fun e w=>K e w
theorem Q6x {a:Value} {w:World} {K:Value→World→Prop} (h:Q1Q a w K):Q1 P F.cK [a] w K:=Q9 (List.replicate 2 none) Tryz.func209 rfl (by decide) (by kernel_rfl) h
def Q09 (p:Value) (w:World) (K:Value→World→Prop):Prop:= Q1 P F.cK [p] w fun o w=>Q3 P .lss T.e (.tmp 8) (.const (.int .i64 0)) o (.int .i64 0) w fun q w=>X1 q (K (.tuple #[(.bool false),(.bool false),(.bool false)]) w) (dr w fun a l=>Q6 a (fun i=> ∀w,l w→indexAddr P T.af (.pointer (some ⟨G.a,0,none⟩)) o w (dk a i w)) fun i=>Q6 a (fun h=> ∀d w,l w→i d w→fieldAddr P T.ad d 1 w (dk a h w)) fun h=>Q6 a (fun b=> ∀w,l w→indexAddr P T.af (.pointer (some ⟨G.a,0,none⟩)) o w (dk a b w)) fun b=>Q6 a (fun f=> ∀e w,l w→b e w→fieldAddr P T.ad e 2 w (dk a f w)) fun f=>Q6 a (fun j=> ∀c w,l w→h c w→Q2 P T.u c w (dk a j w)) fun j=>Q6 a (fun k=> ∀g w,l w→f g w→Q2 P T.u g w (dk a k w)) fun k=>∀d c e g m n w,l w→i d w→h c w→b e w→f g w→j m w→k n w→ K (.tuple #[m,n,(.bool true)]) w)
theorem Q63 {a:Value} {w:World} {K:Value→World→Prop} (h:Q09 a w K):Q1 P F.ck [a] w K:=Q9 (List.replicate 6 none) Tryz.func196 rfl (by decide) (by kernel_rfl) h
def Q1W (d:Value) (w:World) (K:Value→World→Prop):Prop:= Q1 P F.cv [d] w fun c w=>ext P c 0 w fun f w=>ext P c 1 w fun e w=>Q1 P F.a0 [d] w fun a w=>J7 P .not a w fun b w=>X1 b (K (.int .i64 0) w) (K e w)
theorem Q6j {a:Value} {w:World} {K:Value→World→Prop} (h:Q1W a w K):Q1 P F.cu [a] w K:=Q9 (List.replicate 6 none) Tryz.func115 rfl (by decide) (by kernel_rfl) h
def Uv (b c:Value) (w:World) (K:Value→World→Prop):Prop:= Q1 P F.bZ [b,c] w fun a w=>K a w
theorem Ci {a b:Value} {w:World} {K:Value→World→Prop} (h:Uv a b w K):Q1 P F.au [a,b] w K:=Q9 (List.replicate 2 none) Tryz.func227 rfl (by decide) (by kernel_rfl) h
def Tq:V8:=[none,none,none,none,none,none,none,none,none,none,none,none,none,none,none,none,none,some ([8,10],[4,8,10,11,12,13,57,58,59,60,61,62,63,64,65,66,67,68,69,70,71,72,73,74,75,76,77,78,79,80,81,82,83,84,85,86,87,88,89,90,91,92,93,94,95,96,97,98,99,100,101,102,103,104,105,106,107,108,109,110,111,112,113,114,115,116,117,118,119,120,121,122,123,124,125,126,127,128,129,130,131,132,133,134,135,136,137,138,139,140,141,142]),none,none,some ([8],[4,8,11,60,61,62,63,64,65,66,67,68,69,70,71,72,73,74,75,76,77]),none,none,none,none,none,none,none,none,none,none,none,none,none,none,none,none,none,none,none,none,none,none,none]
def Oa (h l:Value) (w:World) (K:Value→World→Prop):Prop:= X3 P .len [T.c] T.e [false] [l] w fun c w=>Q3 P .eql T.e (.tmp 17) (.const (.int .i64 0)) c (.int .i64 0) w fun m w=>Q0 m false w (fun w J=>J l w) fun ai w=>Q0 m false w (fun w J=>J h w) fun a7 w=>Q0 m false w (Q3 P .eql T.c (.tmp 20) (.tmp 21) ai a7) fun bf w=>pick P m (.bool true) bf w fun ad w=>X1 ad (K (.int .i64 0) w) (Q3 P .eql T.e (.tmp 25) (.const (.int .i64 1)) c (.int .i64 1) w fun ah w=>X1 ah (S6 P T.c l (.int .i64 0) w fun a4 w=>Q1 P F.au [h,a4] w fun am w=>K am w) (X3 P .len [T.c] T.e [false] [h] w fun ap w=>Q3 P .geq T.e (.tmp 32) (.tmp 34) c ap w fun ag w=>X1 ag (K (.int .i64 (-1)) w) (Q2 P T.e (.pointer (some ⟨G.c,0,none⟩)) w fun aj w=>Q3 P .leq T.e (.tmp 37) (.tmp 38) c aj w fun k w=>Q0 k true w (fun w J=>J h w) fun a5 w=>Q0 k true w (X3 P .len [T.c] T.e [false] [a5]) fun ab w=>Q0 k true w (Q3 P .leq T.e (.tmp 42) (.const (.int .i64 64)) ab (.int .i64 64)) fun a3 w=>pick P k a3 (.bool false) w fun az w=>X1 az (Q1 P F.cs [h,l] w fun al w=>K al w) (S6 P T.c l (.int .i64 0) w fun W w=>S6 P T.c l (.int .i64 1) w fun bd w=>X3 P .len [T.c] T.e [false] [h] w fun bb w=>Q3 P .sub T.e (.tmp 53) (.tmp 54) bb c w fun ae w=>Q3 P .add T.e (.tmp 55) (.const (.int .i64 1)) ae (.int .i64 1) w fun p w=>lp (α:=Value×Value) ((.int .i64 0),(.int .i64 0)) w fun i g d_ w=>Q3 P .lss T.e (.tmp 57) (.tmp 58) g.1 p w fun av w=>X1 av (jn (α:=Value) w (fun N w=>S6 P T.c h g.1 w fun ar w=>Q3 P .neq T.a3 (.tmp 62) (.tmp 63) ar W w fun a9 w=>X1 a9 (Q3 P .add T.e (.tmp 66) (.const (.int .i64 1)) g.1 (.int .i64 1) w fun a8 w=>R2 P T.c h (some a8) (some p) none w fun a2 w=>Q1 P F.au [a2,W] w fun D w=>Q3 P .lss T.e (.tmp 72) (.const (.int .i64 0)) D (.int .i64 0) w fun aq w=>X1 aq (K (.int .i64 (-1)) w) (Q3 P .add T.e (.tmp 75) (.const (.int .i64 1)) D (.int .i64 1) w fun ak w=>Q3 P .add T.e (.tmp 74) (.tmp 76) g.1 ak w fun bc w=>N bc w)) (N g.1 w)) fun j d_ w=>Q3 P .add T.e (.tmp 79) (.const (.int .i64 1)) j (.int .i64 1) w fun ay w=>S6 P T.c h ay w fun aa w=>Q3 P .eql T.a3 (.tmp 81) (.tmp 82) aa bd w fun b w=>Q0 b true w (fun w J=>J h w) fun aw w=>Q0 b true w (fun w J=>J j w) fun ba w=>Q0 b true w (fun w J=>J j w) fun ao w=>Q0 b true w (fun w J=>J c w) fun a6 w=>Q0 b true w (Q3 P .add T.e (.tmp 87) (.tmp 88) ao a6) fun an w=>Q0 b true w (R2 P T.c aw (some ba) (some an) none) fun be w=>Q0 b true w (fun w J=>J l w) fun ax w=>Q0 b true w (Q3 P .eql T.c (.tmp 90) (.tmp 91) be ax) fun af w=>pick P b af (.bool false) w fun ac w=>X1 ac (K j w) (Q3 P .add T.e (.tmp 95) (.const (.int .i64 1)) j (.int .i64 1) w fun d w=>Q3 P .add T.e (.tmp 97) (.const (.int .i64 1)) g.2 (.int .i64 1) w fun q w=>Q2 P T.e (.pointer (some ⟨G.c,0,none⟩)) w fun M w=>Q3 P .leq T.e (.tmp 99) (.tmp 100) c M w fun e w=>Q0 e true w (fun w J=>J q w) fun R w=>Q0 e true w (fun w J=>J d w) fun B w=>Q0 e true w (Q1 P F.cT [B]) fun H w=>Q0 e true w (Q3 P .gtr T.e (.tmp 103) (.tmp 105) R H) fun O w=>pick P e O (.bool false) w fun t w=>X1 t (R2 P T.c h (some d) none none w fun E w=>Q1 P F.cs [E,l] w fun o w=>Q3 P .geq T.e (.tmp 113) (.const (.int .i64 0)) o (.int .i64 0) w fun V w=>X1 V (Q3 P .add T.e (.tmp 115) (.tmp 116) o d w fun Y w=>K Y w) (K (.int .i64 (-1)) w)) (Q2 P T.e (.pointer (some ⟨G.c,0,none⟩)) w fun Z w=>Q3 P .gtr T.e (.tmp 118) (.tmp 119) c Z w fun a w=>Q0 a true w (fun w J=>J q w) fun r w=>Q0 a true w (fun w J=>J d w) fun s w=>Q0 a true w (Q3 P .shr T.e (.tmp 123) (.const (.int .u64 4)) s (.int .u64 4)) fun U w=>Q0 a true w (Q3 P .add T.e (.const (.int .i64 4)) (.tmp 124) (.int .i64 4) U) fun v w=>Q0 a true w (Q3 P .geq T.e (.tmp 122) (.tmp 125) r v) fun y w=>pick P a y (.bool false) w fun f w=>Q0 f true w (fun w J=>J d w) fun A w=>Q0 f true w (fun w J=>J p w) fun L w=>Q0 f true w (Q3 P .lss T.e (.tmp 129) (.tmp 130) A L) fun X w=>pick P f X (.bool false) w fun z w=>X1 z (R2 P T.c h (some d) none none w fun u w=>Q1 P F.cI [u,l] w fun n w=>Q3 P .lss T.e (.tmp 138) (.const (.int .i64 0)) n (.int .i64 0) w fun Q w=>X1 Q (K (.int .i64 (-1)) w) (Q3 P .add T.e (.tmp 140) (.tmp 141) d n w fun C w=>K C w)) (i (d,q) w)))) (K (.int .i64 (-1)) w)))))
theorem Aj {a b:Value} {w:World} {K:Value→World→Prop} (h:Oa a b w K):Q1 P F.bL [a,b] w K:=Q9 Tq Tryz.func228 rfl (by decide) (by kernel_rfl) h
def Hg (l n:Value) (w:World) (K:Value→World→Prop):Prop:= Q1 P F.bL [l,n] w fun h w=>Q3 P .geq T.e (.tmp 11) (.const (.int .i64 0)) h (.int .i64 0) w fun m w=>X1 m (dr w fun e k=>Q6 e (fun f=> ∀w,k w→R2 P T.c l none (some h) none w (dk e f w)) fun f=>Q6 e (fun c=> ∀w,k w→X3 P .len [T.c] T.e [false] [n] w (dk e c w)) fun c=>Q6 e (fun a=> ∀d w,k w→c d w→Q3 P .add T.e (.tmp 17) (.tmp 19) h d w (dk e a w)) fun a=>Q6 e (fun g=> ∀b w,k w→a b w→R2 P T.c l (some b) none none w (dk e g w)) fun g=>∀i d b j w,k w→f i w→c d w→a b w→g j w→ K (.tuple #[i,j,(.bool true)]) w) (K (.tuple #[l,(.string ⟨#[]⟩),(.bool false)]) w)
theorem Q1L {a b:Value} {w:World} {K:Value→World→Prop} (h:Hg a b w K):Q1 P F.cH [a,b] w K:=Q9 (List.replicate 6 none) Tryz.func229 rfl (by decide) (by kernel_rfl) h
def Pt (e f:Value) (w:World) (K:Value→World→Prop):Prop:= Q1 P F.cH [e,f] w fun d w=>ext P d 0 w fun a w=>ext P d 1 w fun b w=>ext P d 2 w fun c w=>K (.tuple #[a,b,c]) w
theorem Q4D {a b:Value} {w:World} {K:Value→World→Prop} (h:Pt a b w K):Q1 P F.cz [a,b] w K:=Q9 (List.replicate 2 none) Tryz.func224 rfl (by decide) (by kernel_rfl) h
end Go.Proofs.YtjdiakhipmggjaaGreatDoor

set_option maxRecDepth 100000
namespace Go.Proofs.YtjdiakhipmggjaaGreatDoor
open Go.Emb
def Q0y (t:Value) (w:World) (K:Value→World→Prop):Prop:= Q1 P F.cz [t,(.string ⟨#[46]⟩)] w fun e w=>ext P e 0 w fun f w=>ext P e 1 w fun d w=>ext P e 2 w fun j w=>J7 P .not j w fun b w=>Q0 b false w (fun w J=>J f w) fun k w=>Q0 b false w (Q1 P F.ai [k]) fun l w=>Q0 b false w (J7 P .not l) fun m w=>pick P b (.bool true) m w fun c w=>Q0 c false w (fun w J=>J d w) fun r w=>Q0 c false w (Q1 P F.c4 [r]) fun i w=>Q0 c false w (J7 P .not i) fun q w=>pick P c (.bool true) q w fun a w=>Q0 a false w (fun w J=>J d w) fun p w=>Q0 a false w (S6 P T.c p (.int .i64 0)) fun o w=>Q0 a false w (conv P T.a3 T.an o) fun h w=>Q0 a false w (Q1 P F.cj [h]) fun n w=>Q0 a false w (J7 P .not n) fun g w=>pick P a (.bool true) g w fun s w=>X1 s (K (.tuple #[(.string ⟨#[]⟩),(.string ⟨#[]⟩),(.int .i64 30)]) w) (K (.tuple #[f,d,(.int .i64 0)]) w)
theorem Q5p {a:Value} {w:World} {K:Value→World→Prop} (h:Q0y a w K):Q1 P F.cG [a] w K:=Q9 (List.replicate 6 none) Tryz.func211 rfl (by decide) (by kernel_rfl) h
def Q6P:V8:=[none,none,none,none,none,none,none,some ([27],[27,28,29]),none,none,none,none,none,none]
def Q24 (g b:Value) (w:World) (K:Value→World→Prop):Prop:= Q3 P .eql T.c (.tmp 8) (.const (.string ⟨#[119,111,114,100]⟩)) g (.string ⟨#[119,111,114,100]⟩) w fun C w=>X1 C (X3 P .len [T.c] T.e [false] [b] w fun j w=>Q3 P .leq T.e (.tmp 12) (.const (.int .i64 64)) j (.int .i64 64) w fun e w=>Q0 e true w (fun w J=>J b w) fun m w=>Q0 e true w (Q1 P F.aZ [m]) fun t w=>pick P e t (.bool false) w fun c w=>Q0 c true w (fun w J=>J b w) fun u w=>Q0 c true w (Q1 P F.cC [u,(.string ⟨#[10]⟩)]) fun p w=>Q0 c true w (J7 P .not p) fun n w=>pick P c n (.bool false) w fun H w=>K H w) (Q3 P .eql T.c (.tmp 8) (.const (.string ⟨#[110,101,119]⟩)) g (.string ⟨#[110,101,119]⟩) w fun z w=>X1 z (Q1 P F.ai [b] w fun q w=>K q w) (jn (α:=Value) w (fun L w=>Q3 P .eql T.c (.tmp 8) (.const (.string ⟨#[105,115]⟩)) g (.string ⟨#[105,115]⟩) w fun h w=>X1 h (L h w) (Q3 P .eql T.c (.tmp 8) (.const (.string ⟨#[99,97,115,116]⟩)) g (.string ⟨#[99,97,115,116]⟩) w fun l w=>L l w)) fun N Q w=>X1 N (Q1 P F.a0 [b] w fun a w=>Q0 a true w (fun w J=>J b w) fun B w=>Q0 a true w (Q1 P F.aL [B]) fun y w=>Q0 a true w (J7 P .not y) fun o w=>pick P a o (.bool false) w fun r w=>K r w) (Q3 P .eql T.c (.tmp 8) (.const (.string ⟨#[97,114,114,97,121]⟩)) g (.string ⟨#[97,114,114,97,121]⟩) w fun s w=>X1 s (Q1 P F.a0 [b] w fun d w=>Q0 d true w (fun w J=>J b w) fun i w=>Q0 d true w (Q1 P F.cu [i]) fun k w=>Q0 d true w (Q3 P .lss T.e (.tmp 43) (.const (.int .i64 3)) k (.int .i64 3)) fun D w=>pick P d D (.bool false) w fun E w=>K E w) (Q1 P F.cG [b] w fun f w=>ext P f 0 w fun O w=>ext P f 1 w fun M w=>ext P f 2 w fun A w=>Q3 P .eql T.y (.tmp 52) (.const (.int .i64 0)) A (.int .i64 0) w fun v w=>K v w))))
theorem Q6w {a b:Value} {w:World} {K:Value→World→Prop} (h:Q24 a b w K):Q1 P F.cJ [a,b] w K:=Q9 Q6P Tryz.func197 rfl (by decide) (by kernel_rfl) h
def Q4T:V8:=[none,none,none,none,none,some ([16],[16,17,18,19,20,21,22,23,24,25,26,27,28,29,30,31,32,33,34,35,36,37,38,39]),none,none,none,none]
def Aw (A:Value) (w:World) (K:Value→World→Prop):Prop:= box P T.v A w fun a w=>fieldAddr P T.v a 0 w fun C w=>Q2 P T.c C w fun D w=>Q1 P F.ck [D] w fun j w=>ext P j 0 w fun t w=>ext P j 1 w fun b w=>ext P j 2 w fun g w=>J7 P .not g w fun i w=>X1 i (K (.int .i64 40) w) (jn (α:=Value) w (fun o w=>J7 P .not t w fun c w=>Q0 c true w (fieldAddr P T.v a 1) fun m w=>Q0 c true w (Q2 P T.a1 m) fun k w=>Q0 c true w (Q3 P .neq T.a1 (.tmp 21) (.const (.int .i64 0)) k (.int .i64 0)) fun z w=>pick P c z (.bool false) w fun e w=>X1 e (o e w) (J7 P .not b w fun d w=>Q0 d true w (fieldAddr P T.v a 2) fun r w=>Q0 d true w (Q2 P T.c r) fun p w=>Q0 d true w (Q3 P .neq T.c (.tmp 28) (.const (.string ⟨#[]⟩)) p (.string ⟨#[]⟩)) fun h w=>pick P d h (.bool false) w fun f w=>X1 f (o f w) (Q0 b true w (fieldAddr P T.v a 0) fun s w=>Q0 b true w (Q2 P T.c s) fun q w=>Q0 b true w (fieldAddr P T.v a 2) fun l w=>Q0 b true w (Q2 P T.c l) fun y w=>Q0 b true w (Q1 P F.cJ [q,y]) fun v w=>Q0 b true w (J7 P .not v) fun n w=>pick P b n (.bool false) w fun u w=>o u w))) fun B E w=>X1 B (K (.int .i64 41) w) (K (.int .i64 0) w))
theorem Q5o {a:Value} {w:World} {K:Value→World→Prop} (h:Aw a w K):Q1 P F.cF [a] w K:=Q9 Q4T Tryz.func174 rfl (by decide) (by kernel_rfl) h
def Sb (b:Value) (w:World) (K:Value→World→Prop):Prop:= box P T.v b w fun a w=>Q2 P T.v a w fun c w=>Q1 P F.cF [c] w fun d w=>Q3 P .eql T.y (.tmp 4) (.const (.int .i64 0)) d (.int .i64 0) w fun e w=>K e w
theorem Q2s {a:Value} {w:World} {K:Value→World→Prop} (h:Sb a w K):Q1 P F.bi [a] w K:=Q9 (List.replicate 2 none) Tryz.func173 rfl (by decide) (by kernel_rfl) h
def Yd:V8:=[none,none,none,some ([8],[4,5,8,9,10,11,12,13,14,15,16,17,18]),none,none,none,none,none,none,none]
def F3 (g i:Value) (w:World) (K:Value→World→Prop):Prop:= X3 P .len [T.s] T.e [false] [g] w fun h w=>lp (α:=Value) (.int .i64 0) w fun a b k w=>Q3 P .lss T.e (.tmp 8) (.tmp 7) b h w fun j w=>X1 j (indexAddr P T.s g b w fun e w=>Q2 P T.t e w fun f w=>Z3 P i [f] w fun d w=>X1 d (K b w) (Q3 P .add T.e (.tmp 8) (.const (.int .i64 1)) b (.int .i64 1) w fun c w=>a c w)) (K (.int .i64 (-1)) w)
theorem Yf {a b:Value} {w:World} {K:Value→World→Prop} (h:F3 a b w K):Q1 P F.a7 [a,b] w K:=Q9 Yd Tryz.func212 rfl (by decide) (by kernel_rfl) h
def C6 (c d:Value) (w:World) (K:Value→World→Prop):Prop:= Q1 P F.a7 [c,d] w fun a w=>Q3 P .geq T.e (.tmp 7) (.const (.int .i64 0)) a (.int .i64 0) w fun b w=>K b w
theorem Qx {a b:Value} {w:World} {K:Value→World→Prop} (h:C6 a b w K):Q1 P F.m [a,b] w K:=Q9 (List.replicate 2 none) Tryz.func198 rfl (by decide) (by kernel_rfl) h
def Zr (c d:Value) (w:World) (K:Value→World→Prop):Prop:= box P T.t c w fun a w=>Q2 P T.ah d w fun e w=>Q2 P T.t a w fun f w=>Z3 P e [f] w fun g w=>J7 P .not g w fun b w=>K b w
theorem Hw {a b:Value} {w:World} {K:Value→World→Prop} (h:Zr a b w K):Q1 P F.bY [a,b] w K:=Q9 (List.replicate 2 none) Tryz.func199 rfl (by decide) (by kernel_rfl) h
def Ut (d e:Value) (w:World) (K:Value→World→Prop):Prop:= box P T.ah e w fun a w=>E8 P (.func F.bY) [] [a] w fun f w=>Q1 P F.m [d,f] w fun b w=>J7 P .not b w fun c w=>K c w
theorem Ck {a b:Value} {w:World} {K:Value→World→Prop} (h:Ut a b w K):Q1 P F.ar [a,b] w K:=Q9 (List.replicate 2 none) Tryz.func175 rfl (by decide) (by kernel_rfl) h
def Gf (a0:Value) (w:World) (K:Value→World→Prop):Prop:= box P T.d a0 w fun b w=>fieldAddr P T.d b 0 w fun t5 w=>Q2 P T.c t5 w fun t6 w=>Q1 P F.bS [t6] w fun t7 w=>J7 P .not t7 w fun i w=>Q0 i false w (fieldAddr P T.d b 1) fun af w=>Q0 i false w (Q2 P T.h af) fun u w=>Q0 i false w (Q1 P F.aa [u,(.func (.func F.a0) #[] #[])]) fun n w=>Q0 i false w (J7 P .not n) fun A w=>pick P i (.bool true) A w fun c w=>Q0 c false w (fieldAddr P T.d b 2) fun Q w=>Q0 c false w (Q2 P T.c Q) fun E w=>Q0 c false w (Q3 P .neq T.c (.tmp 17) (.const (.string ⟨#[]⟩)) E (.string ⟨#[]⟩)) fun M w=>Q0 c false w (fun w J=>J M w) fun e w=>Q0 e true w (fieldAddr P T.d b 2) fun C w=>Q0 e true w (Q2 P T.c C) fun z w=>Q0 e true w (Q1 P F.a0 [z]) fun ak w=>Q0 e true w (J7 P .not ak) fun s w=>Q0 c false w (pick P e s (.bool false)) fun aa w=>pick P c (.bool true) aa w fun al w=>X1 al (K (.bool false) w) (fieldAddr P T.d b 3 w fun B w=>Q2 P T.u B w fun Y w=>X1 Y (fieldAddr P T.d b 4 w fun V w=>Q2 P T.e V w fun q w=>Q3 P .eql T.e (.tmp 29) (.const (.int .i64 0)) q (.int .i64 0) w fun f w=>Q0 f true w (fieldAddr P T.d b 5) fun am w=>Q0 f true w (Q2 P T.q am) fun ae w=>Q0 f true w (X3 P .len [T.q] T.e [false] [ae]) fun X w=>Q0 f true w (Q3 P .eql T.e (.tmp 34) (.const (.int .i64 0)) X (.int .i64 0)) fun D w=>pick P f D (.bool false) w fun g w=>Q0 g true w (fieldAddr P T.d b 6) fun N w=>Q0 g true w (Q2 P T.s N) fun ah w=>Q0 g true w (X3 P .len [T.s] T.e [false] [ah]) fun Z w=>Q0 g true w (Q3 P .eql T.e (.tmp 40) (.const (.int .i64 0)) Z (.int .i64 0)) fun r w=>pick P g r (.bool false) w fun j w=>K j w) (fieldAddr P T.d b 5 w fun o w=>Q2 P T.q o w fun aj w=>X3 P .len [T.q] T.e [false] [aj] w fun ai w=>W0 P T.e w fun t3 w=>Y0 P T.e t3 ai w fun _u w=>E8 P (.func F.bh) [] [t3] w fun k w=>Q2 P T.e t3 w fun R w=>Q3 P .gtr T.e (.tmp 47) (.const (.int .i64 0)) R (.int .i64 0) w fun a w=>Q0 a true w (fieldAddr P T.d b 4) fun H w=>Q0 a true w (Q2 P T.e H) fun ab w=>Q0 a true w (fieldAddr P T.d b 1) fun m w=>Q0 a true w (Q2 P T.h m) fun U w=>Q0 a true w (X3 P .len [T.h] T.e [false] [U]) fun W w=>Q0 a true w (Q3 P .gtr T.e (.tmp 51) (.tmp 54) ab W) fun t w=>pick P a t (.bool false) w fun h w=>Q0 h true w (fieldAddr P T.d b 5) fun l w=>Q0 h true w (Q2 P T.q l) fun ac w=>Q0 h true w (Q1 P F.aq [ac,(.func (.func F.bi) #[] #[])]) fun p w=>pick P h p (.bool false) w fun d w=>Q0 d true w (fieldAddr P T.d b 6) fun v w=>Q0 d true w (Q2 P T.s v) fun O w=>Q0 d true w (fun w J=>J k w) fun ag w=>Q0 d true w (Q1 P F.ar [O,ag]) fun y w=>pick P d y (.bool false) w fun L w=>K L w))
theorem Q3p {a:Value} {w:World} {K:Value→World→Prop} (h:Gf a w K):Q1 P F.ba [a] w K:=Q9 (List.replicate 10 none) Tryz.func135 rfl (by decide) (by kernel_rfl) h
def Pw (a0:Value) (w:World) (K:Value→World→Prop):Prop:= box P T.b a0 w fun b w=>fieldAddr P T.b b 0 w fun t7 w=>Q2 P T.c t7 w fun t8 w=>fieldAddr P T.b b 1 w fun t9 w=>Q2 P T.c t9 w fun ah w=>buildSlice P T.h 2 [(0,t8),(1,ah)] w fun ay w=>fieldAddr P T.b b 2 w fun ap w=>Q2 P T.h ap w fun Q w=>X3 P .append [T.h,T.h] T.h [false,false] [ay,Q] w fun q w=>dr w fun o u=>Q6 o (fun n=> ∀w,u w→R2 P T.h q (some (.int .i64 1)) none none w (dk o n w)) fun n=>Q6 o (fun f=> ∀w,u w→fieldAddr P T.b b 0 w (dk o f w)) fun f=>Q6 o (fun l=> ∀g w,u w→f g w→Q2 P T.c g w (dk o l w)) fun l=>∀s g r w,u w→n s w→f g w→l r w→ Q1 P F.af [s,r] w fun a4 w=>fieldAddr P T.b b 7 w fun U w=>Q2 P T.j U w fun a1 w=>Q1 P F.a [a1,(.func (.func F.cl) #[] #[])] w fun bc w=>fieldAddr P T.b b 7 w fun H w=>Q2 P T.j H w fun ad w=>Q1 P F.a [ad,(.func (.func F.cm) #[] #[])] w fun bd w=>Q1 P F.aa [q,(.func (.func F.ai) #[] #[])] w fun a7 w=>J7 P .not a7 w fun p w=>Q0 p false w (fun w J=>J a4 w) fun av w=>pick P p (.bool true) av w fun d w=>Q0 d false w (fieldAddr P T.b b 2) fun Z w=>Q0 d false w (Q2 P T.h Z) fun O w=>Q0 d false w (Q1 P F.aR [O,(.func (.func F.cn) #[] #[])]) fun al w=>Q0 d false w (J7 P .not al) fun bb w=>pick P d (.bool true) bb w fun W w=>X1 W (K (.bool false) w) (fieldAddr P T.b b 3 w fun a9 w=>Q2 P T.u a9 w fun a w=>Q0 a true w (fieldAddr P T.b b 4) fun ar w=>Q0 a true w (Q2 P T.u ar) fun ak w=>Q0 a true w (J7 P .not ak) fun am w=>Q0 a true w (fun w J=>J am w) fun j w=>Q0 j false w (fieldAddr P T.b b 1) fun X w=>Q0 j false w (Q2 P T.c X) fun a2 w=>Q0 j false w (Q3 P .neq T.c (.tmp 48) (.const (.string ⟨#[79,98,106,101,99,116]⟩)) a2 (.string ⟨#[79,98,106,101,99,116]⟩)) fun ba w=>Q0 a true w (pick P j (.bool true) ba) fun V w=>Q0 a true w (fun w J=>J V w) fun e w=>Q0 e false w (fieldAddr P T.b b 6) fun z w=>Q0 e false w (Q2 P T.k z) fun a5 w=>Q0 e false w (X3 P .len [T.k] T.e [false] [a5]) fun a6 w=>Q0 e false w (Q3 P .gtr T.e (.tmp 54) (.const (.int .i64 0)) a6 (.int .i64 0)) fun L w=>Q0 a true w (pick P e (.bool true) L) fun N w=>Q0 a true w (fun w J=>J N w) fun t w=>Q0 t false w (fun w J=>J bd w) fun an w=>Q0 a true w (pick P t (.bool true) an) fun ae w=>pick P a ae (.bool false) w fun aw w=>X1 aw (K (.bool false) w) (fieldAddr P T.b b 4 w fun ab w=>Q2 P T.u ab w fun m w=>Q0 m true w (fieldAddr P T.b b 5) fun ai w=>Q0 m true w (Q2 P T.u ai) fun az w=>pick P m az (.bool false) w fun k w=>Q0 k false w (fun w J=>J bc w) fun aq w=>Q0 k false w (fun w J=>J aq w) fun i w=>Q0 i true w (fieldAddr P T.b b 4) fun af w=>Q0 i true w (Q2 P T.u af) fun C w=>Q0 i true w (J7 P .not C) fun aa w=>Q0 k false w (pick P i aa (.bool false)) fun R w=>pick P k (.bool true) R w fun E w=>X1 E (K (.bool false) w) (fieldAddr P T.b b 6 w fun a8 w=>Q2 P T.k a8 w fun y w=>Q1 P F.aB [y,(.func (.func F.co) #[] #[])] w fun ao w=>J7 P .not ao w fun c w=>Q0 c false w (fieldAddr P T.b b 7) fun A w=>Q0 c false w (Q2 P T.j A) fun ac w=>Q0 c false w (Q1 P F.an [ac,(.func (.func F.cp) #[] #[])]) fun v w=>Q0 c false w (J7 P .not v) fun ag w=>pick P c (.bool true) ag w fun a3 w=>X1 a3 (K (.bool false) w) (fieldAddr P T.b b 6 w fun Y w=>Q2 P T.k Y w fun ax w=>Q1 P F.ao [ax,(.func (.func F.bx) #[] #[])] w fun h w=>Q0 h true w (fieldAddr P T.b b 7) fun aj w=>Q0 h true w (Q2 P T.j aj) fun M w=>Q0 h true w (Q1 P F.al [M,(.func (.func F.ba) #[] #[])]) fun D w=>pick P h D (.bool false) w fun B w=>K B w))))
theorem Q4x {a:Value} {w:World} {K:Value→World→Prop} (h:Pw a w K):Q1 P F.cy [a] w K:=Q9 (List.replicate 15 none) Tryz.func78 rfl (by decide) (by kernel_rfl) h
def Tb (d:Value) (w:World) (K:Value→World→Prop):Prop:= box P T.b d w fun a w=>Q2 P T.b a w fun e w=>Q1 P F.cE [e] w fun f w=>X1 f (K (.int .i64 51) w) (Q2 P T.b a w fun b w=>Q1 P F.cy [b] w fun c w=>J7 P .not c w fun g w=>X1 g (K (.int .i64 50) w) (K (.int .i64 0) w))
theorem Q4u {a:Value} {w:World} {K:Value→World→Prop} (h:Tb a w K):Q1 P F.cw [a] w K:=Q9 (List.replicate 7 none) Tryz.func42 rfl (by decide) (by kernel_rfl) h
def Qe (a:Value) (w:World) (K:Value→World→Prop):Prop:= Q3 P .eql T.h (.tmp 3) (.const (.slice none 0 0)) a (.slice none 0 0) w fun c w=>X1 c (K (.slice none 0 0) w) (buildSlice P T.h 0 [] w fun d w=>X3 P .append [T.h,T.h] T.h [false,false] [d,a] w fun b w=>K b w)
theorem Lz {a:Value} {w:World} {K:Value→World→Prop} (h:Qe a w K):Q1 P F.a8 [a] w K:=Q9 (List.replicate 5 none) Tryz.func79 rfl (by decide) (by kernel_rfl) h
def K4 (a:Value) (w:World) (K:Value→World→Prop):Prop:= Q3 P .eql T.k (.tmp 3) (.const (.slice none 0 0)) a (.slice none 0 0) w fun c w=>X1 c (K (.slice none 0 0) w) (buildSlice P T.k 0 [] w fun d w=>X3 P .append [T.k,T.k] T.k [false,false] [d,a] w fun b w=>K b w)
theorem Js {a:Value} {w:World} {K:Value→World→Prop} (h:K4 a w K):Q1 P F.ac [a] w K:=Q9 (List.replicate 5 none) Tryz.func80 rfl (by decide) (by kernel_rfl) h
def I9 (a:Value) (w:World) (K:Value→World→Prop):Prop:= Q3 P .eql T.q (.tmp 3) (.const (.slice none 0 0)) a (.slice none 0 0) w fun c w=>X1 c (K (.slice none 0 0) w) (buildSlice P T.q 0 [] w fun d w=>X3 P .append [T.q,T.q] T.q [false,false] [d,a] w fun b w=>K b w)
theorem Jd {a:Value} {w:World} {K:Value→World→Prop} (h:I9 a w K):Q1 P F.ad [a] w K:=Q9 (List.replicate 5 none) Tryz.func136 rfl (by decide) (by kernel_rfl) h
def K2 (a:Value) (w:World) (K:Value→World→Prop):Prop:= Q3 P .eql T.s (.tmp 3) (.const (.slice none 0 0)) a (.slice none 0 0) w fun c w=>X1 c (K (.slice none 0 0) w) (buildSlice P T.s 0 [] w fun d w=>X3 P .append [T.s,T.s] T.s [false,false] [d,a] w fun b w=>K b w)
theorem Jj {a:Value} {w:World} {K:Value→World→Prop} (h:K2 a w K):Q1 P F.ae [a] w K:=Q9 (List.replicate 5 none) Tryz.func137 rfl (by decide) (by kernel_rfl) h
def Pz (D:Value) (w:World) (K:Value→World→Prop):Prop:= box P T.d D w fun a w=>W0 P T.d w fun C w=>dr w fun b c=>Q6 b (fun m=> ∀w,c w→fieldAddr P T.d a 1 w (dk b m w)) fun m=>Q6 b (fun j=> ∀w,c w→fieldAddr P T.d a 5 w (dk b j w)) fun j=>Q6 b (fun p=> ∀w,c w→fieldAddr P T.d a 6 w (dk b p w)) fun p=>Q6 b (fun k=> ∀r w,c w→m r w→Q2 P T.h r w (dk b k w)) fun k=>Q6 b (fun u=> ∀o w,c w→k o w→Q1 P F.a8 [o] w (dk b u w)) fun u=>Q6 b (fun q=> ∀s w,c w→j s w→Q2 P T.q s w (dk b q w)) fun q=>Q6 b (fun t=> ∀l w,c w→q l w→Q1 P F.ad [l] w (dk b t w)) fun t=>Q6 b (fun d=> ∀n w,c w→p n w→Q2 P T.s n w (dk b d w)) fun d=>Q6 b (fun f=> ∀w,c w→fieldAddr P T.d a 1 w (dk b f w)) fun f=>Q6 b (fun g=> ∀e w,c w→d e w→Q1 P F.ae [e] w (dk b g w)) fun g=>∀r s n o B l A e h i w,c w→m r w→j s w→p n w→k o w→u B w→q l w→t A w→d e w→f h w→g i w→ Y0 P T.h h B w fun _u w=>fieldAddr P T.d a 5 w fun z w=>Y0 P T.q z A w fun _u w=>fieldAddr P T.d a 6 w fun v w=>Y0 P T.s v i w fun _u w=>Q2 P T.d a w fun y w=>Y0 P T.d C y w fun _u w=>Y7 P T.d C w fun E=>K E w
theorem Q4v {a:Value} {w:World} {K:Value→World→Prop} (h:Pz a w K):Q1 P F.c6 [a] w K:=Q9 (List.replicate 3 none) Tryz.func81 rfl (by decide) (by kernel_rfl) h
def Q4C:V8:=[none,none,none,none,none,some ([3,17],[3,5,17,18,19,20,21,22,23,24,25,26]),none,none,none,none,none,none]
def Ta (Q:Value) (w:World) (K:Value→World→Prop):Prop:= box P T.b Q w fun a w=>W0 P T.b w fun O w=>dr w fun b g=>Q6 b (fun n=> ∀w,g w→fieldAddr P T.b a 2 w (dk b n w)) fun n=>Q6 b (fun q=> ∀w,g w→fieldAddr P T.b a 6 w (dk b q w)) fun q=>Q6 b (fun r=> ∀s w,g w→n s w→Q2 P T.h s w (dk b r w)) fun r=>Q6 b (fun t=> ∀o w,g w→r o w→Q1 P F.a8 [o] w (dk b t w)) fun t=>Q6 b (fun e=> ∀p w,g w→q p w→Q2 P T.k p w (dk b e w)) fun e=>Q6 b (fun h=> ∀w,g w→fieldAddr P T.b a 2 w (dk b h w)) fun h=>Q6 b (fun i=> ∀f w,g w→e f w→Q1 P F.ac [f] w (dk b i w)) fun i=>∀s p o N f j k w,g w→n s w→q p w→r o w→t N w→e f w→h j w→i k w→ Y0 P T.h j N w fun _u w=>fieldAddr P T.b a 6 w fun z w=>Y0 P T.k z k w fun _u w=>fieldAddr P T.b a 7 w fun y w=>Q2 P T.j y w fun l w=>X3 P .len [T.j] T.e [false] [l] w fun D w=>lp (α:=Value×Value) ((.slice none 0 0),(.int .i64 0)) w fun d m U w=>Q3 P .lss T.e (.tmp 17) (.tmp 16) m.2 D w fun C w=>X1 C (indexAddr P T.j l m.2 w fun E w=>Q2 P T.d E w fun B w=>W0 P T.d w fun c w=>Y0 P T.d c B w fun _u w=>Q2 P T.d c w fun L w=>Q1 P F.c6 [L] w fun v w=>buildSlice P T.j 1 [(0,v)] w fun J w=>X3 P .append [T.j,T.j] T.j [false,false] [m.1,J] w fun M w=>Q3 P .add T.e (.tmp 17) (.const (.int .i64 1)) m.2 (.int .i64 1) w fun A w=>d (M,A) w) (fieldAddr P T.b a 7 w fun H w=>Y0 P T.j H m.1 w fun _u w=>Q2 P T.b a w fun u w=>Y0 P T.b O u w fun _u w=>Y7 P T.b O w fun R=>K R w)
theorem Q4F {a:Value} {w:World} {K:Value→World→Prop} (h:Ta a w K):Q1 P F.cx [a] w K:=Q9 Q4C Tryz.func43 rfl (by decide) (by kernel_rfl) h
def Jg (e f:Value) (w:World) (K:Value→World→Prop):Prop:= nilCheck P e w fun h w=>fieldAddr P T.z h 1 w fun b w=>Q2 P T.a2 b w fun c w=>lookup P T.a2 c f true w fun a w=>ext P a 0 w fun g w=>ext P a 1 w fun d w=>K d w
theorem Du {a b:Value} {w:World} {K:Value→World→Prop} (h:Jg a b w K):Q1 P F.j [a,b] w K:=Q9 (List.replicate 3 none) Tryz.func44 rfl (by decide) (by kernel_rfl) h
def Nt (r v:Value) (w:World) (K:Value→World→Prop):Prop:= W0 P T.b w fun t w=>dr w fun a h=>Q6 a (fun k=> ∀w,h w→nilCheck P r w (dk a k w)) fun k=>Q6 a (fun m=> ∀n w,h w→k n w→fieldAddr P T.z n 0 w (dk a m w)) fun m=>Q6 a (fun d=> ∀w,h w→nilCheck P r w (dk a d w)) fun d=>Q6 a (fun f=> ∀g w,h w→d g w→fieldAddr P T.z g 1 w (dk a f w)) fun f=>Q6 a (fun o=> ∀l w,h w→m l w→Q2 P T.i l w (dk a o w)) fun o=>Q6 a (fun e=> ∀c w,h w→f c w→Q2 P T.a2 c w (dk a e w)) fun e=>Q6 a (fun i=> ∀b w,h w→e b w→lookup P T.a2 b v false w (dk a i w)) fun i=>∀n l g c s b j w,h w→k n w→m l w→d g w→f c w→o s w→e b w→i j w→ indexAddr P T.i s j w fun p w=>Q2 P T.b p w fun q w=>Y0 P T.b t q w fun _u w=>Y7 P T.b t w fun u=>K u w
theorem Gp {a b:Value} {w:World} {K:Value→World→Prop} (h:Nt a b w K):Q1 P F.h [a,b] w K:=Q9 (List.replicate 2 none) Tryz.func82 rfl (by decide) (by kernel_rfl) h
def Fz:V8:=[none,none,none,none,none,none,some ([29],[4,6,29,30,31,32,33,34,35,36,37,38,39,40,41,42,43,44]),none,none,none,none,none,none,none]
def Lj (f O:Value) (w:World) (K:Value→World→Prop):Prop:= box P T.b O w fun a w=>fieldAddr P T.b a 1 w fun R w=>Q2 P T.c R w fun Q w=>Q1 P F.j [f,Q] w fun E w=>J7 P .not E w fun b w=>Q0 b false w (fun w J=>J f w) fun t w=>Q0 b false w (fieldAddr P T.b a 1) fun n w=>Q0 b false w (Q2 P T.c n) fun o w=>Q0 b false w (Q1 P F.h [t,o]) fun z w=>Q0 b false w (G1 P T.b z 3) fun u w=>pick P b (.bool true) u w fun c w=>Q0 c false w (fun w J=>J f w) fun s w=>Q0 c false w (fieldAddr P T.b a 1) fun r w=>Q0 c false w (Q2 P T.c r) fun M w=>Q0 c false w (Q1 P F.h [s,M]) fun m w=>Q0 c false w (G1 P T.b m 5) fun D w=>pick P c (.bool true) D w fun N w=>X1 N (K (.int .i64 61) w) (fieldAddr P T.b a 2 w fun q w=>Q2 P T.h q w fun g w=>X3 P .len [T.h] T.e [false] [g] w fun B w=>lp (α:=Value) (.int .i64 0) w fun e v U w=>Q3 P .lss T.e (.tmp 29) (.tmp 28) v B w fun A w=>X1 A (indexAddr P T.h g v w fun k w=>Q2 P T.c k w fun h w=>Q1 P F.j [f,h] w fun p w=>J7 P .not p w fun d w=>Q0 d false w (fun w J=>J f w) fun y w=>Q0 d false w (fun w J=>J h w) fun H w=>Q0 d false w (Q1 P F.h [y,H]) fun C w=>Q0 d false w (G1 P T.b C 3) fun l w=>Q0 d false w (J7 P .not l) fun i w=>pick P d (.bool true) i w fun j w=>X1 j (K (.int .i64 62) w) (Q3 P .add T.e (.tmp 29) (.const (.int .i64 1)) v (.int .i64 1) w fun L w=>e L w)) (K (.int .i64 0) w))
theorem Fr {a b:Value} {w:World} {K:Value→World→Prop} (h:Lj a b w K):Q1 P F.bb [a,b] w K:=Q9 Fz Tryz.func45 rfl (by decide) (by kernel_rfl) h
def Yg:V8:=[none,none,none,some ([8],[4,5,8,9,10,11,12,13,14,15,16,17,18]),none,none,none,none,none,none,none]
def B9 (g i:Value) (w:World) (K:Value→World→Prop):Prop:= X3 P .len [T.i] T.e [false] [g] w fun h w=>lp (α:=Value) (.int .i64 0) w fun a b k w=>Q3 P .lss T.e (.tmp 8) (.tmp 7) b h w fun j w=>X1 j (indexAddr P T.i g b w fun e w=>Q2 P T.b e w fun f w=>Z3 P i [f] w fun d w=>X1 d (K b w) (Q3 P .add T.e (.tmp 8) (.const (.int .i64 1)) b (.int .i64 1) w fun c w=>a c w)) (K (.int .i64 (-1)) w)
theorem Yp {a b:Value} {w:World} {K:Value→World→Prop} (h:B9 a b w K):Q1 P F.o [a,b] w K:=Q9 Yg Tryz.func46 rfl (by decide) (by kernel_rfl) h
def Pp:V8:=[none,none,none,some ([7],[6,7,9,10,11,12,16,17,18,19,20,21,22,23,24,25,26,27,28,29,30,31,32,33,34,35,36,37,38,39,40,41,42,43,44,45,46,47,48,49,50,51,52]),none,none,none,none,none,none,none,none,none,none,none,none,none]
def Ly (R V U:Value) (w:World) (K:Value→World→Prop):Prop:= buildSlice P T.h 1 [(0,V)] w fun B w=>Ib P T.a2 none w fun r w=>lp (α:=Value) B w fun b v X w=>X3 P .len [T.h] T.e [false] [v] w fun E w=>Q3 P .gtr T.e (.tmp 17) (.const (.int .i64 0)) E (.int .i64 0) w fun H w=>X1 H (indexAddr P T.h v (.int .i64 0) w fun D w=>Q2 P T.c D w fun h w=>R2 P T.h v (some (.int .i64 1)) none none w fun q w=>lookup P T.a2 r h true w fun s w=>ext P s 0 w fun W w=>ext P s 1 w fun d w=>Q0 d false w (fun w J=>J R w) fun Q w=>Q0 d false w (fun w J=>J h w) fun M w=>Q0 d false w (Q1 P F.j [Q,M]) fun L w=>Q0 d false w (J7 P .not L) fun C w=>pick P d (.bool true) C w fun O w=>X1 O (b q w) (mapUpdate P T.a2 r h (.int .i64 1) w fun _u w=>Q1 P F.h [R,h] w fun A w=>W0 P T.b w fun a w=>Y0 P T.b a A w fun _u w=>Q2 P T.b a w fun z w=>Z3 P U [z] w fun N w=>X1 N (K (.bool true) w) (dr w fun c p=>Q6 c (fun j=> ∀w,p w→fieldAddr P T.b a 1 w (dk c j w)) fun j=>Q6 c (fun e=> ∀w,p w→fieldAddr P T.b a 2 w (dk c e w)) fun e=>Q6 c (fun m=> ∀f w,p w→j f w→Q2 P T.c f w (dk c m w)) fun m=>Q6 c (fun g=> ∀l w,p w→m l w→buildSlice P T.h 1 [(0,l)] w (dk c g w)) fun g=>Q6 c (fun o=> ∀k w,p w→g k w→X3 P .append [T.h,T.h] T.h [false,false] [q,k] w (dk c o w)) fun o=>Q6 c (fun n=> ∀i w,p w→e i w→Q2 P T.h i w (dk c n w)) fun n=>∀f i l k u t w,p w→j f w→e i w→m l w→g k w→o u w→n t w→ X3 P .append [T.h,T.h] T.h [false,false] [u,t] w fun y w=>b y w))) (K (.bool false) w)
theorem Gw {b c a:Value} {w:World} {K:Value→World→Prop} (h:Ly b c a w K):Q1 P F.x [b,c,a] w K:=Q9 Pp Tryz.func84 rfl (by decide) (by kernel_rfl) h
def Uh (d e:Value) (w:World) (K:Value→World→Prop):Prop:= box P T.b d w fun a w=>fieldAddr P T.b a 0 w fun f w=>Q2 P T.c f w fun g w=>fieldAddr P T.b e 0 w fun h w=>Q2 P T.c h w fun b w=>Q3 P .eql T.c (.tmp 5) (.tmp 7) g b w fun c w=>K c w
theorem Rf {a b:Value} {w:World} {K:Value→World→Prop} (h:Uh a b w K):Q1 P F.c7 [a,b] w K:=Q9 (List.replicate 2 none) Tryz.func85 rfl (by decide) (by kernel_rfl) h
def Vh (d e c:Value) (w:World) (K:Value→World→Prop):Prop:= Q2 P T.r e w fun f w=>E8 P (.func F.c7) [] [c] w fun a w=>Q1 P F.x [f,d,a] w fun b w=>K b w
theorem Bo {b c a:Value} {w:World} {K:Value→World→Prop} (h:Vh b c a w K):Q1 P F.b8 [b,c,a] w K:=Q9 (List.replicate 2 none) Tryz.func83 rfl (by decide) (by kernel_rfl) h
def Lt (k l:Value) (w:World) (K:Value→World→Prop):Prop:= box P T.r k w fun c w=>box P T.b l w fun a w=>E8 P (.func F.b8) [] [c,a] w fun i w=>fieldAddr P T.b a 1 w fun j w=>Q2 P T.c j w fun m w=>Z3 P i [m] w fun b w=>Q0 b false w (fieldAddr P T.b a 2) fun f w=>Q0 b false w (Q2 P T.h f) fun h w=>Q0 b false w (fun w J=>J i w) fun e w=>Q0 b false w (Q1 P F.c [h,e]) fun g w=>pick P b (.bool true) g w fun d w=>K d w
theorem Pd {a b:Value} {w:World} {K:Value→World→Prop} (h:Lt a b w K):Q1 P F.bj [a,b] w K:=Q9 (List.replicate 3 none) Tryz.func47 rfl (by decide) (by kernel_rfl) h
def Sq:V8:=[none,none,none,some ([8],[4,5,8,9,10,11,12,13,14,15,16,17,18]),none,none,none,none,none,none,none]
def Jc (g i:Value) (w:World) (K:Value→World→Prop):Prop:= X3 P .len [T.a7] T.e [false] [g] w fun h w=>lp (α:=Value) (.int .i64 0) w fun a b k w=>Q3 P .lss T.e (.tmp 8) (.tmp 7) b h w fun j w=>X1 j (indexAddr P T.a7 g b w fun e w=>Q2 P T.e e w fun f w=>Q3 P .eql T.e (.tmp 11) (.tmp 15) i f w fun d w=>X1 d (K b w) (Q3 P .add T.e (.tmp 8) (.const (.int .i64 1)) b (.int .i64 1) w fun c w=>a c w)) (K (.int .i64 (-1)) w)
theorem Sp {a b:Value} {w:World} {K:Value→World→Prop} (h:Jc a b w K):Q1 P F.c8 [a,b] w K:=Q9 Sq Tryz.func139 rfl (by decide) (by kernel_rfl) h
def Xw (c d:Value) (w:World) (K:Value→World→Prop):Prop:= Q1 P F.c8 [c,d] w fun a w=>Q3 P .geq T.e (.tmp 7) (.const (.int .i64 0)) a (.int .i64 0) w fun b w=>K b w
theorem Ee {a b:Value} {w:World} {K:Value→World→Prop} (h:Xw a b w K):Q1 P F.aE [a,b] w K:=Q9 (List.replicate 2 none) Tryz.func88 rfl (by decide) (by kernel_rfl) h
def Bf:V8:=[none,none,none,none,some ([35],[7,35,36,37,38,39,40,41,42,43,44,45,46,47]),none,none,none,none]
def Qn (a0 a1 a2 a3 a4:Value) (w:World) (K:Value→World→Prop):Prop:= Q2 P T.e a1 w fun t9 w=>Q3 P .lss T.e (.tmp 8) (.tmp 9) a0 t9 w fun O w=>Q0 O false w (Q2 P T.a7 a2) fun ah w=>Q0 O false w (fun w J=>J a0 w) fun al w=>Q0 O false w (Q1 P F.aE [ah,al]) fun ak w=>pick P O (.bool true) ak w fun aj w=>X1 aj (K (.tuple #[]) w) (dr w fun a b=>Q6 a (fun t=> ∀w,b w→Q2 P T.r a3 w (dk a t w)) fun t=>Q6 a (fun h=> ∀A w,b w→t A w→nilCheck P A w (dk a h w)) fun h=>Q6 a (fun s=> ∀y w,b w→h y w→fieldAddr P T.z y 0 w (dk a s w)) fun s=>Q6 a (fun e=> ∀z w,b w→s z w→Q2 P T.i z w (dk a e w)) fun e=>Q6 a (fun f=> ∀B w,b w→e B w→indexAddr P T.i B a0 w (dk a f w)) fun f=>Q6 a (fun C=> ∀u w,b w→f u w→fieldAddr P T.b u 1 w (dk a C w)) fun C=>Q6 a (fun Q=> ∀U w,b w→C U w→Q2 P T.c U w (dk a Q w)) fun Q=>Q6 a (fun W=> ∀r w,b w→Q r w→buildSlice P T.h 1 [(0,r)] w (dk a W w)) fun W=>Q6 a (fun j=> ∀w,b w→Q2 P T.r a3 w (dk a j w)) fun j=>Q6 a (fun N=> ∀V w,b w→j V w→nilCheck P V w (dk a N w)) fun N=>Q6 a (fun m=> ∀v w,b w→N v w→fieldAddr P T.z v 0 w (dk a m w)) fun m=>Q6 a (fun k=> ∀L w,b w→m L w→Q2 P T.i L w (dk a k w)) fun k=>Q6 a (fun g=> ∀E w,b w→k E w→indexAddr P T.i E a0 w (dk a g w)) fun g=>Q6 a (fun p=> ∀D w,b w→g D w→fieldAddr P T.b D 2 w (dk a p w)) fun p=>Q6 a (fun Y=> ∀l w,b w→p l w→Q2 P T.h l w (dk a Y w)) fun Y=>∀A y z B u U r ab V v L E D l af w,b w→t A w→h y w→s z w→e B w→f u w→C U w→Q r w→W ab w→j V w→N v w→m L w→k E w→g D w→p l w→Y af w→ X3 P .append [T.h,T.h] T.h [false,false] [ab,af] w fun ac w=>X3 P .len [T.h] T.e [false] [ac] w fun ar w=>lp (α:=Value) (.int .i64 0) w fun R x4 d_ w=>Q3 P .lss T.e (.tmp 35) (.tmp 34) x4 ar w fun ax w=>X1 ax (indexAddr P T.h ac x4 w fun aw w=>Q2 P T.c aw w fun ap w=>dr w fun a b=>Q6 a (fun Z=> ∀w,b w→Q2 P T.ak a4 w (dk a Z w)) fun Z=>Q6 a (fun d=> ∀w,b w→Q2 P T.r a3 w (dk a d w)) fun d=>Q6 a (fun q=> ∀M w,b w→d M w→nilCheck P M w (dk a q w)) fun q=>Q6 a (fun o=> ∀n w,b w→q n w→fieldAddr P T.z n 1 w (dk a o w)) fun o=>Q6 a (fun H=> ∀c w,b w→o c w→Q2 P T.a2 c w (dk a H w)) fun H=>Q6 a (fun X=> ∀i w,b w→H i w→lookup P T.a2 i ap false w (dk a X w)) fun X=>∀ad M n c i ae w,b w→Z ad w→d M w→q n w→o c w→H i w→X ae w→ Z3 P ad [ae] w fun ay w=>Q3 P .add T.e (.tmp 35) (.const (.int .i64 1)) x4 (.int .i64 1) w fun aq w=>R aq w) (Q2 P T.a7 a2 w fun ao w=>buildSlice P T.a7 1 [(0,a0)] w fun am w=>X3 P .append [T.a7,T.a7] T.a7 [false,false] [ao,am] w fun av w=>Y0 P T.a7 a2 av w fun _u w=>K (.tuple #[]) w))
theorem Vr {c e a b d:Value} {w:World} {K:Value→World→Prop} (h:Qn c e a b d w K):Q1 P F.z [c,e,a,b,d] w K:=Q9 Bf Tryz.func87 rfl (by decide) (by kernel_rfl) h
def Ki:V8:=[none,none,none,none,none,none,some ([7],[7,10,11,12,13,14,15,16,17,18,19,20,21]),none,none,none,none]
def Mf (p q:Value) (w:World) (K:Value→World→Prop):Prop:= box P T.r p w fun d w=>box P T.e q w fun b w=>W0 P T.a7 w fun c w=>W0 P T.ak w fun a w=>E8 P (.func F.z) [] [b,c,d,a] w fun t w=>Y0 P T.ak a t w fun _u w=>Q2 P T.e b w fun r w=>lp (α:=Value) r w fun e k u w=>Q2 P T.r d w fun g w=>nilCheck P g w fun f w=>fieldAddr P T.z f 0 w fun j w=>Q2 P T.i j w fun h w=>X3 P .len [T.i] T.e [false] [h] w fun i w=>Q3 P .lss T.e (.tmp 10) (.tmp 15) k i w fun m w=>X1 m (Q2 P T.ak a w fun n w=>Z3 P n [k] w fun s w=>Q3 P .add T.e (.tmp 17) (.const (.int .i64 1)) k (.int .i64 1) w fun l w=>e l w) (Q2 P T.a7 c w fun o w=>K o w)
theorem Is {a b:Value} {w:World} {K:Value→World→Prop} (h:Mf a b w K):Q1 P F.bk [a,b] w K:=Q9 Ki Tryz.func48 rfl (by decide) (by kernel_rfl) h
def Zk:V8:=[none,some ([2,3],[2,3,7,8,9,10,11,12,13,14,15,16,17,18,19,20,21,22,23,24,25,26,27]),none,none,none]
def G5 (j:Value) (w:World) (K:Value→World→Prop):Prop:= X3 P .len [T.i] T.e [false] [j] w fun s w=>Q3 P .sub T.e (.tmp 5) (.const (.int .i64 1)) s (.int .i64 1) w fun t w=>lp (α:=Value×Value) ((.int .i64 0),t) w fun d g u w=>Q3 P .lss T.e (.tmp 7) (.tmp 8) g.1 g.2 w fun r w=>X1 r (dr w fun f l=>Q6 f (fun b=> ∀w,l w→indexAddr P T.i j g.2 w (dk f b w)) fun b=>Q6 f (fun a=> ∀w,l w→indexAddr P T.i j g.1 w (dk f a w)) fun a=>Q6 f (fun h=> ∀c w,l w→b c w→Q2 P T.b c w (dk f h w)) fun h=>Q6 f (fun i=> ∀e w,l w→a e w→Q2 P T.b e w (dk f i w)) fun i=>∀c e k m w,l w→b c w→a e w→h k w→i m w→ indexAddr P T.i j g.1 w fun p w=>Y0 P T.b p k w fun _u w=>indexAddr P T.i j g.2 w fun q w=>Y0 P T.b q m w fun _u w=>Q3 P .add T.e (.tmp 10) (.const (.int .i64 1)) g.1 (.int .i64 1) w fun n w=>Q3 P .sub T.e (.tmp 12) (.const (.int .i64 1)) g.2 (.int .i64 1) w fun o w=>d (n,o) w) (K (.tuple #[]) w)
theorem Zm {a:Value} {w:World} {K:Value→World→Prop} (h:G5 a w K):Q1 P F.q [a] w K:=Q9 Zk Tryz.func117 rfl (by decide) (by kernel_rfl) h
def Tf:V8:=[none,none,none,none,some ([5,6],[5,6,8,9,10,11,12,13,14,15,16,17,18,19,20]),none,none,none,none,none]
def Nw (d j:Value) (w:World) (K:Value→World→Prop):Prop:= lp (α:=Value×Value) ((.slice none 0 0),j) w fun a b l w=>Q1 P F.j [d,b.2] w fun f w=>X1 f (Q1 P F.h [d,b.2] w fun e w=>buildSlice P T.i 1 [(0,e)] w fun g w=>X3 P .append [T.i,T.i] T.i [false,false] [b.1,g] w fun c w=>Q1 P F.h [d,b.2] w fun i w=>G1 P T.b i 1 w fun h w=>a (c,h) w) (Q1 P F.q [b.1] w fun k w=>K b.1 w)
theorem Ap {a b:Value} {w:World} {K:Value→World→Prop} (h:Nw a b w K):Q1 P F.aQ [a,b] w K:=Q9 Tf Tryz.func70 rfl (by decide) (by kernel_rfl) h
def Ga:V8:=[none,none,none,none,some ([5,12],[5,7,12,13,14,15,16,17,18,19,20]),none,none,none,none,none]
def Wy (m n:Value) (w:World) (K:Value→World→Prop):Prop:= Q1 P F.aQ [m,n] w fun c w=>X3 P .len [T.i] T.e [false] [c] w fun k w=>lp (α:=Value×Value) ((.slice none 0 0),(.int .i64 0)) w fun b d o w=>Q3 P .lss T.e (.tmp 12) (.tmp 11) d.2 k w fun h w=>X1 h (indexAddr P T.i c d.2 w fun j w=>Q2 P T.b j w fun l w=>W0 P T.b w fun a w=>Y0 P T.b a l w fun _u w=>fieldAddr P T.b a 6 w fun f w=>Q2 P T.k f w fun g w=>X3 P .append [T.k,T.k] T.k [false,false] [d.1,g] w fun i w=>Q3 P .add T.e (.tmp 12) (.const (.int .i64 1)) d.2 (.int .i64 1) w fun e w=>b (i,e) w) (K d.1 w)
theorem Gb {a b:Value} {w:World} {K:Value→World→Prop} (h:Wy a b w K):Q1 P F.a3 [a,b] w K:=Q9 Ga Tryz.func36 rfl (by decide) (by kernel_rfl) h
def Vg (c d:Value) (w:World) (K:Value→World→Prop):Prop:= box P T.n c w fun a w=>fieldAddr P T.n a 0 w fun e w=>Q2 P T.c e w fun f w=>Q2 P T.c d w fun g w=>Q3 P .eql T.c (.tmp 5) (.tmp 6) f g w fun b w=>K b w
theorem Bj {a b:Value} {w:World} {K:Value→World→Prop} (h:Vg a b w K):Q1 P F.cf [a,b] w K:=Q9 (List.replicate 2 none) Tryz.func141 rfl (by decide) (by kernel_rfl) h
def Nd (e f d:Value) (w:World) (K:Value→World→Prop):Prop:= box P T.c d w fun a w=>Q1 P F.a3 [e,f] w fun g w=>E8 P (.func F.cf) [] [a] w fun b w=>Q1 P F.i [g,b] w fun c w=>K c w
theorem Ii {b c a:Value} {w:World} {K:Value→World→Prop} (h:Nd b c a w K):Q1 P F.bm [b,c,a] w K:=Q9 (List.replicate 2 none) Tryz.func89 rfl (by decide) (by kernel_rfl) h
def Qs (c d:Value) (w:World) (K:Value→World→Prop):Prop:= nilCheck P c w fun a w=>indexAddr P T.ab a d w fun b w=>Q2 P T.u b w fun e w=>K e w
theorem Nu {a b:Value} {w:World} {K:Value→World→Prop} (h:Qs a b w K):Q1 P F.av [a,b] w K:=Q9 (List.replicate 2 none) Tryz.func187 rfl (by decide) (by kernel_rfl) h
def Rw:V8:=[none,some ([0],[0,5,6,7,8,9,10,11,12,13,14,15,16,17,18,19,20]),some ([0],[0,5,6,7,8,9,10,11,12,13,14,15,16,17,18,19,20]),none,none,none,none,none]
def Jp (l o:Value) (w:World) (K:Value→World→Prop):Prop:= jn (α:=Value) w (fun k w=>lp (α:=Value) l w fun a b m w=>X3 P .len [T.c] T.e [false] [b] w fun q w=>Q3 P .gtr T.e (.tmp 6) (.const (.int .i64 0)) q (.int .i64 0) w fun n w=>X1 n (X3 P .len [T.c] T.e [false] [b] w fun d w=>Q3 P .sub T.e (.tmp 11) (.const (.int .i64 1)) d (.int .i64 1) w fun c w=>S6 P T.c b c w fun g w=>Q1 P F.av [o,g] w fun e w=>J7 P .not e w fun f w=>X1 f (k b w) (X3 P .len [T.c] T.e [false] [b] w fun i w=>Q3 P .sub T.e (.tmp 18) (.const (.int .i64 1)) i (.int .i64 1) w fun j w=>R2 P T.c b none (some j) none w fun h w=>a h w)) (k b w)) fun p m w=>K p w
theorem Rp {a b:Value} {w:World} {K:Value→World→Prop} (h:Jp a b w K):Q1 P F.am [a,b] w K:=Q9 Rw Tryz.func158 rfl (by decide) (by kernel_rfl) h
end Go.Proofs.YtjdiakhipmggjaaGreatDoor

set_option maxRecDepth 100000
namespace Go.Proofs.YtjdiakhipmggjaaGreatDoor
open Go.Emb
def Oh (d c:Value) (w:World) (K:Value→World→Prop):Prop:= Q3 P .eql T.c (.tmp 7) (.const (.string ⟨#[]⟩)) d (.string ⟨#[]⟩) w fun l w=>Q0 l false w (fun w J=>J c w) fun r w=>Q0 l false w (Q3 P .eql T.c (.tmp 10) (.const (.string ⟨#[]⟩)) r (.string ⟨#[]⟩)) fun h w=>pick P l (.bool true) h w fun f w=>X1 f (K d w) (X3 P .len [T.c] T.e [false] [c] w fun i w=>Q3 P .eql T.e (.tmp 15) (.const (.int .i64 1)) i (.int .i64 1) w fun b w=>Q0 b true w (fun w J=>J c w) fun m w=>Q0 b true w (S6 P T.c m (.int .i64 0)) fun n w=>Q0 b true w (Q3 P .lss T.a3 (.tmp 19) (.const (.int .u8 128)) n (.int .u8 128)) fun k w=>pick P b k (.bool false) w fun j w=>X1 j (S6 P T.c c (.int .i64 0) w fun p w=>Q1 P F.cR [d,p] w fun t w=>K t w) (Q1 P F.cg [c] w fun e w=>ext P e 0 w fun g w=>ext P e 1 w fun o w=>W0 P T.ab w fun a w=>Y0 P T.ab a g w fun _u w=>X1 o (Q1 P F.am [d,a] w fun q w=>K q w) (Q1 P F.cO [d,c] w fun s w=>K s w)))
theorem Ai {a b:Value} {w:World} {K:Value→World→Prop} (h:Oh a b w K):Q1 P F.bH [a,b] w K:=Q9 (List.replicate 12 none) Tryz.func116 rfl (by decide) (by kernel_rfl) h
def Oo (m f:Value) (w:World) (K:Value→World→Prop):Prop:= Q3 P .eql T.c (.tmp 6) (.const (.string ⟨#[110,117,108,108]⟩)) f (.string ⟨#[110,117,108,108]⟩) w fun l w=>X1 l (K (.bool true) w) (Q1 P F.bH [f,(.string ⟨#[91,93]⟩)] w fun k w=>Q1 P F.a0 [f] w fun a w=>Q0 a true w (fun w J=>J k w) fun j w=>Q0 a true w (Q1 P F.aL [j]) fun i w=>Q0 a true w (fun w J=>J i w) fun b w=>Q0 b false w (fun w J=>J m w) fun g w=>Q0 b false w (fun w J=>J k w) fun d w=>Q0 b false w (Q1 P F.j [g,d]) fun e w=>Q0 a true w (pick P b (.bool true) e) fun h w=>pick P a h (.bool false) w fun c w=>K c w)
theorem Tu {a b:Value} {w:World} {K:Value→World→Prop} (h:Oo a b w K):Q1 P F.s [a,b] w K:=Q9 (List.replicate 6 none) Tryz.func69 rfl (by decide) (by kernel_rfl) h
def Jo (c f:Value) (w:World) (K:Value→World→Prop):Prop:= Q3 P .neq T.c (.tmp 4) (.const (.string ⟨#[110,117,108,108]⟩)) c (.string ⟨#[110,117,108,108]⟩) w fun a w=>Q0 a true w (Q2 P T.r f) fun d w=>Q0 a true w (fun w J=>J c w) fun e w=>Q0 a true w (Q1 P F.s [d,e]) fun g w=>pick P a g (.bool false) w fun b w=>K b w
theorem Rk {a b:Value} {w:World} {K:Value→World→Prop} (h:Jo a b w K):Q1 P F.aj [a,b] w K:=Q9 (List.replicate 2 none) Tryz.func90 rfl (by decide) (by kernel_rfl) h
def Jq (b c:Value) (w:World) (K:Value→World→Prop):Prop:= Q2 P T.a4 c w fun d w=>Z3 P d [b] w fun e w=>J7 P .not e w fun a w=>K a w
theorem Sr {a b:Value} {w:World} {K:Value→World→Prop} (h:Jq a b w K):Q1 P F.ak [a,b] w K:=Q9 (List.replicate 2 none) Tryz.func91 rfl (by decide) (by kernel_rfl) h
def Q0K (s:Value) (w:World) (K:Value→World→Prop):Prop:= box P T.d s w fun b w=>dr w fun a c=>Q6 a (fun g=> ∀w,c w→fieldAddr P T.d b 1 w (dk a g w)) fun g=>Q6 a (fun e=> ∀w,c w→fieldAddr P T.d b 2 w (dk a e w)) fun e=>Q6 a (fun f=> ∀l w,c w→g l w→Q2 P T.h l w (dk a f w)) fun f=>Q6 a (fun h=> ∀j w,c w→f j w→Q1 P F.cN [j,(.string ⟨#[44]⟩)] w (dk a h w)) fun h=>Q6 a (fun d=> ∀k w,c w→h k w→Q3 P .add T.c (.const (.string ⟨#[40]⟩)) (.tmp 5) (.string ⟨#[40]⟩) k w (dk a d w)) fun d=>Q6 a (fun o=> ∀m w,c w→d m w→Q3 P .add T.c (.tmp 6) (.const (.string ⟨#[41]⟩)) m (.string ⟨#[41]⟩) w (dk a o w)) fun o=>Q6 a (fun n=> ∀i w,c w→e i w→Q2 P T.c i w (dk a n w)) fun n=>∀l i j k m q r w,c w→g l w→e i w→f j w→h k w→d m w→o q w→n r w→ Q3 P .add T.c (.tmp 7) (.tmp 9) q r w fun p w=>K p w
theorem Q5z {a:Value} {w:World} {K:Value→World→Prop} (h:Q0K a w K):Q1 P F.ce [a] w K:=Q9 (List.replicate 2 none) Tryz.func95 rfl (by decide) (by kernel_rfl) h
def Yy (Z X Y a3:Value) (w:World) (K:Value→World→Prop):Prop:= box P T.d Z w fun b w=>Q2 P T.w X w fun t9 w=>fieldAddr P T.d b 0 w fun V w=>Q2 P T.c V w fun O w=>lookup P T.w t9 O true w fun C w=>ext P C 0 w fun Q w=>ext P C 1 w fun g w=>dr w fun a d=>Q6 a (fun m=> ∀w,d w→fieldAddr P T.d b 0 w (dk a m w)) fun m=>Q6 a (fun h=> ∀w,d w→fieldAddr P T.d b 0 w (dk a h w)) fun h=>Q6 a (fun u=> ∀w,d w→fieldAddr P T.b Y 0 w (dk a u w)) fun u=>Q6 a (fun e=> ∀w,d w→Q2 P T.w X w (dk a e w)) fun e=>Q6 a (fun j=> ∀q w,d w→m q w→Q2 P T.c q w (dk a j w)) fun j=>Q6 a (fun A=> ∀w,d w→Q2 P T.w a3 w (dk a A w)) fun A=>Q6 a (fun B=> ∀r w,d w→h r w→Q2 P T.c r w (dk a B w)) fun B=>Q6 a (fun i=> ∀w,d w→Q2 P T.d b w (dk a i w)) fun i=>Q6 a (fun s=> ∀n w,d w→i n w→Q1 P F.ce [n] w (dk a s w)) fun s=>Q6 a (fun z=> ∀l w,d w→u l w→Q2 P T.c l w (dk a z w)) fun z=>Q6 a (fun k=> ∀c p w,d w→e c w→j p w→mapEntry P T.w c p w (dk a k w)) fun k=>Q6 a (fun t=> ∀y w,d w→k y w→ext P y 1 w (dk a t w)) fun t=>Q6 a (fun f=> ∀c o v w,d w→e c w→t o w→s v w→entryStore P T.w c o v w (dk a f w)) fun f=>∀q r l c p E D n v H y o N w,d w→m q w→h r w→u l w→e c w→j p w→A E w→B D w→i n w→s v w→z H w→k y w→t o w→f N w→ mapUpdate P T.w E D H w fun _u w=>Q0 g true w (fun w J=>J Q w) fun M w=>Q0 g true w (Q2 P T.d b) fun R w=>Q0 g true w (Q1 P F.ce [R]) fun L w=>Q0 g true w (Q3 P .neq T.c (.tmp 29) (.tmp 31) M L) fun W w=>pick P g W (.bool false) w fun U w=>K U w
theorem Ez {c d a b:Value} {w:World} {K:Value→World→Prop} (h:Yy c d a b w K):Q1 P F.aI [c,d,a,b] w K:=Q9 (List.replicate 4 none) Tryz.func94 rfl (by decide) (by kernel_rfl) h
def Jx (e f d:Value) (w:World) (K:Value→World→Prop):Prop:= box P T.b e w fun a w=>fieldAddr P T.b a 7 w fun g w=>Q2 P T.j g w fun h w=>E8 P (.func F.aI) [] [f,a,d] w fun b w=>Q1 P F.a [h,b] w fun c w=>K c w
theorem Sz {b c a:Value} {w:World} {K:Value→World→Prop} (h:Jx b c a w K):Q1 P F.aW [b,c,a] w K:=Q9 (List.replicate 2 none) Tryz.func92 rfl (by decide) (by kernel_rfl) h
def Q03 (c d:Value) (w:World) (K:Value→World→Prop):Prop:= box P T.d c w fun a w=>fieldAddr P T.d a 0 w fun e w=>Q2 P T.c e w fun f w=>Q2 P T.c d w fun g w=>Q3 P .eql T.c (.tmp 5) (.tmp 6) f g w fun b w=>K b w
theorem Q5r {a b:Value} {w:World} {K:Value→World→Prop} (h:Q03 a b w K):Q1 P F.cS [a,b] w K:=Q9 (List.replicate 2 none) Tryz.func179 rfl (by decide) (by kernel_rfl) h
def Q2T (m o:Value) (w:World) (K:Value→World→Prop):Prop:= box P T.b m w fun b w=>box P T.c o w fun a w=>W0 P T.d w fun d w=>fieldAddr P T.b b 7 w fun n w=>Q2 P T.j n w fun q w=>E8 P (.func F.cS) [] [a] w fun p w=>Q1 P F.g [q,p] w fun c w=>Q3 P .lss T.e (.tmp 11) (.const (.int .i64 0)) c (.int .i64 0) w fun e w=>X1 e (H1 P T.d [] w fun i w=>Y0 P T.d d i w fun _u w=>Y7 P T.d d w fun f=>K (.tuple #[f,(.bool false)]) w) (fieldAddr P T.b b 7 w fun g w=>Q2 P T.j g w fun h w=>indexAddr P T.j h c w fun j w=>Q2 P T.d j w fun k w=>Q1 P F.c6 [k] w fun l w=>Y0 P T.d d l w fun _u w=>Y7 P T.d d w fun f=>K (.tuple #[f,(.bool true)]) w)
theorem Q82 {a b:Value} {w:World} {K:Value→World→Prop} (h:Q2T a b w K):Q1 P F.cA [a,b] w K:=Q9 (List.replicate 6 none) Tryz.func144 rfl (by decide) (by kernel_rfl) h
def Ti:V8:=[none,none,none,some ([19],[6,8,10,11,12,13,14,15,19,20,21,22,23,24,25,26,27,28,29,30,31,32,33,34,35,36,37,38,39,40,41,42,43,44,45,46,47]),none,none,none,none,none,none,none,none,none,none,none,none]
def Ob (s M L:Value) (w:World) (K:Value→World→Prop):Prop:= box P T.b M w fun d w=>W0 P T.d w fun i w=>fieldAddr P T.b d 2 w fun E w=>Q2 P T.h E w fun m w=>X3 P .len [T.h] T.e [false] [m] w fun B w=>lp (α:=Value) (.int .i64 0) w fun c q N w=>Q3 P .lss T.e (.tmp 19) (.tmp 18) q B w fun A w=>X1 A (indexAddr P T.h m q w fun y w=>Q2 P T.c y w fun h w=>Q1 P F.h [s,h] w fun z w=>Q1 P F.cA [z,L] w fun n w=>ext P n 0 w fun u w=>ext P n 1 w fun J w=>W0 P T.d w fun a w=>Y0 P T.d a u w fun _u w=>X1 J (dr w fun l o=>Q6 l (fun f=> ∀w,o w→Q2 P T.d a w (dk l f w)) fun f=>∀p w,o w→f p w→ Y0 P T.d i p w fun _u w=>Y7 P T.d i w fun k=>K (.tuple #[h,k,(.bool true)]) w) (Q1 P F.h [s,h] w fun D w=>Q1 P F.aS [s,D,L] w fun g w=>ext P g 0 w fun v w=>ext P g 1 w fun r w=>ext P g 2 w fun t w=>W0 P T.d w fun b w=>Y0 P T.d b r w fun _u w=>X1 t (dr w fun l o=>Q6 l (fun e=> ∀w,o w→Q2 P T.d b w (dk l e w)) fun e=>∀j w,o w→e j w→ Y0 P T.d i j w fun _u w=>Y7 P T.d i w fun k=>K (.tuple #[v,k,(.bool true)]) w) (Q3 P .add T.e (.tmp 19) (.const (.int .i64 1)) q (.int .i64 1) w fun H w=>c H w))) (H1 P T.d [] w fun C w=>Y0 P T.d i C w fun _u w=>Y7 P T.d i w fun k=>K (.tuple #[(.string ⟨#[]⟩),k,(.bool false)]) w)
theorem Tg {b c a:Value} {w:World} {K:Value→World→Prop} (h:Ob b c a w K):Q1 P F.aS [b,c,a] w K:=Q9 Ti Tryz.func145 rfl (by decide) (by kernel_rfl) h
def Fc:V8:=[none,none,none,none,none,some ([26],[6,8,11,12,13,26,27,28,29,30,31,32,33,34,35,36,37,38,39,40]),none,none,none,none,none,none,none,none,none,some ([43],[6,8,15,16,17,18,43,44,45,46,47,48,49,50,51,52,53,54,55,56,57,58]),none,none,none,none,none,none,none,none]
def Lm (Z a1 Y:Value) (w:World) (K:Value→World→Prop):Prop:= W0 P T.d w fun q w=>Q1 P F.aQ [Z,a1] w fun e w=>Q1 P F.q [e] w fun ab w=>X3 P .len [T.i] T.e [false] [e] w fun X w=>lp (α:=Value) (.int .i64 0) w fun g Q d_ w=>Q3 P .lss T.e (.tmp 26) (.tmp 25) Q X w fun N w=>X1 N (indexAddr P T.i e Q w fun L w=>Q2 P T.b L w fun D w=>W0 P T.b w fun a w=>Y0 P T.b a D w fun _u w=>Q2 P T.b a w fun C w=>Q1 P F.cA [C,Y] w fun t w=>ext P t 0 w fun M w=>ext P t 1 w fun E w=>W0 P T.d w fun d w=>Y0 P T.d d M w fun _u w=>X1 E (dr w fun h o=>Q6 h (fun i=> ∀w,o w→fieldAddr P T.b a 0 w (dk h i w)) fun i=>Q6 h (fun k=> ∀j w,o w→i j w→Q2 P T.c j w (dk h k w)) fun k=>Q6 h (fun m=> ∀w,o w→Q2 P T.d d w (dk h m w)) fun m=>∀j s u w,o w→i j w→k s w→m u w→ Y0 P T.d q u w fun _u w=>Y7 P T.d q w fun r=>K (.tuple #[s,r,(.bool true)]) w) (Q3 P .add T.e (.tmp 26) (.const (.int .i64 1)) Q (.int .i64 1) w fun O w=>g O w)) (X3 P .len [T.i] T.e [false] [e] w fun y w=>lp (α:=Value) (.int .i64 0) w fun f l d_ w=>Q3 P .lss T.e (.tmp 43) (.tmp 42) l y w fun V w=>X1 V (indexAddr P T.i e l w fun W w=>Q2 P T.b W w fun z w=>W0 P T.b w fun b w=>Y0 P T.b b z w fun _u w=>Q2 P T.b b w fun U w=>Q1 P F.aS [Z,U,Y] w fun p w=>ext P p 0 w fun B w=>ext P p 1 w fun H w=>ext P p 2 w fun J w=>W0 P T.d w fun c w=>Y0 P T.d c H w fun _u w=>X1 J (dr w fun h o=>Q6 h (fun n=> ∀w,o w→Q2 P T.d c w (dk h n w)) fun n=>∀v w,o w→n v w→ Y0 P T.d q v w fun _u w=>Y7 P T.d q w fun r=>K (.tuple #[B,r,(.bool true)]) w) (Q3 P .add T.e (.tmp 43) (.const (.int .i64 1)) l (.int .i64 1) w fun A w=>f A w)) (H1 P T.d [] w fun R w=>Y0 P T.d q R w fun _u w=>Y7 P T.d q w fun r=>K (.tuple #[(.string ⟨#[]⟩),r,(.bool false)]) w))
theorem Fx {b c a:Value} {w:World} {K:Value→World→Prop} (h:Lm b c a w K):Q1 P F.bd [b,c,a] w K:=Q9 Fc Tryz.func96 rfl (by decide) (by kernel_rfl) h
def Bs:V8:=[none,none,none,some ([21],[4,6,21,22,23,24,25,26,27,28,29,30,31,32]),none,none,none,none,none,none,none,none,none,some ([37],[4,9,37,38,39,40,41,42,43,44,45,46]),none,none,none,none,none,none,none,none,some ([50],[4,11,50,51,52,53,54,55,56,57,58,59,60,61,62,63,64,65,66,67,68,69,70]),none,none,none,none,none,none,none,none,none,none,none,none,none,none,none,some ([],[4,14,15,16,17,82,83,84,85,86,87,88,89,90,91,92,93,94,95,96,97,98,99,100]),none,none,none,none,none,none,none]
def Vm (a0 a1:Value) (w:World) (K:Value→World→Prop):Prop:= box P T.r a0 w fun u w=>box P T.b a1 w fun j w=>fieldAddr P T.b j 6 w fun bb w=>Q2 P T.k bb w fun s w=>X3 P .len [T.k] T.e [false] [s] w fun W w=>lp (α:=Value) (.int .i64 0) w fun g z J w=>Q3 P .lss T.e (.tmp 21) (.tmp 20) z W w fun bn w=>X1 bn (indexAddr P T.k s z w fun O w=>Q2 P T.n O w fun ai w=>W0 P T.n w fun t6 w=>Y0 P T.n t6 ai w fun _u w=>Q2 P T.r u w fun B w=>fieldAddr P T.b j 1 w fun U w=>Q2 P T.c U w fun bg w=>fieldAddr P T.n t6 0 w fun be w=>Q2 P T.c be w fun a6 w=>Q1 P F.bm [B,bg,a6] w fun ab w=>Q3 P .geq T.e (.tmp 30) (.const (.int .i64 0)) ab (.int .i64 0) w fun a4 w=>X1 a4 (K (.int .i64 64) w) (Q3 P .add T.e (.tmp 21) (.const (.int .i64 1)) z (.int .i64 1) w fun aw w=>g aw w)) (E8 P (.func F.aj) [] [u] w fun bj w=>W0 P T.a4 w fun v w=>Y0 P T.a4 v bj w fun _u w=>fieldAddr P T.b j 6 w fun ad w=>Q2 P T.k ad w fun o w=>X3 P .len [T.k] T.e [false] [o] w fun ar w=>lp (α:=Value) (.int .i64 0) w fun d m J w=>Q3 P .lss T.e (.tmp 37) (.tmp 36) m ar w fun X w=>X1 X (indexAddr P T.k o m w fun am w=>Q2 P T.n am w fun bh w=>W0 P T.n w fun t9 w=>Y0 P T.n t9 bh w fun _u w=>Q2 P T.a4 v w fun a7 w=>fieldAddr P T.n t9 1 w fun A w=>Q2 P T.c A w fun a3 w=>Z3 P a7 [a3] w fun ap w=>J7 P .not ap w fun av w=>X1 av (K (.int .i64 65) w) (Q3 P .add T.e (.tmp 37) (.const (.int .i64 1)) m (.int .i64 1) w fun ax w=>d ax w)) (fieldAddr P T.b j 7 w fun aa w=>Q2 P T.j aa w fun r w=>X3 P .len [T.j] T.e [false] [r] w fun bk w=>lp (α:=Value) (.int .i64 0) w fun a k J w=>Q3 P .lss T.e (.tmp 50) (.tmp 49) k bk w fun bi w=>X1 bi (indexAddr P T.j r k w fun D w=>Q2 P T.d D w fun bc w=>W0 P T.d w fun f w=>Y0 P T.d f bc w fun _u w=>Q2 P T.a4 v w fun bd w=>fieldAddr P T.d f 2 w fun Q w=>Q2 P T.c Q w fun R w=>Z3 P bd [R] w fun bl w=>J7 P .not bl w fun e w=>Q0 e true w (fieldAddr P T.d f 2) fun a5 w=>Q0 e true w (Q2 P T.c a5) fun Y w=>Q0 e true w (Q3 P .neq T.c (.tmp 61) (.const (.string ⟨#[]⟩)) Y (.string ⟨#[]⟩)) fun ag w=>pick P e ag (.bool false) w fun c w=>Q0 c false w (fieldAddr P T.d f 1) fun al w=>Q0 c false w (Q2 P T.h al) fun a9 w=>Q0 c false w (E8 P (.func F.ak) [] [v]) fun ba w=>Q0 c false w (Q1 P F.c [a9,ba]) fun ay w=>pick P c (.bool true) ay w fun a2 w=>X1 a2 (K (.int .i64 65) w) (Q3 P .add T.e (.tmp 50) (.const (.int .i64 1)) k (.int .i64 1) w fun ao w=>a ao w)) (Ib P T.w none w fun aj w=>Ib P T.w none w fun L w=>W0 P T.w w fun q w=>W0 P T.w w fun i w=>Y0 P T.w q aj w fun _u w=>Y0 P T.w i L w fun _u w=>Q2 P T.r u w fun af w=>fieldAddr P T.b j 0 w fun V w=>Q2 P T.c V w fun N w=>E8 P (.func F.aW) [] [q,i] w fun Z w=>Q1 P F.x [af,N,Z] w fun bf w=>X1 bf (K (.int .i64 66) w) (fieldAddr P T.b j 4 w fun C w=>Q2 P T.u C w fun az w=>X1 az (K (.int .i64 0) w) (Q2 P T.w i w fun an w=>rng P T.w an w fun n w=>lp (α:=Unit) () w fun b br J w=>W3 P n false T.x w fun E w=>ext P E 0 w fun ah w=>X1 ah (Q7t P n w fun y w=>ext P y 0 w fun ak w=>Q2 P T.r u w fun ae w=>fieldAddr P T.b j 0 w fun a8 w=>Q2 P T.c a8 w fun ac w=>Q1 P F.bd [ae,ac,ak] w fun l w=>ext P l 0 w fun bs w=>ext P l 1 w fun M w=>ext P l 2 w fun H w=>W0 P T.d w fun t w=>Y0 P T.d t M w fun _u w=>J7 P .not H w fun h w=>Q0 h false w (fieldAddr P T.d t 3) fun aq w=>Q0 h false w (Q2 P T.u aq) fun bm w=>pick P h (.bool true) bm w fun p w=>X1 p (K (.int .i64 67) w) (b () w)) (K (.int .i64 0) w))))))
theorem Bl {a b:Value} {w:World} {K:Value→World→Prop} (h:Vm a b w K):Q1 P F.b5 [a,b] w K:=Q9 Bs Tryz.func49 rfl (by decide) (by kernel_rfl) h
def Q7Q:V8:=[none,none,none,none,none,some ([30],[2,3,4,7,8,9,30,31,32,33,34,35,36,37,38,39,40,41,42,43,44,45,46,47,48,49,50,51,52]),none,none,none,none,none,none,none,none,none,none,some ([58],[2,3,4,10,11,58,59,60,61,62,63,64,65,66,67,68,69,70,71,72,73,74,75,76,77]),none,none,none,none,none,none,none,none,none,some ([85],[2,3,4,12,13,14,85,86,87,88,89,90,91,92,93,94,95,96,97]),none,none,none,none,none,none,none,none,none,none,none,none,none,some ([114],[2,3,4,17,18,114,115,116,117,118,119,120,121,122,123,124,125,126,127,128,129,130,131,132,133]),none,none,none,none,none,none,none,none]
def Q2G (a0:Value) (w:World) (K:Value→World→Prop):Prop:= Q1 P F.cD [] w fun bq w=>Ib P T.a2 none w fun a5 w=>H1 P T.z [(0,bq),(1,a5)] w fun bm w=>box P T.z bm w fun a w=>nilCheck P a w fun bb w=>fieldAddr P T.z bb 0 w fun b0 w=>Q2 P T.i b0 w fun a3 w=>X3 P .len [T.i] T.e [false] [a3] w fun g w=>X3 P .len [T.i] T.e [false] [a0] w fun bj w=>lp (α:=Value) (.int .i64 0) w fun v x5 d_ w=>Q3 P .lss T.e (.tmp 30) (.tmp 29) x5 bj w fun bi w=>X1 bi (indexAddr P T.i a0 x5 w fun bv w=>Q2 P T.b bv w fun a9 w=>W0 P T.b w fun t8 w=>Y0 P T.b t8 a9 w fun _u w=>Q2 P T.b t8 w fun a2 w=>Q1 P F.cw [a2] w fun ac w=>Q3 P .neq T.y (.tmp 37) (.const (.int .i64 0)) ac (.int .i64 0) w fun a6 w=>X1 a6 (K (.tuple #[(.pointer none),x5,ac]) w) (dr w fun b c=>Q6 b (fun n=> ∀w,c w→nilCheck P a w (dk b n w)) fun n=>Q6 b (fun z=> ∀u w,c w→n u w→fieldAddr P T.z u 0 w (dk b z w)) fun z=>Q6 b (fun L=> ∀s w,c w→z s w→Q2 P T.i s w (dk b L w)) fun L=>Q6 b (fun l=> ∀w,c w→Q2 P T.b t8 w (dk b l w)) fun l=>Q6 b (fun o=> ∀t w,c w→l t w→Q1 P F.cx [t] w (dk b o w)) fun o=>Q6 b (fun E=> ∀m w,c w→o m w→buildSlice P T.i 1 [(0,m)] w (dk b E w)) fun E=>∀u s ad t m aj w,c w→n u w→z s w→L ad w→l t w→o m w→E aj w→ X3 P .append [T.i,T.i] T.i [false,false] [ad,aj] w fun bw w=>nilCheck P a w fun a4 w=>fieldAddr P T.z a4 0 w fun bu w=>Y0 P T.i bu bw w fun _u w=>Q3 P .add T.e (.tmp 30) (.const (.int .i64 1)) x5 (.int .i64 1) w fun aw w=>v aw w)) (nilCheck P a w fun br w=>fieldAddr P T.z br 0 w fun az w=>Q2 P T.i az w fun U w=>X3 P .len [T.i] T.e [false] [U] w fun bx w=>lp (α:=Value) (.int .i64 0) w fun d e d_ w=>Q3 P .lss T.e (.tmp 58) (.tmp 57) e bx w fun bc w=>X1 bc (indexAddr P T.i U e w fun a7 w=>Q2 P T.b a7 w fun ba w=>W0 P T.b w fun M w=>Y0 P T.b M ba w fun _u w=>fieldAddr P T.b M 0 w fun bo w=>Q2 P T.c bo w fun bd w=>Q1 P F.j [a,bd] w fun bl w=>X1 bl (Q3 P .sub T.e (.tmp 67) (.tmp 68) e g w fun bh w=>K (.tuple #[(.pointer none),bh,(.int .i64 60)]) w) (dr w fun b c=>Q6 b (fun q=> ∀w,c w→nilCheck P a w (dk b q w)) fun q=>Q6 b (fun j=> ∀p w,c w→q p w→fieldAddr P T.z p 1 w (dk b j w)) fun j=>Q6 b (fun r=> ∀w,c w→fieldAddr P T.b M 0 w (dk b r w)) fun r=>Q6 b (fun N=> ∀i w,c w→j i w→Q2 P T.a2 i w (dk b N w)) fun N=>Q6 b (fun H=> ∀k w,c w→r k w→Q2 P T.c k w (dk b H w)) fun H=>∀p i k Y Q w,c w→q p w→j i w→r k w→N Y w→H Q w→ mapUpdate P T.a2 Y Q e w fun _u w=>Q3 P .add T.e (.tmp 58) (.const (.int .i64 1)) e (.int .i64 1) w fun bs w=>d bs w)) (nilCheck P a w fun bg w=>fieldAddr P T.z bg 0 w fun bf w=>Q2 P T.i bf w fun av w=>R2 P T.i av (some g) none none w fun Z w=>X3 P .len [T.i] T.e [false] [Z] w fun ar w=>lp (α:=Value) (.int .i64 0) w fun h y d_ w=>Q3 P .lss T.e (.tmp 85) (.tmp 84) y ar w fun bp w=>X1 bp (indexAddr P T.i Z y w fun bk w=>Q2 P T.b bk w fun a8 w=>W0 P T.b w fun V w=>Y0 P T.b V a8 w fun _u w=>Q2 P T.b V w fun be w=>Q1 P F.bb [a,be] w fun R w=>Q3 P .neq T.y (.tmp 93) (.const (.int .i64 0)) R (.int .i64 0) w fun ax w=>X1 ax (K (.tuple #[(.pointer none),y,R]) w) (Q3 P .add T.e (.tmp 85) (.const (.int .i64 1)) y (.int .i64 1) w fun a1 w=>h a1 w)) (nilCheck P a w fun bz w=>fieldAddr P T.z bz 0 w fun ag w=>Q2 P T.i ag w fun W w=>R2 P T.i W (some g) none none w fun ah w=>E8 P (.func F.bj) [a] [] w fun ae w=>Q1 P F.o [ah,ae] w fun C w=>Q3 P .geq T.e (.tmp 107) (.const (.int .i64 0)) C (.int .i64 0) w fun aa w=>X1 aa (K (.tuple #[(.pointer none),C,(.int .i64 63)]) w) (Q1 P F.bk [a,g] w fun B w=>X3 P .len [T.a7] T.e [false] [B] w fun al w=>lp (α:=Value) (.int .i64 0) w fun f J d_ w=>Q3 P .lss T.e (.tmp 114) (.tmp 113) J al w fun ab w=>X1 ab (indexAddr P T.a7 B J w fun ao w=>Q2 P T.e ao w fun D w=>nilCheck P a w fun ai w=>fieldAddr P T.z ai 0 w fun ak w=>Q2 P T.i ak w fun O w=>indexAddr P T.i O D w fun an w=>Q2 P T.b an w fun X w=>Q1 P F.b5 [a,X] w fun A w=>Q3 P .neq T.y (.tmp 127) (.const (.int .i64 0)) A (.int .i64 0) w fun am w=>X1 am (Q3 P .sub T.e (.tmp 129) (.tmp 130) D g w fun ap w=>K (.tuple #[(.pointer none),ap,A]) w) (Q3 P .add T.e (.tmp 114) (.const (.int .i64 1)) J (.int .i64 1) w fun af w=>f af w)) (K (.tuple #[a,(.int .i64 0),(.int .i64 0)]) w)))))
theorem Q8c {a:Value} {w:World} {K:Value→World→Prop} (h:Q2G a w K):Q1 P F.cL [a] w K:=Q9 Q7Q Tryz.func12 rfl (by decide) (by kernel_rfl) h
def Vf (w:World) (K:Value→World→Prop):Prop:= H1 P T.v [(0,(.string ⟨#[105,110,116]⟩)),(1,(.int .i64 1))] w fun r w=>H1 P T.v [(0,(.string ⟨#[114,101,116,117,114,110]⟩))] w fun s w=>buildSlice P T.q 2 [(0,r),(1,s)] w fun p w=>H1 P T.n [(0,(.string ⟨#[120]⟩)),(1,(.string ⟨#[105,110,116]⟩))] w fun q w=>H1 P T.n [(0,(.string ⟨#[110,101,120,116]⟩)),(1,(.string ⟨#[65]⟩))] w fun t w=>buildSlice P T.k 2 [(0,q),(1,t)] w fun n w=>buildSlice P T.h 2 [(0,(.string ⟨#[105,110,116]⟩)),(1,(.string ⟨#[65]⟩))] w fun o w=>H1 P T.d [(0,(.string ⟨#[102]⟩)),(1,o),(2,(.string ⟨#[105,110,116]⟩)),(4,(.int .i64 3)),(5,p)] w fun l w=>H1 P T.v [(0,(.string ⟨#[114,101,116,117,114,110]⟩))] w fun b w=>buildSlice P T.q 1 [(0,b)] w fun a w=>H1 P T.d [(0,(.string ⟨#[103]⟩)),(4,(.int .i64 1)),(5,a)] w fun f w=>buildSlice P T.j 2 [(0,l),(1,f)] w fun c w=>H1 P T.b [(0,(.string ⟨#[65]⟩)),(1,(.string ⟨#[79,98,106,101,99,116]⟩)),(6,n),(7,c)] w fun d w=>buildSlice P T.h 1 [(0,(.string ⟨#[73]⟩))] w fun j w=>H1 P T.n [(0,(.string ⟨#[108]⟩)),(1,(.string ⟨#[65,91,93]⟩))] w fun h w=>buildSlice P T.k 1 [(0,h)] w fun i w=>H1 P T.b [(0,(.string ⟨#[66]⟩)),(1,(.string ⟨#[65]⟩)),(2,j),(6,i)] w fun k w=>H1 P T.b [(0,(.string ⟨#[73]⟩)),(1,(.string ⟨#[79,98,106,101,99,116]⟩)),(3,(.bool true)),(4,(.bool true))] w fun g w=>H1 P T.b [(0,(.string ⟨#[68]⟩)),(1,(.string ⟨#[79,98,106,101,99,116]⟩)),(4,(.bool true))] w fun e w=>buildSlice P T.i 4 [(0,d),(1,k),(2,g),(3,e)] w fun m w=>K m w
theorem Bp {w:World} {K:Value→World→Prop} (h:Vf w K):Q1 P F.aw [] w K:=Q9 (List.replicate 3 none) Tryz.func13 rfl (by decide) (by kernel_rfl) h
def Hc (b:Value) (w:World) (K:Value→World→Prop):Prop:= nilCheck P b w fun c w=>fieldAddr P T.p c 3 w fun d w=>Q2 P T.g d w fun e w=>X3 P .len [T.g] T.e [false] [e] w fun a w=>K a w
theorem Q1I {a:Value} {w:World} {K:Value→World→Prop} (h:Hc a w K):Q1 P F.b3 [a] w K:=Q9 (List.replicate 2 none) Tryz.func17 rfl (by decide) (by kernel_rfl) h
def Ec (o:Value) (w:World) (K:Value→World→Prop):Prop:= dr w fun a c=>Q6 a (fun k=> ∀w,c w→nilCheck P o w (dk a k w)) fun k=>Q6 a (fun g=> ∀h w,c w→k h w→fieldAddr P T.p h 1 w (dk a g w)) fun g=>Q6 a (fun f=> ∀w,c w→nilCheck P o w (dk a f w)) fun f=>Q6 a (fun l=> ∀e w,c w→f e w→fieldAddr P T.p e 2 w (dk a l w)) fun l=>Q6 a (fun m=> ∀i w,c w→g i w→Q2 P T.e i w (dk a m w)) fun m=>Q6 a (fun b=> ∀j w,c w→l j w→Q2 P T.e j w (dk a b w)) fun b=>∀h i e j p d w,c w→k h w→g i w→f e w→l j w→m p w→b d w→ Q3 P .sub T.e (.tmp 6) (.tmp 10) p d w fun n w=>K n w
theorem Q04 {a:Value} {w:World} {K:Value→World→Prop} (h:Ec a w K):Q1 P F.v [a] w K:=Q9 (List.replicate 2 none) Tryz.func18 rfl (by decide) (by kernel_rfl) h
def Hj (j h:Value) (w:World) (K:Value→World→Prop):Prop:= Q3 P .geq T.e (.tmp 5) (.const (.int .i64 0)) h (.int .i64 0) w fun a w=>Q0 a true w (fun w J=>J h w) fun i w=>Q0 a true w (fun w J=>J j w) fun k w=>Q0 a true w (nilCheck P k) fun b w=>Q0 a true w (fieldAddr P T.p b 3) fun d w=>Q0 a true w (Q2 P T.g d) fun e w=>Q0 a true w (X3 P .len [T.g] T.e [false] [e]) fun g w=>Q0 a true w (Q3 P .lss T.e (.tmp 8) (.tmp 13) i g) fun c w=>pick P a c (.bool false) w fun f w=>K f w
theorem Q1E {a b:Value} {w:World} {K:Value→World→Prop} (h:Hj a b w K):Q1 P F.aD [a,b] w K:=Q9 (List.replicate 2 none) Tryz.func51 rfl (by decide) (by kernel_rfl) h
def Dv (g h:Value) (w:World) (K:Value→World→Prop):Prop:= Q1 P F.aD [g,h] w fun i w=>J7 P .not i w fun j w=>X1 j (K (.string ⟨#[]⟩) w) (nilCheck P g w fun a w=>fieldAddr P T.p a 3 w fun d w=>Q2 P T.g d w fun e w=>indexAddr P T.g e h w fun c w=>fieldAddr P T.o c 0 w fun f w=>Q2 P T.c f w fun b w=>K b w)
theorem Q0h {a b:Value} {w:World} {K:Value→World→Prop} (h:Dv a b w K):Q1 P F.ax [a,b] w K:=Q9 (List.replicate 5 none) Tryz.func20 rfl (by decide) (by kernel_rfl) h
def Dt (h i:Value) (w:World) (K:Value→World→Prop):Prop:= Q1 P F.aD [h,i] w fun j w=>J7 P .not j w fun k w=>X1 k (K (.int .i64 0) w) (nilCheck P h w fun b w=>fieldAddr P T.p b 3 w fun e w=>Q2 P T.g e w fun f w=>indexAddr P T.g f i w fun d w=>fieldAddr P T.o d 1 w fun g w=>Q2 P T.l g w fun c w=>X3 P .len [T.l] T.e [false] [c] w fun a w=>K a w)
theorem Q0N {a b:Value} {w:World} {K:Value→World→Prop} (h:Dt a b w K):Q1 P F.aX [a,b] w K:=Q9 (List.replicate 5 none) Tryz.func21 rfl (by decide) (by kernel_rfl) h
def Zo:V8:=[none,none,none,some ([8],[4,5,8,9,10,11,12,13,14,15,16,17,18]),none,none,none,none,none,none,none]
def G3 (g i:Value) (w:World) (K:Value→World→Prop):Prop:= X3 P .len [T.g] T.e [false] [g] w fun h w=>lp (α:=Value) (.int .i64 0) w fun a b k w=>Q3 P .lss T.e (.tmp 8) (.tmp 7) b h w fun j w=>X1 j (indexAddr P T.g g b w fun e w=>Q2 P T.o e w fun f w=>Z3 P i [f] w fun d w=>X1 d (K b w) (Q3 P .add T.e (.tmp 8) (.const (.int .i64 1)) b (.int .i64 1) w fun c w=>a c w)) (K (.int .i64 (-1)) w)
theorem Zp {a b:Value} {w:World} {K:Value→World→Prop} (h:G3 a b w K):Q1 P F.a9 [a,b] w K:=Q9 Zo Tryz.func98 rfl (by decide) (by kernel_rfl) h
def B7 (c d:Value) (w:World) (K:Value→World→Prop):Prop:= Q1 P F.a9 [c,d] w fun a w=>Q3 P .geq T.e (.tmp 7) (.const (.int .i64 0)) a (.int .i64 0) w fun b w=>K b w
theorem Xv {a b:Value} {w:World} {K:Value→World→Prop} (h:B7 a b w K):Q1 P F.n [a,b] w K:=Q9 (List.replicate 2 none) Tryz.func53 rfl (by decide) (by kernel_rfl) h
def St (O U:Value) (w:World) (K:Value→World→Prop):Prop:= box P T.f U w fun a w=>Q2 P T.f a w fun R w=>H1 P T.f [] w fun Q w=>Q3 P .eql T.f (.tmp 6) (.tmp 7) R Q w fun V w=>X1 V (K (.string ⟨#[110,117,108,108]⟩) w) (Q2 P T.f a w fun E w=>fieldAddr P T.f a 1 w fun l w=>Q2 P T.a1 l w fun f w=>H1 P T.f [(0,(.int .i64 1)),(1,f)] w fun p w=>Q3 P .eql T.f (.tmp 10) (.tmp 13) E p w fun m w=>X1 m (K (.string ⟨#[105,110,116]⟩) w) (Q2 P T.f a w fun y w=>fieldAddr P T.f a 1 w fun s w=>Q2 P T.a1 s w fun t w=>Q3 P .and T.a1 (.tmp 18) (.const (.int .i64 1)) t (.int .i64 1) w fun z w=>H1 P T.f [(0,(.int .i64 2)),(1,z)] w fun q w=>Q3 P .eql T.f (.tmp 16) (.tmp 20) y q w fun n w=>X1 n (K (.string ⟨#[98,111,111,108]⟩) w) (Q2 P T.f a w fun k w=>fieldAddr P T.f a 2 w fun D w=>Q2 P T.c D w fun M w=>H1 P T.f [(0,(.int .i64 3)),(2,M)] w fun o w=>Q3 P .eql T.f (.tmp 23) (.tmp 26) k o w fun b w=>Q0 b true w (fieldAddr P T.f a 2) fun i w=>Q0 b true w (Q2 P T.c i) fun B w=>Q0 b true w (X3 P .len [T.c] T.e [false] [B]) fun h w=>Q0 b true w (Q3 P .leq T.e (.tmp 31) (.const (.int .i64 4096)) h (.int .i64 4096)) fun N w=>pick P b N (.bool false) w fun c w=>Q0 c true w (fieldAddr P T.f a 2) fun r w=>Q0 c true w (Q2 P T.c r) fun L w=>Q0 c true w (Q1 P F.aZ [L]) fun H w=>pick P c H (.bool false) w fun v w=>X1 v (K (.string ⟨#[116,101,120,116]⟩) w) (Q2 P T.f a w fun C w=>fieldAddr P T.f a 3 w fun j w=>Q2 P T.e j w fun d w=>H1 P T.f [(0,(.int .i64 4)),(3,d)] w fun g w=>Q3 P .eql T.f (.tmp 40) (.tmp 43) C g w fun J w=>X1 J (fieldAddr P T.f a 3 w fun e w=>Q2 P T.e e w fun A w=>Q1 P F.ax [O,A] w fun u w=>K u w) (K (.string ⟨#[]⟩) w)))))
theorem Q2m {a b:Value} {w:World} {K:Value→World→Prop} (h:St a b w K):Q1 P F.cc [a,b] w K:=Q9 (List.replicate 13 none) Tryz.func31 rfl (by decide) (by kernel_rfl) h
def Uy (a f:Value) (w:World) (K:Value→World→Prop):Prop:= Q1 P F.ab [a,f] w fun g w=>J7 P .not g w fun h w=>X1 h (K (.tuple #[a,(.bool false)]) w) (X3 P .len [T.c] T.e [false] [a] w fun e w=>X3 P .len [T.c] T.e [false] [f] w fun d w=>Q3 P .sub T.e (.tmp 13) (.tmp 15) e d w fun c w=>R2 P T.c a none (some c) none w fun b w=>K (.tuple #[b,(.bool true)]) w)
theorem Cj {a b:Value} {w:World} {K:Value→World→Prop} (h:Uy a b w K):Q1 P F.cd [a,b] w K:=Q9 (List.replicate 5 none) Tryz.func180 rfl (by decide) (by kernel_rfl) h
def Nz (c d:Value) (w:World) (K:Value→World→Prop):Prop:= Q1 P F.cd [c,d] w fun b w=>ext P b 0 w fun e w=>ext P b 1 w fun a w=>K (.tuple #[e,a]) w
theorem Ar {a b:Value} {w:World} {K:Value→World→Prop} (h:Nz a b w K):Q1 P F.bI [a,b] w K:=Q9 (List.replicate 2 none) Tryz.func146 rfl (by decide) (by kernel_rfl) h
def Q2c (g:Value) (w:World) (K:Value→World→Prop):Prop:= Q1 P F.bI [g,(.string ⟨#[91,93]⟩)] w fun f w=>ext P f 0 w fun h w=>ext P f 1 w fun i w=>J7 P .not i w fun a w=>Q0 a false w (fun w J=>J g w) fun e w=>Q0 a false w (Q1 P F.a0 [e]) fun c w=>Q0 a false w (J7 P .not c) fun d w=>pick P a (.bool true) d w fun b w=>X1 b (K (.string ⟨#[]⟩) w) (K h w)
theorem Q6h {a:Value} {w:World} {K:Value→World→Prop} (h:Q2c a w K):Q1 P F.c3 [a] w K:=Q9 (List.replicate 6 none) Tryz.func97 rfl (by decide) (by kernel_rfl) h
def Ni (c d:Value) (w:World) (K:Value→World→Prop):Prop:= box P T.b c w fun a w=>fieldAddr P T.b a 0 w fun e w=>Q2 P T.c e w fun f w=>Q2 P T.c d w fun g w=>Q3 P .eql T.c (.tmp 5) (.tmp 6) f g w fun b w=>K b w
theorem Ic {a b:Value} {w:World} {K:Value→World→Prop} (h:Ni a b w K):Q1 P F.bp [a,b] w K:=Q9 (List.replicate 2 none) Tryz.func110 rfl (by decide) (by kernel_rfl) h
def Ej (e d z:Value) (w:World) (K:Value→World→Prop):Prop:= box P T.c z w fun a w=>Q1 P F.s [e,d] w fun u w=>J7 P .not u w fun b w=>Q0 b false w (fun w J=>J e w) fun k w=>Q0 b false w (Q2 P T.c a) fun h w=>Q0 b false w (Q1 P F.s [k,h]) fun i w=>Q0 b false w (J7 P .not i) fun p w=>pick P b (.bool true) p w fun n w=>X1 n (K (.bool false) w) (Q2 P T.c a w fun m w=>Q3 P .eql T.c (.tmp 19) (.tmp 20) d m w fun j w=>X1 j (K (.bool true) w) (Q1 P F.aL [d] w fun c w=>Q0 c false w (Q2 P T.c a) fun o w=>Q0 c false w (Q1 P F.aL [o]) fun s w=>pick P c (.bool true) s w fun q w=>X1 q (K (.bool false) w) (Q3 P .eql T.c (.tmp 30) (.const (.string ⟨#[110,117,108,108]⟩)) d (.string ⟨#[110,117,108,108]⟩) w fun f w=>X1 f (K (.bool true) w) (Q1 P F.c3 [d] w fun r w=>Q3 P .neq T.c (.tmp 34) (.const (.string ⟨#[]⟩)) r (.string ⟨#[]⟩) w fun l w=>X1 l (Q2 P T.c a w fun y w=>Q3 P .eql T.c (.tmp 36) (.const (.string ⟨#[79,98,106,101,99,116]⟩)) y (.string ⟨#[79,98,106,101,99,116]⟩) w fun v w=>K v w) (E8 P (.func F.bp) [] [a] w fun t w=>Q1 P F.x [e,d,t] w fun g w=>K g w)))))
theorem Q14 {b c a:Value} {w:World} {K:Value→World→Prop} (h:Ej b c a w K):Q1 P F.bQ [b,c,a] w K:=Q9 (List.replicate 13 none) Tryz.func62 rfl (by decide) (by kernel_rfl) h
def Dx (l n m:Value) (w:World) (K:Value→World→Prop):Prop:= box P T.f n w fun b w=>Q2 P T.f b w fun o w=>Q1 P F.cc [l,o] w fun c w=>Q3 P .neq T.c (.tmp 11) (.const (.string ⟨#[]⟩)) c (.string ⟨#[]⟩) w fun a w=>Q0 a true w (fun w J=>J l w) fun i w=>Q0 a true w (nilCheck P i) fun j w=>Q0 a true w (fieldAddr P T.p j 0) fun g w=>Q0 a true w (Q2 P T.r g) fun e w=>Q0 a true w (fun w J=>J c w) fun f w=>Q0 a true w (fun w J=>J m w) fun h w=>Q0 a true w (Q1 P F.bQ [e,f,h]) fun d w=>pick P a d (.bool false) w fun k w=>K k w
theorem Q01 {b c a:Value} {w:World} {K:Value→World→Prop} (h:Dx b c a w K):Q1 P F.ay [b,c,a] w K:=Q9 (List.replicate 3 none) Tryz.func27 rfl (by decide) (by kernel_rfl) h
def Ek (u v t:Value) (w:World) (K:Value→World→Prop):Prop:= box P T.o v w fun a w=>fieldAddr P T.o a 0 w fun z w=>Q2 P T.c z w fun y w=>Q1 P F.c3 [y] w fun n w=>Q3 P .neq T.c (.tmp 11) (.const (.string ⟨#[]⟩)) n (.string ⟨#[]⟩) w fun o w=>X1 o (K n w) (dr w fun b k=>Q6 b (fun c=> ∀w,k w→nilCheck P u w (dk b c w)) fun c=>Q6 b (fun f=> ∀e w,k w→c e w→fieldAddr P T.p e 0 w (dk b f w)) fun f=>Q6 b (fun d=> ∀w,k w→fieldAddr P T.o a 0 w (dk b d w)) fun d=>Q6 b (fun j=> ∀h w,k w→f h w→Q2 P T.r h w (dk b j w)) fun j=>Q6 b (fun i=> ∀g w,k w→d g w→Q2 P T.c g w (dk b i w)) fun i=>∀e h g l m w,k w→c e w→f h w→d g w→j l w→i m w→ Q1 P F.a3 [l,m] w fun q w=>indexAddr P T.k q t w fun s w=>fieldAddr P T.n s 1 w fun p w=>Q2 P T.c p w fun r w=>K r w)
theorem Q0Y {b c a:Value} {w:World} {K:Value→World→Prop} (h:Ek b c a w K):Q1 P F.az [b,c,a] w K:=Q9 (List.replicate 6 none) Tryz.func52 rfl (by decide) (by kernel_rfl) h
def Vj (g h:Value) (w:World) (K:Value→World→Prop):Prop:= Q1 P F.j [g,h] w fun a w=>Q0 a true w (fun w J=>J g w) fun i w=>Q0 a true w (fun w J=>J h w) fun b w=>Q0 a true w (Q1 P F.h [i,b]) fun c w=>Q0 a true w (G1 P T.b c 4) fun d w=>Q0 a true w (J7 P .not d) fun f w=>pick P a f (.bool false) w fun e w=>K e w
theorem Bi {a b:Value} {w:World} {K:Value→World→Prop} (h:Vj a b w K):Q1 P F.aA [a,b] w K:=Q9 (List.replicate 2 none) Tryz.func66 rfl (by decide) (by kernel_rfl) h
end Go.Proofs.YtjdiakhipmggjaaGreatDoor
