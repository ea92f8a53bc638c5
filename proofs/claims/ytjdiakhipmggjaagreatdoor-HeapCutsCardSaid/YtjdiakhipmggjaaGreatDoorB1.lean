/- Parts of a proof about the given program: its functions as texts of their own, what each computes, plain laws of that. The conditions of each stand in its statement. -/
import Derived.WalkKit
import Derived.Test.YtjdiakhipmggjaaGreatDoorProg
import Derived.KernelRfl
set_option linter.unnecessarySimpa false
set_option linter.defProp false
set_option linter.unusedSectionVars false
set_option linter.unusedVariables false
set_option linter.unusedSimpArgs false
namespace Go.Emb
def P8 (P:Program) (s:Sem Next) (w:World) (K:Value→World→Prop):Prop:=
 match s.run P w with
 | .ok (.value v) w'=>K v w'
 | .ok .skip w'=>K undef w'
 | .ok (.enter f a) w'=>Calls P f a w' fun e b=>match e with | .returned v=>K v b | _=>False
 | .ok (.row row a) w'=>Rows P row a w' K
 | _=>False
theorem X19: ∃f:Program→Sem Next→World→(Value→World→Prop)→Prop,f=P8:=⟨_,rfl⟩
noncomputable def op:Program→Sem Next→World→(Value→World→Prop)→Prop:=Classical.choose X19
theorem T7:op=P8:=Classical.choose_spec X19
theorem X3O {P:Program} {o:Oper} {a:Act} {w:World} {next:Act→World→Prop} {Q:Exit→Act→World→Prop}
 (h:op P (execOp a.eval o) w (fun v w=>next (a.put o.dst v) w)):o.wp P a w next Q:=by
 unfold Oper.wp
 rw[T7] at h
 unfold P8 at h
 cases c:(execOp a.eval o).run P w with
 | halt x w'=>rw[c] at h;exact h.elim
 | ok n w'=>
  rw[c] at h
  cases n<;>simp only at h<;>try exact h.elim
  ·exact h
  ·exact h
  ·refine Calls.mono h fun e d b=>?_
   cases e<;>first | exact b | exact b.elim
  ·exact h
theorem Rl {P:Program} {s:Sem Next} {K d:Value→World→Prop} {w:World} (a: ∀v w,K v w→d v w) (h:op P s w K):op P s w d:=by
 rw[T7] at*
 unfold P8 at*
 cases c:s.run P w with
 | halt x w'=>rw[c] at h;exact h.elim
 | ok n w'=>
  rw[c] at h
  cases n<;>simp only at h⊢ <;>try exact h.elim
  ·exact a _ _ h
  ·exact a _ _ h
  ·refine Calls.mono h fun e f b=>?_
   cases e<;>first | exact a _ _ b | exact b.elim
  ·exact h.mono a
def sv (s:Sem Value):Sem Next:=do Pure.pure (.value (←s))
def su (s:Sem Unit):Sem Next:=do s;Pure.pure .skip
section
variable (P : Program)
noncomputable def pick (c a b:Value) (w:World) (K:Value→World→Prop):Prop:=op P (do Pure.pure (.value (if←asBool c then a else b))) w K
noncomputable def W0 (e:TypeId) (w:World) (K:Value→World→Prop):Prop:=op P (sv (Instr.alloc e true (.tuple #[]))) w K
noncomputable def box (e:TypeId) (x:Value) (w:World) (K:Value→World→Prop):Prop:=op P (sv (Instr.box e x)) w K
noncomputable def H1 (t:TypeId) (a:List (Nat×Value)) (w:World) (K:Value→World→Prop):Prop:=op P (sv (Instr.build t a.toArray)) w K
noncomputable def buildSlice (t:TypeId) (n:Nat) (a:List (Nat×Value)) (w:World) (K:Value→World→Prop):Prop:=op P (sv (Instr.buildSlice t n a.toArray)) w K
noncomputable def Q2 (t:TypeId) (a:Value) (w:World) (K:Value→World→Prop):Prop:=op P (sv (Instr.loadAt t a)) w K
noncomputable def Y1 (t:TypeId) (a x:Value) (w:World) (K:Value→World→Prop):Prop:=op P (su (Instr.storeAt t a x)) w K
noncomputable def nilCheck (x:Value) (w:World) (K:Value→World→Prop):Prop:=op P (execOp (fun _=>x) {dst:=none,op:= .nilCheck (.const x),type:=0,pos:= "",after:= #[],guard:=none}) w K
noncomputable def Q3 (o:BinOp) (t:TypeId) (b a:Operand) (x y:Value) (w:World) (K:Value→World→Prop):Prop:=op P (sv (do eqGuard o t b a x y;Go.binOp o t x y)) w K
noncomputable def J8 (o:UnOp) (x:Value) (w:World) (K:Value→World→Prop):Prop:=op P (sv (Op.unary o x)) w K
noncomputable def conv (s d:TypeId) (x:Value) (w:World) (K:Value→World→Prop):Prop:=op P (sv (Go.convert s d x)) w K
noncomputable def X1F (t:TypeId) (x:Value) (w:World) (K:Value→World→Prop):Prop:=op P (sv (Instr.makeInterface t x)) w K
noncomputable def H3 (f:Fn) (first caps:List Value) (w:World) (K:Value→World→Prop):Prop:=op P (sv (Instr.makeFunc f first.toArray caps.toArray)) w K
noncomputable def Ko (t:TypeId) (r:Option Value) (w:World) (K:Value→World→Prop):Prop:=op P (sv (Instr.makeMap t r)) w K
noncomputable def Lg (t:TypeId) (n c:Value) (w:World) (K:Value→World→Prop):Prop:=op P (sv (Instr.makeSlice t n c)) w K
noncomputable def S1 (t:TypeId) (x:Value) (a c b:Option Value) (w:World) (K:Value→World→Prop):Prop:=op P (sv (Instr.sliceAt t x a c b)) w K
noncomputable def fieldAddr (t:TypeId) (x:Value) (f:Nat) (w:World) (K:Value→World→Prop):Prop:=op P (sv (Instr.fieldAt t x f)) w K
noncomputable def F5 (t:TypeId) (x:Value) (f:Nat) (w:World) (K:Value→World→Prop):Prop:=op P (sv (Instr.field t x f)) w K
noncomputable def indexAddr (t:TypeId) (x i:Value) (w:World) (K:Value→World→Prop):Prop:=op P (sv (Instr.indexAt t x i)) w K
noncomputable def C4 (t:TypeId) (x i:Value) (w:World) (K:Value→World→Prop):Prop:=op P (sv (Instr.index t x i)) w K
noncomputable def lookup (t:TypeId) (x i:Value) (ok:Bool) (w:World) (K:Value→World→Prop):Prop:=op P (sv (Instr.lookup t x i ok)) w K
noncomputable def mapUpdate (t:TypeId) (m k x:Value) (w:World) (K:Value→World→Prop):Prop:=op P (su (Instr.mapUpdate t m k x)) w K
noncomputable def mapEntry (t:TypeId) (m k:Value) (w:World) (K:Value→World→Prop):Prop:=op P (sv (Instr.mapEntry t m k)) w K
noncomputable def entryStore (t:TypeId) (m s x:Value) (w:World) (K:Value→World→Prop):Prop:=op P (su (Instr.entryStore t m s x)) w K
noncomputable def rng (t:TypeId) (x:Value) (w:World) (K:Value→World→Prop):Prop:=op P (sv (Instr.range t x)) w K
noncomputable def W4 (b:Value) (a:Bool) (t:TypeId) (w:World) (K:Value→World→Prop):Prop:=op P (sv (Instr.next b a t)) w K
noncomputable def Q8q (a:Value) (w:World) (K:Value→World→Prop):Prop:=op P (sv (Instr.entry a)) w K
noncomputable def pnc (x:Value) (w:World) (K:Value→World→Prop):Prop:=op P (sv (Instr.panic x)) w K
noncomputable def ext (x:Value) (i:Nat) (w:World) (K:Value→World→Prop):Prop:=op P (sv (Instr.extract x i)) w K
noncomputable def X2 (b:Builtin) (a:List TypeId) (t:TypeId) (cs:List Bool) (xs:List Value) (w:World) (K:Value→World→Prop):Prop:=op P (Go.builtin b a.toArray t cs.toArray xs.toArray) w K
noncomputable def Q1 (f:FuncId) (xs:List Value) (w:World) (K:Value→World→Prop):Prop:=op P (callFunc f xs.toArray) w K
noncomputable def Z3 (f:Value) (xs:List Value) (w:World) (K:Value→World→Prop):Prop:=op P (do let d←Deferred.ofValue f xs.toArray;invoke d.target d.args) w K
end
def get (l:List Value) (t:Nat):Value:=l.getD t undef
def ev (l:List Value):Operand→Value
 | .tmp t=>get l t
 | .const v=>v
 | .global g=> .pointer (some ⟨g,0,none⟩)
 | .func f=> .func (.func f) #[] #[]
def put (l:List Value) (d:Option Tmp) (v:Value):List Value:=
 match d with
 | some d=>l.set d v
 | none=>l
def evs (l:List Value) (xs:Array Operand):List Value:=xs.toList.map (ev l)
def evp (l:List Value) (xs:Array (Nat×Operand)):List (Nat×Value):=xs.toList.map fun p=>(p.1,ev l p.2)
def evo (l:List Value) (x:Option Operand):Option Value:=match x with | some x=>some (ev l x) | none=>none
def isC:Operand→Bool | .const _=>true | _=>false
noncomputable def Dx (P:Program) (l:List Value) (o:Oper) (c:Call) (w:World) (K:Value→World→Prop):Prop:=
 match c.callee with
 | .builtin b=>X2 P b c.argTypes.toList o.type (c.args.toList.map isC) (evs l c.args) w K
 | .value (.func f)=>Q1 P f (evs l c.args) w K
 | .value f=>Z3 P (ev l f) (evs l c.args) w K
 | _=>op P (execOp (ev l) o) w K
noncomputable def L1 (P:Program) (l:List Value) (o:Oper) (w:World) (K:Value→World→Prop):Prop:=
 match o.op with
 | .move x=>K (ev l x) w
 | .assign x=>K (ev l x) w
 | .pick c a b=>pick P (ev l c) (ev l a) (ev l b) w K
 | .alloc e=>W0 P e w K
 | .box e x=>box P e (ev l x) w K
 | .build t h=>H1 P t (evp l h) w K
 | .buildSlice t n h=>buildSlice P t n (evp l h) w K
 | .load t a=>Q2 P t (ev l a) w K
 | .store t a x=>Y1 P t (ev l a) (ev l x) w K
 | .nilCheck x=>nilCheck P (ev l x) w K
 | .binOp op t x y _=>Q3 P op t x y (ev l x) (ev l y) w K
 | .unOp op _ x=>J8 P op (ev l x) w K
 | .convert s d x=>conv P s d (ev l x) w K
 | .makeInterface t x=>X1F P t (ev l x) w K
 | .makeFunc f first caps=>H3 P f (evs l first) (evs l caps) w K
 | .makeMap t r=>Ko P t (evo l r) w K
 | .makeSlice t n c=>Lg P t (ev l n) (ev l c) w K
 | .slice t x u q p=>S1 P t (ev l x) (evo l u) (evo l q) (evo l p) w K
 | .fieldAddr t x f=>fieldAddr P t (ev l x) f w K
 | .field t x f=>F5 P t (ev l x) f w K
 | .indexAddr t x i=>indexAddr P t (ev l x) (ev l i) w K
 | .index t x i=>C4 P t (ev l x) (ev l i) w K
 | .lookup t x i ok=>lookup P t (ev l x) (ev l i) ok w K
 | .mapUpdate t m k x=>mapUpdate P t (ev l m) (ev l k) (ev l x) w K
 | .insert t m k x=>mapUpdate P t (ev l m) (ev l k) (ev l x) w K
 | .mapEntry t m k=>mapEntry P t (ev l m) (ev l k) w K
 | .entryStore t m s x=>entryStore P t (ev l m) (ev l s) (ev l x) w K
 | .range t x=>rng P t (ev l x) w K
 | .next g j=>W4 P (ev l g) j o.type w K
 | .extract x i=>ext P (ev l x) i w K
 | .entry g=>Q8q P (ev l g) w K
 | .panic x=>pnc P (ev l x) w K
 | .call c=>Dx P l o c w K
 | _=>op P (execOp (ev l) o) w K
theorem Q7Q {α β:Type} (f:α→β) (a:Array α):a.map f=(a.toList.map f).toArray:=by rw[←Array.toList_map,Array.toArray_toList]
theorem X20 (l:List Value) (x:Option Operand):x.map (ev l)=evo l x:=by cases x<;>rfl
theorem Q5E {P:Program} {l:List Value} {o:Oper} {c:Call} {K g:Value→World→Prop} {w:World} (a: ∀v w,K v w→g v w) (h:Dx P l o c w K):Dx P l o c w g:=by
 obtain ⟨d,e,i⟩:=c
 cases d with
 | builtin b=>exact Rl a h
 | invoke r m=>exact Rl a h
 | value f=>cases f<;>(simp only[Dx,Z3,Q1] at h⊢;exact Rl a h)
theorem K6 {P:Program} {l:List Value} {o:Oper} {K b:Value→World→Prop} {w:World} (a: ∀v w,K v w→b v w) (h:L1 P l o w K):L1 P l o w b:=by
 obtain ⟨d,p,e,pos,c,g⟩:=o
 cases p<;>first | exact a _ _ h | exact Q5E a h | exact Rl a h | (simp only[L1] at h⊢;exact Rl a h)
theorem Q6G {P:Program} {l:List Value} {o:Oper} {K:Value→World→Prop} {w:World} (h:L1 P l o w K):op P (execOp (ev l) o) w K:=by
 unfold L1 at h
 split at h<;>rename_i a
 all_goals first
  | exact h
  | (unfold execOp;rw[a];exact h)
  | (unfold execOp;rw[a];simp only[Q7Q,X20];exact h)
  | (unfold execOp;rw[a,T7];exact h)
  | skip
 rename_i c
 unfold Dx at h
 split at h<;>rename_i b
 ·unfold execOp;rw[a];simp only[resolve,b,Q7Q]
  simp only[pure_bind,invoke]
  unfold X2 at h
  simp only[Array.toArray_toList] at h
  refine (congrArg (fun z=>op P (builtin _ c.argTypes o.type (List.toArray z) _) w K) (List.map_congr_left (fun x _=>?_))).mp h
  cases x<;>rfl
 ·unfold execOp;rw[a];simp only[resolve,b,Q7Q]
  simp only[ev,Deferred.ofValue,pure_bind,invoke]
  simpa [Q1,evs] using h
 ·unfold execOp;rw[a];simp only[resolve,b,Q7Q]
  exact h
 ·exact h
def Mg (v:Value) (b:Bool) (w:World) (a:World→(Value→World→Prop)→Prop) (J:Value→World→Prop):Prop:=
 match v with
 | .bool c=>if c=b then a w J else J undef w
 | _=>J undef w
theorem Q91: ∃f:Value→Bool→World→(World→(Value→World→Prop)→Prop)→(Value→World→Prop)→Prop,f=Mg:=⟨_,rfl⟩
noncomputable def Q0:Value→Bool→World→(World→(Value→World→Prop)→Prop)→(Value→World→Prop)→Prop:=Classical.choose Q91
theorem En:Q0=Mg:=Classical.choose_spec Q91
def Q36 (v:Value) (t e:Prop):Prop:=
 match v with
 | .bool true=>t
 | .bool false=>e
 | _=>False
theorem Q9R: ∃f:Value→Prop→Prop→Prop,f=Q36:=⟨_,rfl⟩
noncomputable def X1:Value→Prop→Prop→Prop:=Classical.choose Q9R
theorem Q64:X1=Q36:=Classical.choose_spec Q9R
noncomputable def Z6 (P:Program) (ops:List Oper) (next:List Value→World→Prop):List Oper→List Value→World→Prop
 | [],l,w=>next l w
 | o::a,l,w=>
  match o.guard with
  | none=>L1 P l o w (fun v w=>Z6 P ops next a (put l o.dst v) w)
  | some (j,b)=>match (ops[j]?).bind (·.dst) with
   | some d=>Q0 (get l d) b w (L1 P l o) (fun v w=>Z6 P ops next a (put l o.dst v) w)
   | none=>Z6 P ops next a (put l o.dst undef) w
def Tl:Nat→Type
 | 0=>Unit
 | 1=>Value
 | n+2=>Value×Tl (n+1)
def Oy (l:List Value):(a:List Nat)→Tl a.length
 | []=>()
 | [s]=>get l s
 | s::t::r=>(get l s,Oy l (t::r))
def Rb (i:Nat) (e:Value):(a:List Nat)→Tl a.length→Value
 | [],_=>e
 | [s],x=>if s=i then x else e
 | s::t::r,x=>if s=i then x.1 else Rb i e (t::r) x.2
def H6 (a b:List Nat) (x:Tl a.length) (d:Nat→Value):Nat→List Value→List Value
 | _,[]=>[]
 | i,v::l=>Rb i (if b.contains i then d i else v) a x::H6 a b x d (i+1) l
def X1h (α:Type) (x0:α) (w:World) (a:(α→World→Prop)→α→(Nat→Value)→World→Prop):Prop:=
 ∃(I:α→World→Prop) (μ:α→World→Nat),I x0 w∧ ∀x d w,I x w→a (fun b w'=>I b w'∧μ b w'<μ x w) x d w
theorem X1l: ∃f:(α:Type)→α→World→((α→World→Prop)→α→(Nat→Value)→World→Prop)→Prop,f=X1h:=⟨_,rfl⟩
noncomputable def lp {α:Type}:α→World→((α→World→Prop)→α→(Nat→Value)→World→Prop)→Prop:=Classical.choose X1l α
theorem X1q {α:Type} (x0:α) (w:World) (a:(α→World→Prop)→α→(Nat→Value)→World→Prop):lp x0 w a=X1h α x0 w a:=
 congrFun (congrFun (congrFun (congrFun (Classical.choose_spec X1l) α) x0) w) a
def X17 (α:Type) (w:World) (A:(α→World→Prop)→World→Prop) (B:α→(Nat→Value)→World→Prop):Prop:=
 ∃I:α→World→Prop,A I w∧ ∀x d w,I x w→B x d w
theorem X1g: ∃f:(α:Type)→World→((α→World→Prop)→World→Prop)→(α→(Nat→Value)→World→Prop)→Prop,f=X17:=⟨_,rfl⟩
noncomputable def jn {α:Type}:World→((α→World→Prop)→World→Prop)→(α→(Nat→Value)→World→Prop)→Prop:=Classical.choose X1g α
theorem X1j {α:Type} (w:World) (A:(α→World→Prop)→World→Prop) (B:α→(Nat→Value)→World→Prop):jn w A B=X17 α w A B:=
 congrFun (congrFun (congrFun (congrFun (Classical.choose_spec X1g) α) w) A) B
theorem Zy {α:Type} {w:World} {A:(α→World→Prop)→World→Prop} {B:α→(Nat→Value)→World→Prop} (I:α→World→Prop) (h:A I w) (a: ∀x d w,I x w→B x d w):jn w A B:=by
 rw[X1j];exact ⟨I,h,a⟩
theorem Q65 {α:Type} {w:World} {A:(α→World→Prop)→World→Prop} {B:α→(Nat→Value)→World→Prop} (h:jn w A B): ∃I:α→World→Prop,A I w∧ ∀x d w,I x w→B x d w:=by
 rw[X1j] at h;exact h
theorem Wl {α:Type} {x0:α} {w:World} {a:(α→World→Prop)→α→(Nat→Value)→World→Prop} (I:α→World→Prop) (μ:α→World→Nat) (e:I x0 w)
 (c: ∀x d w,I x w→a (fun b w'=>I b w'∧μ b w'<μ x w) x d w):lp x0 w a:=by
 rw[X1q];exact ⟨I,μ,e,c⟩
theorem Q9n {α:Type} {x0:α} {w:World} {a:(α→World→Prop)→α→(Nat→Value)→World→Prop} (h:lp x0 w a):
 ∃(I:α→World→Prop) (μ:α→World→Nat),I x0 w∧ ∀x d w,I x w→a (fun b w'=>I b w'∧μ b w'<μ x w) x d w:=by
 rw[X1q] at h;exact h
def S3 (ops:List Oper):List Nat:=ops.filterMap (·.dst)
def Qq:Code→Nat
 | .seq a b=>Qq a+Qq b+1
 | .cond _ a b=>Qq a+Qq b
 | .block _ c=>Qq c
 | .loop c=>Qq c+1
 | .scope c=>Qq c
 | _=>0
def O4 (d:List (Option (List Nat))):Nat→Code→List Nat
 | _, .region _ ops _=>S3 ops.toList
 | k, .seq a b=>(d.getD k none).getD []++(O4 d (k+1) a++O4 d (k+1+Qq a) b)
 | k, .cond _ a b=>O4 d k a++O4 d (k+Qq a) b
 | k, .block _ c=>O4 d k c
 | k, .loop c=>(d.getD k none).getD []++O4 d (k+1) c
 | k, .scope c=>O4 d k c
 | _,_=>[]
abbrev Hh:=Exit→List Value→World→Prop
def thn (next:List Value→World→Prop) (Q:Hh):Hh
 | .normal,a,w=>next a w
 | e,a,w=>Q e a w
def Q2X (id:Nat) (Q:Hh):Hh
 | .exit b,a,w=>if b=id then Q .normal a w else Q (.exit b) a w
 | e,a,w=>Q e a w
noncomputable def Ox (P:Program) (a:List (Option (List Nat))):Nat→Code→Hh→List Value→World→Prop
 | _, .skip,Q,l,w=>Q .normal l w
 | _, .label _,Q,l,w=>Q .normal l w
 | _, .exit id,Q,l,w=>Q (.exit id) l w
 | _, .ret,Q,l,w=>Q .ret l w
 | _, .region _ ops false,Q,l,w=>Z6 P ops.toList (fun l w=>Q .normal l w) ops.toList l w
 | _, .region _ ops true,Q,l,w=> ∀t,Z6 P ops.toList (fun l w=>Q .normal l w) ((Region.schedule (P.follows .mixedOrders) ops t).filterMap (ops[·]?)) l w.drew
 | k, .seq x y,Q,l,w=>match a.getD k none with
  | none=>Ox P a (k+1) x (thn (fun l w=>Ox P a (k+1+Qq x) y Q l w) Q) l w
  | some e=>jn w (fun J w=>Ox P a (k+1) x (thn (fun l' w'=>J (Oy l' e) w') Q) l w)
   (fun z d w=>Ox P a (k+1+Qq x) y Q (H6 e (O4 a (k+1) x) z d 0 l) w)
 | k, .cond c x y,Q,l,w=>X1 (ev l c) (Ox P a k x Q l w) (Ox P a (k+Qq x) y Q l w)
 | k, .block id c,Q,l,w=>Ox P a k c (Q2X id Q) l w
 | k, .loop c,Q,l,w=>
  lp (Oy l ((a.getD k none).getD [])) w (fun b x d w=>Ox P a (k+1) c (thn (fun l' w'=>b (Oy l' ((a.getD k none).getD [])) w') Q) (H6 ((a.getD k none).getD []) (O4 a (k+1) c) x d 0 l) w)
 | _,_,_,_,_=>False
theorem Q8v {ops:List Oper} {l:List Value} {o:Oper} {j:Nat} {b:Bool} (e:o.guard=some (j,b)) {d:Nat} (a:(ops[j]?).bind (·.dst)=some d):
 Region.wanted o (yielded ops.toArray l.toArray)=true↔get l d= .bool b:=by
 unfold Region.wanted yielded
 rw[e]
 simp only[List.getElem?_toArray]
 rw[a]
 simp only[Option.bind_some,get,List.getD_eq_getElem?_getD]
 have key: ∀x:Option Value,((match x with | some (.bool c)=>some c | _=>none)==some b)=true↔x.getD undef= .bool b:=by
  intro x
  cases x with
  | none=>simp[undef]
  | some v=>cases v<;>simp
 exact key _
theorem Q6C {ops:List Oper} {l:List Value} {o:Oper} {j:Nat} {b:Bool} (c:o.guard=some (j,b)) (a:(ops[j]?).bind (·.dst)=none):
 Region.wanted o (yielded ops.toArray l.toArray)=false:=by
 unfold Region.wanted yielded
 rw[c]
 simp only[List.getElem?_toArray]
 rw[a]
 rfl
theorem Lq {v:Value} {b:Bool} {a:World→(Value→World→Prop)→Prop} {J:Value→World→Prop} {w:World} (h:Q0 v b w a J):
 (v= .bool b∧a w J)∨(v≠ .bool b∧J undef w):=by
 rw[En] at h
 unfold Mg at h
 split at h
 ·split at h
  ·rename_i c;subst c;exact .inl ⟨rfl,h⟩
  ·rename_i c;exact .inr ⟨by simp[c],h⟩
 ·rename_i d;exact .inr ⟨d b,h⟩
theorem Q0p {v:Value} {b:Bool} {a:World→(Value→World→Prop)→Prop} {J:Value→World→Prop} {w:World}
 (h:(v= .bool b∧a w J)∨(v≠ .bool b∧J undef w)):Q0 v b w a J:=by
 rw[En]
 unfold Mg
 split
 ·split
  ·rename_i c;subst c
   rcases h with h | h
   ·exact h.2
   ·exact absurd rfl h.1
  ·rename_i c
   rcases h with h | h
   ·exact absurd (Value.bool.inj h.1) c
   ·exact h.2
 ·rename_i d
  rcases h with h | h
  ·exact absurd h.1 (d b)
  ·exact h.2
theorem Q3Y (a:Act):a.eval=ev a.tmps.toList:=by
 funext x
 cases x<;>simp[Act.eval,ev,get,List.getD_eq_getElem?_getD]
theorem Q7S (a:Act) (d:Option Tmp) (v:Value):(a.put d v).tmps.toList=put a.tmps.toList d v:=by
 cases d<;>simp[Act.put,put]
theorem Q83 (a:Act) (d:Option Tmp) (v:Value):(a.put d v).defers=a.defers:=by
 cases d<;>simp[Act.put]
def lift (Q:Hh):Exit→Act→World→Prop:=fun e a w=>a.defers=[]∧Q e a.tmps.toList w
theorem Q0F (P:Program) (ops:Array Oper) (Q:Exit→Act→World→Prop) (next:List Value→World→Prop)
 (u: ∀a w,a.defers=[]→next a.tmps.toList w→Q .normal a w) (is:List Nat) (s: ∀i∈is,i<ops.size):
 ∀(a:Act) (w:World),a.defers=[]→Z6 P ops.toList next (is.filterMap (ops[·]?)) a.tmps.toList w→wpOps P ops Q is a w:=by
 induction is with
 | nil=>intro a w p h;exact u a w p h
 | cons i is t=>
  intro a w p h
  have o:=s i (by simp)
  have k:ops[i]? =some ops[i]:=by simp[o]
  rw[List.filterMap_cons,k] at h
  simp only[Z6] at h
  simp only[wpOps,k]
  have q:ops.toList.toArray=ops:=by simp
  have r:a.tmps.toList.toArray=a.tmps:=by simp
  have f: ∀{v w},Z6 P ops.toList next (is.filterMap (ops[·]?)) (put a.tmps.toList ops[i].dst v) w→wpOps P ops Q is (a.put ops[i].dst v) w:=by
   intro v w e
   refine t (fun j y=>s j (by simp[y])) _ _ (by rw[Q83];exact p) ?_
   rw[Q7S];exact e
  have m:L1 P a.tmps.toList ops[i] w (fun v w=>Z6 P ops.toList next (is.filterMap (ops[·]?)) (put a.tmps.toList ops[i].dst v) w)→
   ops[i].wp P a w (wpOps P ops Q is) Q:=by
   intro h
   refine X3O ?_
   rw[Q3Y]
   exact Rl (fun v w e=>f e) (Q6G h)
  split at h
  ·rename_i n
   rw[if_pos (by simp[Region.wanted,n])]
   exact .inl (m h)
  ·rename_i j b n
   split at h
   ·rename_i d c
    have g:=Q8v (ops:=ops.toList) (l:=a.tmps.toList) n c
    rw[q,r] at g
    rcases Lq h with ⟨e,h⟩ | ⟨e,h⟩
    ·rw[if_pos (g.2 e)];exact .inl (m h)
    ·rw[if_neg (fun h=>e (g.1 h))];exact f h
   ·rename_i c
    have g:=Q6C (ops:=ops.toList) (l:=a.tmps.toList) n c
    rw[q,r] at g
    rw[if_neg (by rw[g];simp)];exact f h
theorem Av (ops:Array Oper):(List.range ops.size).filterMap (ops[·]?)=ops.toList:=by
 apply List.ext_getElem?
 intro i
 rw[←Array.length_toList]
 have: ∀l:List Oper,(List.range l.length).filterMap (l[·]?)=l:=by
  intro l
  induction l with
  | nil=>rfl
  | cons x l a=>
   rw[List.length_cons,List.range_succ_eq_map,List.filterMap_cons]
   simp only[List.getElem?_cons_zero,List.filterMap_map]
   congr 1
 have h:=this ops.toList
 simp only[Array.getElem?_toList] at h
 rw[h]
theorem Q2c (b:Bool) (ops:Array Oper) (t:Nat): ∀i∈Region.schedule b ops t,i<ops.size:=by
 have key: ∀m c t a e,(∀i∈e,i<ops.size)→ ∀i∈Region.linearise.go m ops c t a e,i<ops.size:=by
  intro m c
  induction c with
  | zero=>intro t a e h i d;simp[Region.linearise.go] at d;exact h i d
  | succ c g=>
   intro t a e h i d
   simp only[Region.linearise.go] at d
   split at d
   ·rename_i j f
    refine g _ _ _ ?_ i d
    intro k hk
    rcases List.mem_cons.1 hk with rfl | hk
    ·have:=List.mem_of_getElem? f
     simp only[List.mem_filter,List.mem_range] at this
     exact this.1
    ·exact h k hk
   ·simp at d;exact h i d
 intro i d
 unfold Region.schedule at d
 split at d
 ·exact key _ _ _ _ _ (by simp) i d
 ·exact key _ _ _ _ _ (by simp) i d
def Qi (W:List Nat) (l l':List Value):Prop:=l'.length=l.length∧ ∀i,W.contains i=false→l'[i]? =l[i]?
theorem Qi.refl (W:List Nat) (l:List Value):Qi W l l:=⟨rfl,fun _ _=>rfl⟩
theorem Qi.trans {W:List Nat} {a b c:List Value} (h:Qi W a b) (k:Qi W b c):Qi W a c:=
 ⟨k.1.trans h.1,fun i d=>(k.2 i d).trans (h.2 i d)⟩
theorem Sn (a b:List Nat) (x:Tl a.length) (d:Nat→Value) (l:List Value): ∀i,(H6 a b x d i l).length=l.length:=by
 induction l with
 | nil=>intro i;rfl
 | cons v l c=>intro i;simp[H6,c]
theorem Bj (a b:List Nat) (x:Tl a.length) (d:Nat→Value) (l:List Value): ∀i j,(H6 a b x d i l)[j]? =(l[j]?).map fun v=>Rb (i+j) (if b.contains (i+j) then d (i+j) else v) a x:=by
 induction l with
 | nil=>intro i j;simp[H6]
 | cons v l c=>
  intro i j
  cases j with
  | zero=>simp[H6]
  | succ j=>simp only[H6,List.getElem?_cons_succ,c];rw[show i+1+j=i+(j+1) from by omega]
theorem Vz (i:Nat) (e:Value): ∀(b:List Nat) (x:Tl b.length),b.contains i=false→Rb i e b x=e
 | [],_,_=>rfl
 | [s],x,h=>by
  have a: ¬s=i:=by intro a;subst a;simp at h
  exact if_neg a
 | s::t::r,x,h=>by
  simp only[Rb]
  split
  ·rename_i a;subst a;simp at h
  ·refine Vz i e (t::r) x.2 ?_
   simp only[List.contains_cons,Bool.or_eq_false_iff] at h⊢
   exact h.2
theorem Q5o (l:List Value) (i:Nat) (e c:Value): ∀(a:List Nat),a.contains i=true→Rb i e a (Oy l a)=get l i
 | [],h=>by simp at h
 | [s],h=>by
  simp only[List.contains_cons,List.contains_nil,Bool.or_false,beq_iff_eq] at h
  subst h;simp[Rb,Oy]
 | s::t::r,h=>by
  simp only[Rb,Oy]
  split
  ·rename_i b;subst b;rfl
  ·rename_i b
   refine Q5o l i e c (t::r) ?_
   simp only[List.contains_cons,Bool.or_eq_true,beq_iff_eq] at h⊢
   rcases h with h | h
   ·exact absurd h.symm b
   ·exact h
theorem Tc (a c:List Nat) (l l':List Value) (g:l'.length=l.length)
 (h: ∀i,a.contains i=false→c.contains i=false→l'[i]? =l[i]?):l'=H6 a c (Oy l' a) (get l') 0 l:=by
 apply List.ext_getElem?
 intro i
 rw[Bj]
 simp only[Nat.zero_add]
 cases f:l[i]? with
 | none=>
  have:=List.getElem?_eq_none_iff.1 f
  simp only[Option.map_none]
  exact List.getElem?_eq_none (by omega)
 | some v=>
  have m:i<l.length:=(List.getElem?_eq_some_iff.1 f).1
  have j:l'[i]? =some (get l' i):=by
   simp only[get,List.getD_eq_getElem?_getD]
   rw[List.getElem?_eq_getElem (by omega)];rfl
  rw[j]
  simp only[Option.map_some,Option.some.injEq]
  by_cases k:a.contains i=true
  ·rw[Q5o l' i _ undef a k]
  ·have b:a.contains i=false:=by simpa using k
   rw[Vz _ _ _ _ b]
   by_cases e:c.contains i=true
   ·rw[if_pos e]
   ·have d:c.contains i=false:=by simpa using e
    rw[if_neg e]
    have:=h i b d
    rw[j,f] at this
    exact Option.some.inj this
theorem Q4m {v:Value} {t e a b:Prop} (d:t→a) (c:e→b) (h:X1 v t e):X1 v a b:=by
 rw[Q64] at*
 unfold Q36 at*
 split at h
 ·exact d h
 ·exact c h
 ·exact h.elim
theorem Ju (P:Program) (c:List Oper) (next a:List Value→World→Prop) (W:List Nat) (k:List Value): ∀(ops:List Oper) (l:List Value) (w:World),
 (∀o∈ops,∀d,o.dst=some d→W.contains d=true)→Qi W k l→(∀l w,next l w→Qi W k l→a l w)→Z6 P c next ops l w→Z6 P c a ops l w
 | [],l,w,_,j,p,h=>p l w h j
 | o::f,l,w,q,j,p,h=>by
  have g: ∀v,Qi W k (put l o.dst v):=by
   intro v
   cases u:o.dst with
   | none=>exact j
   | some d=>
    have s:=q o (by simp) d u
    refine j.trans ⟨by simp[put],fun i r=>?_⟩
    have:d≠i:=by intro e;subst e;rw[s] at r;cases r
    simp[put,this]
  have b: ∀v w,Z6 P c next f (put l o.dst v) w→Z6 P c a f (put l o.dst v) w:=fun v w t=>
   Ju P c next a W k f _ w (fun o y=>q o (by simp[y])) (g v) p t
  simp only[Z6] at h⊢
  split at h
  ·exact K6 b h
  ·split at h
   ·refine Q0p ((Lq h).imp (fun ⟨n,m⟩=>⟨n,K6 b m⟩) (fun ⟨n,m⟩=>⟨n,b _ _ m⟩))
   ·exact b _ _ h
theorem Q4h {α:Type} {x0:α} {c a:(α→World→Prop)→α→(Nat→Value)→World→Prop} {w:World}
 (i: ∀b x d w,c b x d w→a b x d w) (h:lp x0 w c):lp x0 w a:=by
 obtain ⟨I,μ,f,e⟩:=Q9n h
 exact Wl I μ f fun x d w g=>i _ _ _ _ (e x d w g)
theorem T6 {a b:List Nat} {i:Nat} (h:a.contains i=true):(a++b).contains i=true:=by simp at h⊢;exact .inl h
theorem R7 {a b:List Nat} {i:Nat} (h:b.contains i=true):(a++b).contains i=true:=by simp at h⊢;exact .inr h
theorem Q4H (P:Program) (q:List (Option (List Nat))) (c:Code): ∀(k:Nat) (Q A:Hh) (W:List Nat) (m l:List Value) (w:World),
 (∀i,(O4 q k c).contains i=true→W.contains i=true)→Qi W m l→
 (∀e l w,Q e l w→Qi W m l→A e l w)→Ox P q k c Q l w→Ox P q k c A l w:=by
 induction c with
 | skip=>intro k Q A W m l w _ g j h;exact j _ _ _ h g
 | label n=>intro k Q A W m l w _ g j h;exact j _ _ _ h g
 | exit id=>intro k Q A W m l w _ g j h;exact j _ _ _ h g
 | ret=>intro k Q A W m l w _ g j h;exact j _ _ _ h g
 | goto n=>intro k Q A W m l w _ g j h;exact h.elim
 | refuse s=>intro k Q A W m l w _ g j h;exact h.elim
 | scope c=>intro k Q A W m l w _ g j h;exact h.elim
 | rangeFunc f p a b=>intro k Q A W m l w _ g j h;exact h.elim
 | region id ops N=>
  intro k Q A W m l w B g j h
  have M: ∀o∈ops.toList,∀d,o.dst=some d→W.contains d=true:=by
   intro o R d hd
   refine B d ?_
   simp only[O4,S3,List.contains_eq_mem,List.mem_filterMap,decide_eq_true_eq]
   exact ⟨o,R,hd⟩
  cases N with
  | false=>exact Ju P _ _ _ W m _ _ _ M g (fun l w Z g=>j _ _ _ Z g) h
  | true=>
   intro t
   refine Ju P _ _ _ W m _ _ _ ?_ g (fun l w Z g=>j _ _ _ Z g) (h t)
   intro o R
   simp only[List.mem_filterMap] at R
   obtain ⟨i,_,r⟩:=R
   exact M o (by simpa using Array.mem_of_getElem? r)
 | seq x y E D=>
  intro k Q A W m l w B g j h
  have V: ∀i,(O4 q (k+1) x).contains i=true→W.contains i=true:=fun i r=>B i (R7 (T6 r))
  have hy: ∀i,(O4 q (k+1+Qq x) y).contains i=true→W.contains i=true:=fun i r=>B i (R7 (R7 r))
  simp only[Ox] at h⊢
  split at h
  ·refine E _ _ _ W m l w V g ?_ h
   intro e l' w' C u
   cases e with
   | normal=>exact D _ _ _ W m l' w' hy u j C
   | _=>exact j _ _ _ C u
  ·rename_i sl U
   obtain ⟨J,O,L⟩:=Q65 h
   refine Zy J (E _ _ _ W m l w V g ?_ O) fun z d w hz=>?_
   ·intro e l' w' C u
    cases e with
    | normal=>exact C
    | _=>exact j _ _ _ C u
   ·refine D _ _ _ W m _ w hy (g.trans ⟨Sn _ _ _ _ _ _,fun i r=>?_⟩) j (L z d w hz)
    rw[Bj]
    have O:sl.contains i=false:=by
     cases H:sl.contains i with
     | false=>rfl
     | true=>rw[B i (T6 (by rw[U];exact H))] at r;cases r
    have L:(O4 q (k+1) x).contains i=false:=by
     cases H:(O4 q (k+1) x).contains i with
     | false=>rfl
     | true=>rw[V i H] at r;cases r
    simp only[Nat.zero_add]
    cases hl:l[i]? with
    | none=>rfl
    | some v=>simp only[Option.map_some,Vz _ _ _ _ O,L,Bool.false_eq_true,if_false]
 | cond c x y E D=>
  intro k Q A W m l w B g j h
  exact Q4m (E k _ _ W m l w (fun i r=>B i (T6 r)) g j) (D _ _ _ W m l w (fun i r=>B i (R7 r)) g j) h
 | block id c Y=>
  intro k Q A W m l w B g j h
  refine Y k _ _ W m l w B g ?_ h
  intro e l' w' C u
  cases e with
  | exit af=>simp only[Q2X] at C⊢;split<;>rename_i X<;>simp only[X,if_true,if_false] at C<;>exact j _ _ _ C u
  | _=>exact j _ _ _ C u
 | loop c Y=>
  intro k Q A W m l w B g j h
  refine Q4h (fun aa x d w hb=>?_) h
  refine Y _ _ _ W m _ _ (fun i r=>B i (R7 r)) ?_ ?_ hb
  ·refine g.trans ⟨Sn _ _ _ _ _ _,fun i r=>?_⟩
   rw[Bj]
   have O:((q.getD k none).getD []).contains i=false:=by
    cases H:((q.getD k none).getD []).contains i with
    | false=>rfl
    | true=>rw[B i (T6 H)] at r;cases r
   have L:(O4 q (k+1) c).contains i=false:=by
    cases H:(O4 q (k+1) c).contains i with
    | false=>rfl
    | true=>rw[B i (R7 H)] at r;cases r
   simp only[Nat.zero_add]
   cases hl:l[i]? with
   | none=>rfl
   | some v=>simp only[Option.map_some,Vz _ _ _ _ O,L,Bool.false_eq_true,if_false]
  ·intro e l' w' C u
   cases e with
   | normal=>exact C
   | _=>exact j _ _ _ C u
theorem Q95 (P:Program) (g:List (Option (List Nat))) (c:Code): ∀(k:Nat) (Q:Hh) (a:Act) (w:World),
 a.defers=[]→Ox P g k c Q a.tmps.toList w→c.wp P (lift Q) a w:=by
 induction c with
 | skip=>intro k Q a w j h;exact wp_skip ⟨j,h⟩
 | label n=>intro k Q a w j h;exact wp_label ⟨j,h⟩
 | exit id=>intro k Q a w j h;exact wp_exit ⟨j,h⟩
 | ret=>intro k Q a w j h;exact wp_ret ⟨j,h⟩
 | goto n=>intro k Q a w j h;exact h.elim
 | refuse s=>intro k Q a w j h;exact h.elim
 | scope c=>intro k Q a w j h;exact h.elim
 | rangeFunc f p a b=>intro k Q a w j h;exact h.elim
 | region id ops C=>
  intro k Q a w j h
  cases C with
  | false=>
   refine wp_region (Q0F P ops _ _ (fun a w j h=>⟨j,h⟩) _ (by simp) a w j ?_)
   rw[Av];exact h
  | true=>
   refine wp_region_draw fun t=>?_
   exact Q0F P ops _ _ (fun a w j h=>⟨j,h⟩) _ (Q2c _ _ _) a _ j (h t)
 | seq x y u r=>
  intro k Q a w j h
  simp only[Ox] at h
  split at h
  ·refine wp_seq (wp_mono (u _ _ a w j h) ?_)
   intro e o w' ⟨m,q⟩
   cases e with
   | normal=>exact r _ _ o w' m q
   | _=>exact ⟨m,q⟩
  ·rename_i Y ac
   obtain ⟨J,W,A⟩:=Q65 h
   have H:=Q4H P g x (k+1) _ (fun e l' w'=>thn (fun l' w'=>J (Oy l' Y) w') Q e l' w'∧Qi (O4 g (k+1) x) a.tmps.toList l') (O4 g (k+1) x) a.tmps.toList a.tmps.toList w (fun _ h=>h) (Qi.refl _ _) (fun e l w h M=>⟨h,M⟩) W
   refine wp_seq (wp_mono (u (k+1) _ a w j H) ?_)
   intro e o w' ⟨m,q,E⟩
   cases e with
   | normal=>
    refine r (k+1+Qq x) _ o w' m ?_
    rw[Tc Y (O4 g (k+1) x) a.tmps.toList o.tmps.toList E.1 (fun i _ h=>E.2 i h)]
    exact A _ _ _ q
   | _=>exact ⟨m,q⟩
 | cond c x y u r=>
  intro k Q a w j h
  simp only[Ox,Q64,Q36] at h
  split at h
  ·rename_i V
   exact wp_cond_true (by rw[Q3Y];exact V) (u _ _ _ _ j h)
  ·rename_i V
   exact wp_cond_false (by rw[Q3Y];exact V) (r _ _ _ _ j h)
  ·exact h.elim
 | block id c X=>
  intro k Q a w j h
  refine wp_block (wp_mono (X k _ a w j h) ?_)
  intro e o w' ⟨m,q⟩
  cases e with
  | exit ad=>
   simp only[Q2X,Exit.inBlock] at q⊢
   split<;>rename_i U<;>simp only[U,if_true,if_false] at q<;>exact ⟨m,q⟩
  | _=>exact ⟨m,q⟩
 | loop c X=>
  intro k Q a w j h
  obtain ⟨I,μ,Z,hr⟩:=Q9n h
  refine wp_loop (fun o w'=>o.defers=[]∧(∃d,o.tmps.toList=H6 ((g.getD k none).getD []) (O4 g (k+1) c) (Oy o.tmps.toList ((g.getD k none).getD [])) d 0 a.tmps.toList)∧I (Oy o.tmps.toList ((g.getD k none).getD [])) w') (fun o w'=>μ (Oy o.tmps.toList ((g.getD k none).getD [])) w') ⟨j,⟨get a.tmps.toList,Tc _ _ _ _ rfl (fun _ _ _=>rfl)⟩,Z⟩ ?_
  intro B w1 ⟨R,⟨d1,v⟩,L⟩
  have O:=hr _ d1 w1 L
  dsimp only at O
  rw[←v] at O
  have N:=Q4H P g c (k+1) _ (fun e l' w'=>thn (fun l' w'=>I (Oy l' ((g.getD k none).getD [])) w'∧μ (Oy l' ((g.getD k none).getD [])) w'<μ (Oy B.tmps.toList ((g.getD k none).getD [])) w1) Q e l' w'∧Qi (O4 g (k+1) c) B.tmps.toList l') (O4 g (k+1) c) B.tmps.toList B.tmps.toList w1 (fun _ h=>h) (Qi.refl _ _) (fun e l w h M=>⟨h,M⟩) O
  refine wp_mono (X _ _ B w1 R N) ?_
  intro e a2 w2 ⟨D,A,z⟩
  cases e with
  | normal=>
   refine ⟨⟨D,⟨get a2.tmps.toList,Tc _ _ _ _ ?_ ?_⟩,A.1⟩,A.2⟩
   ·rw[z.1,v,Sn]
   ·intro i W H
    rw[z.2 i H,v,Bj]
    simp only[Nat.zero_add,Vz _ _ _ _ W,H,Bool.false_eq_true,if_false,Option.map_id']
  | _=>exact ⟨D,A⟩
def Q8m:List Value→Nat→Value→(List Value→Prop)→Prop
 | [],_,_,k=>k []
 | _::l,0,v,k=>k (v::l)
 | x::l,n+1,v,k=>Q8m l n v (fun l'=>k (x::l'))
def Q3J (l:List Value) (d:Option Tmp) (v:Value) (k:List Value→Prop):Prop:=
 match d with
 | some d=>Q8m l d v k
 | none=>k l
def Q7N:List Value→Nat→(Value→Prop)→Prop
 | [],_,k=>k undef
 | x::_,0,k=>k x
 | _::l,n+1,k=>Q7N l n k
def evK (l:List Value) (o:Operand) (k:Value→Prop):Prop:=
 match o with
 | .tmp t=>Q7N l t k
 | .const v=>k v
 | .global g=>k (.pointer (some ⟨g,0,none⟩))
 | .func f=>k (.func (.func f) #[] #[])
def Q3q (i:Nat) (e:Value):(a:List Nat)→Tl a.length→(Value→Prop)→Prop
 | [],_,k=>k e
 | [s],x,k=>if s=i then k x else k e
 | s::t::r,x,k=>if s=i then k x.1 else Q3q i e (t::r) x.2 k
def Gi (a b:List Nat) (x:Tl a.length) (d:Nat→Value):Nat→List Value→(List Value→Prop)→Prop
 | _,[],k=>k []
 | i,v::l,k=>match b.contains i with
  | true=>Q3q i (d i) a x (fun u=>Gi a b x d (i+1) l (fun l'=>k (u::l')))
  | false=>Q3q i v a x (fun u=>Gi a b x d (i+1) l (fun l'=>k (u::l')))
theorem X1z (l:List Value): ∀(n:Nat) (v:Value) (k:List Value→Prop),Q8m l n v k=k (l.set n v):=by
 induction l with
 | nil=>intro n v k;rfl
 | cons x l a=>intro n v k;cases n with
  | zero=>rfl
  | succ n=>simp only[Q8m,a,List.set_cons_succ]
theorem Q79 (l:List Value) (d:Option Tmp) (v:Value) (k:List Value→Prop):Q3J l d v k=k (put l d v):=by
 cases d with
 | none=>rfl
 | some d=>exact X1z l d v k
theorem X1N (l:List Value): ∀(n:Nat) (k:Value→Prop),Q7N l n k=k (get l n):=by
 induction l with
 | nil=>intro n k;rfl
 | cons x l a=>intro n k;cases n with
  | zero=>rfl
  | succ n=>simp only[Q7N,a];rfl
theorem X34 (l:List Value) (o:Operand) (k:Value→Prop):evK l o k=k (ev l o):=by
 cases o with
 | tmp t=>exact X1N l t k
 | _=>rfl
theorem Q18 (i:Nat) (e:Value) (k:Value→Prop): ∀(a:List Nat) (x:Tl a.length),Q3q i e a x k=k (Rb i e a x)
 | [],_=>rfl
 | [s],x=>by
  by_cases h:s=i
  ·exact (if_pos h).trans (congrArg k (if_pos h).symm)
  ·exact (if_neg h).trans (congrArg k (if_neg h).symm)
 | s::t::r,x=>by
  by_cases h:s=i
  ·exact (if_pos h).trans (congrArg k (if_pos h).symm)
  ·exact ((if_neg h).trans (Q18 i e k (t::r) x.2)).trans (congrArg k (if_neg h).symm)
theorem Q4k (a b:List Nat) (x:Tl a.length) (d:Nat→Value) (l:List Value): ∀(i:Nat) (k:List Value→Prop),Gi a b x d i l k=k (H6 a b x d i l):=by
 induction l with
 | nil=>intro i k;rfl
 | cons v l c=>
  intro i k
  simp only[Gi,H6]
  split
  ·rename_i h;rw[Q18,c,if_pos h]
  ·rename_i h;rw[Q18,c,if_neg (by rw[h];simp)]
theorem Bg (b c a:List Nat) (h: ∀i,c.contains i=a.contains i) (x:Tl b.length) (d:Nat→Value) (l:List Value): ∀i,H6 b c x d i l=H6 b a x d i l:=by
 induction l with
 | nil=>intro i;rfl
 | cons v l e=>intro i;simp only[H6,e,h]
noncomputable def Qg (P:Program) (ops:List Oper) (next:List Value→World→Prop):List Oper→List Value→World→Prop
 | [],l,w=>next l w
 | o::a,l,w=>
  match o.guard with
  | none=>match o.op with
   | .move x=>evK l x fun v=>Q3J l o.dst v fun l=>Qg P ops next a l w
   | .assign x=>evK l x fun v=>Q3J l o.dst v fun l=>Qg P ops next a l w
   | _=>L1 P l o w (fun v w=>Q3J l o.dst v fun l=>Qg P ops next a l w)
  | some (j,b)=>match (ops[j]?).bind (·.dst) with
   | some d=>Q0 (get l d) b w (L1 P l o) (fun v w=>Q3J l o.dst v fun l=>Qg P ops next a l w)
   | none=>Q3J l o.dst undef fun l=>Qg P ops next a l w
theorem Po (P:Program) (ops:List Oper) (next:List Value→World→Prop) (os:List Oper): ∀(l:List Value) (w:World),Qg P ops next os l w=Z6 P ops next os l w:=by
 induction os with
 | nil=>intro l w;rfl
 | cons o a c=>
  intro l w
  obtain ⟨dst,p,e,pos,d,g⟩:=o
  cases g with
  | none=>cases p<;>simp only[Qg,Z6,Q79,X34,c,L1]
  | some q=>obtain ⟨j,b⟩:=q;simp only[Qg,Z6,Q79,c]
def Su (T:World→World→Prop) (φ:Value→World→Prop):Prop:= ∀v w w',φ v w→T w w'→φ v w'
def dk (T:World→World→Prop) (φ:Value→World→Prop) (w:World):Value→World→Prop:=fun v w'=>T w w'∧φ v w'
def Q5y (T:World→World→Prop) (A:(Value→World→Prop)→Prop) (a:(Value→World→Prop)→Prop):Prop:=
 ∃φ,Su T φ∧A φ∧a φ
theorem Q9d: ∃f:(World→World→Prop)→((Value→World→Prop)→Prop)→((Value→World→Prop)→Prop)→Prop,f=Q5y:=⟨_,rfl⟩
noncomputable def Q5:(World→World→Prop)→((Value→World→Prop)→Prop)→((Value→World→Prop)→Prop)→Prop:=Classical.choose Q9d
theorem X01:Q5=Q5y:=Classical.choose_spec Q9d
def Q8f (w:World) (A:(World→World→Prop)→(World→Prop)→Prop):Prop:= ∃T B,B w.drew∧(∀w w',B w→T w w'→B w')∧A T B
theorem X1v: ∃f:World→((World→World→Prop)→(World→Prop)→Prop)→Prop,f=Q8f:=⟨_,rfl⟩
noncomputable def dr:World→((World→World→Prop)→(World→Prop)→Prop)→Prop:=Classical.choose X1v
theorem X1e:dr=Q8f:=Classical.choose_spec X1v
theorem Kf {w:World} {A:(World→World→Prop)→(World→Prop)→Prop} (T:World→World→Prop) (B:World→Prop) (h:B w.drew) (b: ∀w w',B w→T w w'→B w') (a:A T B):dr w A:=by
 rw[X1e];exact ⟨T,B,h,b,a⟩
theorem H4 {T:World→World→Prop} {A a:(Value→World→Prop)→Prop} (φ:Value→World→Prop) (c:Su T φ) (h:A φ) (b:a φ):Q5 T A a:=by
 rw[X01];exact ⟨φ,c,h,b⟩
def Q3Q (T:World→World→Prop) (A a:(List Value→Value→World→Prop)→Prop):Prop:=
 ∃φ,(∀xs,Su T (φ xs))∧A φ∧a φ
theorem Q7n: ∃f:(World→World→Prop)→((List Value→Value→World→Prop)→Prop)→((List Value→Value→World→Prop)→Prop)→Prop,f=Q3Q:=⟨_,rfl⟩
noncomputable def Ci:(World→World→Prop)→((List Value→Value→World→Prop)→Prop)→((List Value→Value→World→Prop)→Prop)→Prop:=Classical.choose Q7n
theorem Q7e:Ci=Q3Q:=Classical.choose_spec Q7n
theorem Q3U {T:World→World→Prop} {A a:(List Value→Value→World→Prop)→Prop} (φ:List Value→Value→World→Prop) (c: ∀xs,Su T (φ xs)) (h:A φ) (b:a φ):Ci T A a:=by
 rw[Q7e];exact ⟨φ,c,h,b⟩
noncomputable def runOp (P:Program) (ops:List Oper) (l:List Value) (o:Oper) (w:World) (K:Value→World→Prop):Prop:=
 match o.guard with
 | none=>L1 P l o w K
 | some (j,b)=>match (ops[j]?).bind (·.dst) with
  | some d=>Q0 (get l d) b w (L1 P l o) K
  | none=>False
inductive Ent where
  | val (v : Value)
  | ref (j : Nat)
def Ent.at (u:Nat→Value):Ent→Value
 | .val v=>v
 | .ref j=>u j
def Qd (u:Nat→Value) (S:List Ent):List Value:=S.map (Ent.at u)
def getE:List Ent→Nat→Ent
 | [],_=> .val undef
 | x::_,0=>x
 | _::l,n+1=>getE l n
def entOf (S:List Ent):Operand→Ent
 | .tmp t=>getE S t
 | .const v=> .val v
 | .global g=> .val (.pointer (some ⟨g,0,none⟩))
 | .func f=> .val (.func (.func f) #[] #[])
def mv (o:Oper):Option Operand:=
 match o.guard with
 | some _=>none
 | none=>match o.op with
  | .move x=>some x
  | .assign x=>some x
  | _=>none
def Q2B:List Ent→Nat→Ent→List Ent
 | [],_,_=>[]
 | _::l,0,e=>e::l
 | x::l,n+1,e=>x::Q2B l n e
def putE (S:List Ent) (d:Option Nat) (e:Ent):List Ent:=
 match d with
 | some d=>Q2B S d e
 | none=>S
def F0 (o:Oper):List Nat:=o.op.operands.toList.filterMap fun | .tmp t=>some t | _=>none
def R0 (ops:List Oper) (o:Oper):List Nat:=
 match o.guard with
 | none=>[]
 | some (j,_)=>match (ops[j]?).bind (·.dst) with | some d=>[d] | none=>[]
def Q1u:List Nat→List Nat
 | []=>[]
 | x::l=>x::(Q1u l).filter (fun y=> !(y==x))
def Q4X:Ent→List Nat
 | .ref j=>[j]
 | .val _=>[]
def Q1y (S:List Ent):List Nat→List Nat
 | []=>[]
 | s::l=>Q4X (getE S s)++Q1y S l
def refs (ops:List Oper) (S:List Ent) (o:Oper):List Nat:=Q1u (Q1y S (R0 ops o++F0 o))
def Im:List Nat→(Nat→Value)→((Nat→Value)→Prop)→Prop
 | [],u,k=>k u
 | j::a,u,k=> ∀t:Value,Im a (fun n=>if n=j then t else u n) k
abbrev Si:=List (Nat×List Nat×(List Value→Value→World→Prop))
def Vd:Si→Nat→Option (List Nat×(List Value→Value→World→Prop))
 | [],_=>none
 | (i,φ)::l,j=>if i=j then some φ else Vd l j
def Pl (b:Si) (u:Nat→Value) (w:World) (a:Prop):List Nat→Prop
 | []=>a
 | j::c=>match Vd b j with
  | some ([],φ)=>φ [] (u j) w→Pl b u w a c
  | _=>Pl b u w a c
def Q1s (b:Si) (u:Nat→Value) (w:World) (a:Prop):List Nat→Prop
 | []=>a
 | j::c=>match Vd b j with
  | some (R,φ)=>φ (R.map u) (u j) w→Q1s b u w a c
  | none=>Q1s b u w a c
def Q8K (o:Oper):Bool:=match o.op with | .store .. =>true | _=>false
noncomputable def chain (P:Program) (ops:List Oper) (T:World→World→Prop) (B:World→Prop) (W4:List Value→World→Prop) (tail:List Oper):Nat→List Oper→List Ent→Si→List Nat→Prop
 | _,[],S,b,done=>Im done (fun _=>undef) fun u=> ∀w,B w→Q1s b u w (Qg P ops W4 tail (Qd u S) w) done
 | i,o::a,S,b,done=>
  match mv o with
  | some x=>chain P ops T B W4 tail (i+1) a (putE S o.dst (entOf S x)) b done
  | none=>match Q8K o with
   | true=>Ci T (fun φ=>Im (refs ops S o) (fun _=>undef) fun u=> ∀w,B w→Pl b u w (runOp P ops (Qd u S) o w (dk T (φ ((refs ops S o).map u)) w)) (refs ops S o))
    (fun φ=>chain P ops T B W4 tail (i+1) a (putE S o.dst (.ref i)) (b++[(i,refs ops S o,φ)]) (done++[i]))
   | false=>Q5 T (fun φ=>Im (refs ops S o) (fun _=>undef) fun u=> ∀w,B w→Pl b u w (runOp P ops (Qd u S) o w (dk T φ w)) (refs ops S o))
    (fun φ=>chain P ops T B W4 tail (i+1) a (putE S o.dst (.ref i)) (b++[(i,[],fun _=>φ)]) (done++[i]))
def Yb:Op→Bool
 | .ready _ | .waits _ | .sliceToArrayPointer .. | .makeChan .. | .typeAssert .. | .go _ | .defer _ | .send .. | .recv .. | .select .. =>false
 | .call c=>match c.callee with | .invoke .. =>false | _=>true
 | _=>true
theorem Bm {l l':List Value} {x:Option Operand} (h: ∀y∈x.toArray,ev l y=ev l' y):evo l x=evo l' x:=by
 cases x with
 | none=>rfl
 | some y=>simp only[evo];rw[h y (by simp)]
theorem Q1j {l l':List Value} {xs:Array Operand} (h: ∀y∈xs,ev l y=ev l' y):evs l xs=evs l' xs:=by
 unfold evs;exact List.map_congr_left fun y a=>h y (by simpa using a)
theorem Q4g {l l':List Value} {xs:Array (Nat×Operand)} (h: ∀y∈(xs.toList.map (·.2)).toArray,ev l y=ev l' y):evp l xs=evp l' xs:=by
 unfold evp
 refine List.map_congr_left fun y a=>?_
 rw[h y.2 (by simp;exact ⟨y.1,by simpa using a⟩)]
theorem Dy {P:Program} {l l':List Value} {o:Oper} (q:Yb o.op=true) (h: ∀x∈o.op.operands,ev l x=ev l' x):L1 P l o=L1 P l' o:=by
 obtain ⟨d,p,C,pos,D,g⟩:=o
 funext w K
 cases p with
 | call c=>
  obtain ⟨j,i,B⟩:=c
  have k:evs l i=evs l' i:=Q1j fun y e=>h y (by simp[Op.operands,Call.operands];exact .inr e)
  cases j with
  | invoke r m=>simp[Yb] at q
  | builtin b=>simp only[L1,Dx,k]
  | value f=>
   have u:ev l f=ev l' f:=h f (by simp[Op.operands,Call.operands])
   cases f<;>simp only[L1,Dx,k,u]
 | build t v=>simp only[L1];rw[Q4g h]
 | buildSlice t n v=>simp only[L1];rw[Q4g h]
 | makeFunc f a b=>
  simp only[L1]
  rw[Q1j (xs:=a) fun y e=>h y (by simp[Op.operands];exact .inl e),Q1j (xs:=b) fun y e=>h y (by simp[Op.operands];exact .inr e)]
 | makeMap t r=>simp only[L1];rw[Bm h]
 | slice t x z A s=>
  simp only[L1]
  rw[h x (by simp[Op.operands]),Bm (x:=z) fun y e=>h y (by simp[Op.operands] at e⊢;simp[e]),Bm (x:=A) fun y e=>h y (by simp[Op.operands] at e⊢;simp[e]),Bm (x:=s) fun y e=>h y (by simp[Op.operands] at e⊢;simp[e])]
 | _=>first
  | (simp[Yb] at q;done)
  | (simp only[Op.operands,List.mem_toArray,List.mem_cons,List.not_mem_nil,or_false,forall_eq_or_imp,forall_eq] at h;simp only[L1,h];done)
  | rfl
def Q0r:List Oper→List Nat→List Nat
 | [],acc=>acc
 | o::a,acc=>Q0r a (acc++[(o.after.toList.filter (Region.binds .any)).foldl (fun s e=>s ||| 2 ^ e.on ||| acc.getD e.on 0) 0])
def Qk (a b:Oper):Bool:=
 match a.dst with
 | some d=>(F0 b).contains d||b.dst==some d
 | none=>false
def Q7q (a:List Nat) (ops:List Oper):Bool:=
 ops.zipIdx.all fun (o,j)=>ops.zipIdx.all fun (q,i)=> !(decide (i<j))|| !(Qk q o||Qk o q)||(a.getD j 0).testBit i
def Ls (ops:List Oper):Bool:=
 ops.zipIdx.all fun (o,i)=>Yb o.op&&(o.after.toList.filter (Region.binds .any)).all (fun e=>decide (e.on<i))&&
  match o.guard with | none=>true | some (j,_)=>(o.after.toList.filter (Region.binds .any)).any (fun e=>e.on==j)
def Q50 (m:Region.Mode) (ops:List Oper):List Nat→List Nat→Bool
 | [],_=>true
 | j::L,seen=>((ops[j]?.map fun o=>o.after.toList).getD []).all (fun e=> !Region.binds m e||seen.contains e.on)&&Q50 m ops L (j::seen)
def Zo (m:Region.Mode) (ops:List Oper) (L:List Nat):Bool:=
 Q50 m ops L []&&(List.range ops.length).all (L.contains ·)&&ops.all (fun o=>o.after.toList.all fun e=> !Region.binds m e||decide (e.on<ops.length))
def X2X (m:Region.Mode) (ops:List Oper):Nat→List Nat→List Nat→List Nat
 | 0,_,seen=>seen.reverse
 | n+1,a,seen=>
  match a.find? (fun j=>((ops[j]?.map fun o=>o.after.toList).getD []).all (fun e=> !Region.binds m e||seen.contains e.on)) with
  | some j=>X2X m ops n (a.erase j) (j::seen)
  | none=>seen.reverse
def Uk:List Nat→Bool
 | []=>true
 | x::l=> !l.contains x&&Uk l
def A4 (ops:List Oper) (j:Nat):List Nat:=(ops[j]?.map fun o=>(o.after.toList.filter (Region.binds .any)).map (·.on)).getD []
def Rz (ops:List Oper) (L:List Nat):Prop:= ∀a j b,L=a++j::b→ ∀i∈A4 ops j,i∈a
theorem Q5S (f:Edge→Nat) (l:List Edge): ∀(s i:Nat),(l.foldl (fun s e=>s ||| 2 ^ e.on ||| f e) s).testBit i=true→
 s.testBit i=true∨ ∃e∈l,e.on=i∨(f e).testBit i=true:=by
 induction l with
 | nil=>intro s i h;exact .inl h
 | cons e l c=>
  intro s i h
  rcases c _ _ h with h | ⟨b,a,h⟩
  ·simp only[Nat.testBit_or,Bool.or_eq_true] at h
   rcases h with (h | h) | h
   ·exact .inl h
   ·rw[Nat.testBit_two_pow] at h
    exact .inr ⟨e,by simp, .inl (by simpa using h)⟩
   ·exact .inr ⟨e,by simp, .inr h⟩
  ·exact .inr ⟨b,by simp[a],h⟩
theorem Q4y (a:List Oper): ∀(b:List Oper) (acc:List Nat),acc.length+b.length=a.length→(∀k,acc.length≤k→a[k]? =b[k-acc.length]?)→
 (∀j i,j<acc.length→(acc.getD j 0).testBit i=true→ ∃k∈A4 a j,k=i∨(k<j∧(acc.getD k 0).testBit i=true))→
 (∀j,j<a.length→ ∀k∈A4 a j,k<j)→
 ∀j i,j<a.length→((Q0r b acc).getD j 0).testBit i=true→ ∃k∈A4 a j,k=i∨(k<j∧((Q0r b acc).getD k 0).testBit i=true)
 | [],acc,q,_,c,_=>by
  intro j i t h
  exact c j i (by simp at q;omega) h
 | o::b,acc,q,g,c,n=>by
  have y:a[acc.length]? =some o:=by rw[g _ (Nat.le_refl _)];simp
  refine Q4y a b _ (by simp at q⊢;omega) ?_ ?_ n
  ·intro k l
   simp only[List.length_append,List.length_cons,List.length_nil] at l⊢
   rw[g k (by omega)]
   obtain ⟨m,z⟩: ∃m,k-acc.length=m+1:=⟨k-acc.length-1,by omega⟩
   rw[z,List.getElem?_cons_succ]
   congr 1;omega
  ·intro j i t h
   simp only[List.length_append,List.length_cons,List.length_nil] at t
   have d: ∀k,k<acc.length→(acc++[(o.after.toList.filter (Region.binds .any)).foldl (fun s e=>s ||| 2 ^ e.on ||| acc.getD e.on 0) 0]).getD k 0=acc.getD k 0:=by
    intro k l
    simp only[List.getD_eq_getElem?_getD]
    rw[List.getElem?_append_left l]
   by_cases p:j<acc.length
   ·rw[d j p] at h
    obtain ⟨k,l,h⟩:=c j i p h
    exact ⟨k,l,h.imp id fun ⟨v,u⟩=>⟨v,by rw[d k (by omega)];exact u⟩⟩
   ·have r:j=acc.length:=by omega
    subst r
    simp only[List.getD_eq_getElem?_getD,List.getElem?_append_right (Nat.le_refl _),Nat.sub_self,List.getElem?_cons_zero,Option.getD_some] at h
    rcases Q5S (fun e=>acc.getD e.on 0) _ _ _ (by simpa only[List.getD_eq_getElem?_getD] using h) with h | ⟨e,w,h⟩
    ·simp at h
    ·have f:e.on∈A4 a acc.length:=by
      unfold A4;rw[y];simp only[Option.map_some,Option.getD_some,List.mem_map];exact ⟨e,w,rfl⟩
     refine ⟨e.on,f,h.imp id fun h=>?_⟩
     have l:=n acc.length (by simp at q;omega) _ f
     exact ⟨l,by rw[d _ l];exact h⟩
theorem Ih {ops:List Oper} (h:Ls ops=true): ∀j,j<ops.length→ ∀k∈A4 ops j,k<j:=by
 intro j b k a
 simp only[Ls,List.all_eq_true,Bool.and_eq_true] at h
 unfold A4 at a
 rw[List.getElem?_eq_getElem b] at a
 simp only[Option.map_some,Option.getD_some,List.mem_map] at a
 obtain ⟨e,c,rfl⟩:=a
 have:=(h (ops[j],j) (by rw[List.mem_zipIdx_iff_getElem?];simp[b])).1.2 e c
 simpa using this
theorem Q5b {ops:List Oper} (p:Ls ops=true) {L:List Nat} (l:Rz ops L): ∀(j:Nat),j<ops.length→ ∀i b a,L=b++j::a→((Q0r ops []).getD j 0).testBit i=true→i∈b:=by
 intro j
 induction j using Nat.strongRecOn with
 | _ j o=>
  intro e i b a f g
  obtain ⟨k,n,h⟩:=Q4y ops ops [] (by simp) (by simp) (by intro j i e;simp at e) (Ih p) j i e g
  have c:=l b j a f k n
  rcases h with rfl | ⟨d,h⟩
  ·exact c
  ·obtain ⟨q,m,rfl⟩:=List.append_of_mem c
   have:=o k d (by omega) i q (m++j::a) (by rw[f];simp) h
   exact List.mem_append_left _ this
theorem Wx: ∀(n:Nat) (a:List Nat),(∀k,k<n→k∈a)→n≤a.length
 | 0,_,_=>Nat.zero_le _
 | n+1,a,h=>by
  have e:=Wx n (a.erase n) fun k b=>(List.mem_erase_of_ne (by omega)).2 (h k (by omega))
  have c:=List.length_erase_of_mem (h n (by omega))
  have d:=List.length_pos_of_mem (h n (by omega))
  omega
theorem G5: ∀(n:Nat) (l:List Nat),l.Nodup→(∀k∈l,k<n)→l.length≤n
 | 0,l,_,h=>by
  cases l with
  | nil=>simp
  | cons x l=>exact absurd (h x (by simp)) (by omega)
 | n+1,l,c,h=>by
  by_cases b:n∈l
  ·have g:=G5 n (l.erase n) (c.erase n) fun k a=>by
    have d:=h k (List.mem_of_mem_erase a)
    have f:k≠n:=fun e=>by subst e;exact (List.Nodup.not_mem_erase c) a
    omega
   have d:=List.length_erase_of_mem b
   have f:=List.length_pos_of_mem b
   omega
  ·have:=G5 n l c fun k a=>by
    have d:=h k a
    have f:k≠n:=fun e=>by subst e;exact b a
    omega
   omega
theorem Q9O {m:Region.Mode} {e:Edge} (h:Region.binds .any e=true):Region.binds m e=true:=by
 unfold Region.binds at h⊢
 cases a:e.ground<;>rw[a] at h<;>first | rfl | (exact absurd h (by simp<;>rfl)) | (simp at h;cases h)
theorem Q8p {m:Region.Mode} {ops:List Oper} {L:List Nat} (h:Zo m ops L=true) (k:Nat) (b:k<ops.length): ∀e∈(ops[k]?.map fun o=>o.after.toList).getD [],Region.binds m e=true→e.on<ops.length:=by
 intro e a c
 simp only[Zo,Bool.and_eq_true,List.all_eq_true] at h
 rw[List.getElem?_eq_getElem b] at a
 have:=h.2 ops[k] (List.getElem_mem b) e (by simpa using a)
 rw[c] at this
 simpa using this
theorem Q59 {m:Region.Mode} {ops:List Oper} {L:List Nat} (h:Zo m ops L=true): ∀k,k<ops.length→k∈L:=by
 intro k a
 simp only[Zo,Bool.and_eq_true,List.all_eq_true] at h
 simpa using h.1.2 k (by simpa using a)
theorem Q7w (m:Region.Mode) (ops:Array Oper) (R:Ls ops.toList=true) (U:List Nat) (O:Zo m ops.toList U=true): ∀(fuel t:Nat) (listed:Array Bool) (a:List Nat),
 fuel+a.length=ops.size→listed.size=ops.size→(∀i,i<ops.size→(listed.getD i true=true↔i∈a))→a.Nodup→(∀i∈a,i<ops.size)→Rz ops.toList a.reverse→
 (Region.linearise.go m ops fuel t listed a).Nodup∧(Region.linearise.go m ops fuel t listed a).length=ops.size∧Rz ops.toList (Region.linearise.go m ops fuel t listed a)
 | 0,t,listed,a,hf,_,_,hn,_,Y=>by
  simp only[Region.linearise.go]
  exact ⟨List.pairwise_reverse.2 (hn.imp fun h=>Ne.symm h),by simp;omega,Y⟩
 | fuel+1,t,listed,a,hf,w,J,hn,v,Y=>by
  -- one that isn't listed may come
  have af: ∃k,k<ops.size∧k∉a:=by
   refine Classical.byContradiction fun ac=>?_
   have y: ∀k,k<ops.size→k∈a:=fun k hk=>Classical.byContradiction fun h=>ac ⟨k,hk,h⟩
   have:=Wx ops.size a y
   omega
  simp only[Region.linearise.go]
  split
  ·rename_i i hi
   have l:=List.mem_of_getElem? hi
   simp only[List.mem_filter,List.mem_range,Bool.and_eq_true,Bool.not_eq_true'] at l
   obtain ⟨d,N,p⟩:=l
   have M:i∉a:=fun h=>by rw[(J i d).2 h] at N;cases N
   refine Q7w m ops R U O fuel _ _ _ (by simp;omega) (by simp[w]) ?_ (List.nodup_cons.2 ⟨M,hn⟩) ?_ ?_
   ·intro j hj
    by_cases r:i=j
    ·subst r;simp[Array.getD,w,d]
    ·have:(listed.setIfInBounds i true).getD j true=listed.getD j true:=by
      simp only[Array.getD_eq_getD_getElem?]
      rw[Array.getElem?_setIfInBounds_ne r]
     rw[this,J j hj]
     simp[Ne.symm r]
   ·intro j hj
    rcases List.mem_cons.1 hj with rfl | hj
    ·exact d
    ·exact v j hj
   ·rw[List.reverse_cons]
    intro ab j D W k hk
    rcases List.eq_nil_or_concat D with rfl | ⟨q,x,rfl⟩
    ·have hh:=List.append_inj' W rfl
     obtain ⟨h1,h2⟩:=hh
     simp only[List.cons.injEq,and_true] at h2
     subst h2;subst h1
     have V:=hk
     unfold A4 at hk
     rw[show ops.toList[i]? =some ops[i] by simp[d]] at hk
     simp only[Option.map_some,Option.getD_some,List.mem_map,List.mem_filter] at hk
     obtain ⟨e,⟨g,X⟩,rfl⟩:=hk
     rw[show ops[i]? =some ops[i] by simp[d]] at p
     simp only[Option.map_some,Option.getD_some,Array.all_eq_true'] at p
     have h4:=p e (by simpa using g)
     simp only[Bool.or_eq_true,Bool.not_eq_true'] at h4
     rcases h4 with h4 | h4
     ·rw[Q9O X] at h4;cases h4
     ·have al:=Ih R i (by simpa using d) e.on V
      have:listed.getD e.on true=true:=by
       simp only[Array.getD_eq_getD_getElem?] at h4⊢
       rw[Array.getElem?_eq_getElem (by omega)] at h4⊢
       simpa using h4
      simpa using (J e.on (by omega)).1 this
    ·rw[List.concat_eq_append,←List.cons_append,←List.append_assoc] at W
     have hh:=List.append_inj' W rfl
     exact Y ab j q hh.1 k hk
  ·rename_i n
   exfalso
   obtain ⟨k0,H,u⟩:=af
   have A:=O
   simp only[Zo,Bool.and_eq_true] at A
   -- every number of L0 that is none of an operation's has no edges: it may stand there, but isn't looked at
   have f: ∃k,k<ops.size∧k∉a∧ ∀e∈(ops.toList[k]?.map fun o=>o.after.toList).getD [],Region.binds m e=true→e.on∈a∨ops.size≤e.on:=by
    -- the first of L0 that is an operation's number and isn't listed
    have key: ∀(L b:List Nat),Q50 m ops.toList L b=true→(∀k∈b,k∈a∨ops.size≤k)→(∃k∈L,k<ops.size∧k∉a)→
     ∃k,k<ops.size∧k∉a∧ ∀e∈(ops.toList[k]?.map fun o=>o.after.toList).getD [],Region.binds m e=true→e.on∈a∨ops.size≤e.on:=by
     intro L
     induction L with
     | nil=>rintro b _ _ ⟨k,hk,_⟩;simp at hk
     | cons j L ih=>
      rintro b h hs ⟨k,hk,aa,C⟩
      simp only[Q50,Bool.and_eq_true,List.all_eq_true] at h
      by_cases hj:j∈a∨ops.size≤j
      ·refine ih (j::b) h.2 (fun x hx=>by rcases List.mem_cons.1 hx with rfl | hx;exact hj;exact hs x hx) ⟨k,?_,aa,C⟩
       rcases List.mem_cons.1 hk with rfl | hk
       ·rcases hj with hj | hj
        ·exact absurd hj C
        ·omega
       ·exact hk
      ·have Z:j<ops.size:=by
        refine Nat.lt_of_not_le fun h=>hj (.inr h)
       refine ⟨j,Z,fun h=>hj (.inl h),fun e R Q=>?_⟩
       have:=h.1 e R
       rw[Q] at this
       exact hs _ (by simpa using this)
    exact key U [] A.1.1 (by simp) ⟨k0,Q59 O k0 (by simpa using H),H,u⟩
   obtain ⟨k,c,ae,E⟩:=f
   by_cases s:k∈(List.range ops.size).filter fun i=> !listed.getD i true&&((ops[i]?).map (·.after.all fun e=> !Region.binds m e||listed.getD e.on false)).getD false
   ·have z:=List.length_pos_of_mem s
    have:=List.getElem?_eq_none_iff.1 n
    have:=Nat.mod_lt t z
    omega
   ·refine s ?_
    simp only[List.mem_filter,List.mem_range,Bool.and_eq_true,Bool.not_eq_true']
    refine ⟨c,?_,?_⟩
    ·cases hc:listed.getD k true with
     | false=>rfl
     | true=>exact absurd ((J k c).1 hc) ae
    ·rw[show ops[k]? =some ops[k] by simp[c]]
     simp only[Option.map_some,Option.getD_some,Array.all_eq_true']
     intro e g
     simp only[Bool.or_eq_true,Bool.not_eq_true']
     cases Q:Region.binds m e with
     | false=>exact .inl rfl
     | true=>
      right
      rw[show ops.toList[k]? =some ops[k] by simp[c]] at E
      rcases E e (by simpa using g) Q with h | h
      ·have B:=v _ h
       have:=(J e.on B).2 h
       simp only[Array.getD_eq_getD_getElem?] at this⊢
       rw[Array.getElem?_eq_getElem (by omega)] at this⊢
       simpa using this
      ·exact absurd h (by
        have:=Q8p O k (by simpa using c) e (by rw[show ops.toList[k]? =some ops[k] by simp[c]];simpa using g) Q
        simp at this;omega)
theorem Q4M (b:Bool) (ops:Array Oper) (t:Nat) (c:Ls ops.toList=true) (d: ∀m,∃L,Zo m ops.toList L=true):
 (Region.schedule b ops t).Nodup∧(Region.schedule b ops t).length=ops.size∧Rz ops.toList (Region.schedule b ops t):=by
 have key: ∀m t,(Region.linearise m ops t).Nodup∧(Region.linearise m ops t).length=ops.size∧Rz ops.toList (Region.linearise m ops t):=by
  intro m t
  obtain ⟨L,f⟩:=d m
  refine Q7w m ops c L f _ _ _ _ (by simp) (by simp) ?_ List.nodup_nil (by simp) ?_
  ·intro i g;simp[Array.getD,g]
  ·intro e j a h;simp at h
 unfold Region.schedule
 split<;>exact key _ _
theorem Zd: ∀(ops:List Oper),Uk (S3 ops)=true→ ∀(i j:Nat) (a b:Oper) (d:Nat),ops[i]? =some a→ops[j]? =some b→a.dst=some d→b.dst=some d→i=j
 | [],_,i,j,a,b,d,h,_,_,_=>by simp at h
 | o::c,g,i,j,a,b,d,n,m,p,r=>by
  have f: ∀(k:Nat) (q:Oper),c[k]? =some q→q.dst=some d→d∈S3 c:=by
   intro k q t s
   simp only[S3,List.mem_filterMap]
   exact ⟨q,List.mem_of_getElem? t,s⟩
  have l:Uk (S3 c)=true:=by
   simp only[S3,List.filterMap_cons] at g
   split at g
   ·exact g
   ·simp only[Uk,Bool.and_eq_true] at g;exact g.2
  have e:o.dst=some d→d∉S3 c:=by
   intro u
   simp only[S3,List.filterMap_cons,u,Uk,Bool.and_eq_true,Bool.not_eq_true'] at g
   intro v
   have:=g.1
   simp only[List.contains_eq_mem,decide_eq_false_iff_not] at this
   exact this v
  cases i with
  | zero=>
   simp only[List.getElem?_cons_zero,Option.some.injEq] at n
   subst n
   cases j with
   | zero=>rfl
   | succ j=>exact absurd (f j b (by simpa using m) r) (e p)
  | succ i=>
   cases j with
   | zero=>
    simp only[List.getElem?_cons_zero,Option.some.injEq] at m
    subst m
    exact absurd (f i a (by simpa using n) p) (e r)
   | succ j=>rw[Zd c l i j a b d (by simpa using n) (by simpa using m) p r]
theorem Iu (u:Nat→Value): ∀(S:List Ent) (s:Nat),get (Qd u S) s=(getE S s).at u
 | [],s=>by simp[Qd,get,getE,Ent.at]
 | e::S,0=>rfl
 | e::S,s+1=>Iu u S s
theorem Gf: ∀(S:List Ent) (s:Nat),getE S s=(S[s]?).getD (.val undef)
 | [],s=>by simp[getE]
 | e::S,0=>rfl
 | e::S,s+1=>by simp only[getE,List.getElem?_cons_succ];exact Gf S s
theorem Q1I: ∀(S:List Ent) (n:Nat) (e:Ent),Q2B S n e=S.set n e
 | [],n,e=>by simp[Q2B]
 | x::S,0,e=>rfl
 | x::S,n+1,e=>by simp only[Q2B,List.set_cons_succ,Q1I S n e]
theorem Q45 {x:Nat}: ∀{l:List Nat},x∈l→x∈Q1u l
 | y::l,h=>by
  simp only[Q1u,List.mem_cons,List.mem_filter]
  by_cases e:x=y
  ·exact .inl e
  ·exact .inr ⟨Q45 ((List.mem_cons.1 h).resolve_left e),by simpa using e⟩
theorem Bn {x:Nat}: ∀{l:List Nat},x∈Q1u l→x∈l
 | y::l,h=>by
  simp only[Q1u,List.mem_cons,List.mem_filter] at h⊢
  exact h.imp id fun h=>Bn h.1
theorem Q4w {S:List Ent} {j:Nat}: ∀{l:List Nat} {s:Nat},s∈l→getE S s= .ref j→j∈Q1y S l
 | x::l,s,h,e=>by
  simp only[Q1y,List.mem_append]
  rcases List.mem_cons.1 h with rfl | h
  ·left;rw[e];simp[Q4X]
  ·right;exact Q4w h e
theorem Bf {S:List Ent} {j:Nat}: ∀{l:List Nat},j∈Q1y S l→ ∃s∈l,getE S s= .ref j
 | x::l,h=>by
  simp only[Q1y,List.mem_append] at h
  rcases h with h | h
  ·refine ⟨x,by simp,?_⟩
   cases a:getE S x with
   | val v=>rw[a] at h;simp[Q4X] at h
   | ref k=>rw[a] at h;simp[Q4X] at h;rw[h]
  ·obtain ⟨s,b,e⟩:=Bf h
   exact ⟨s,by simp[b],e⟩
theorem Q2J: ∀(a:List Nat) (b u:Nat→Value) (k:(Nat→Value)→Prop),Im a b k→ ∃c,k c∧ ∀x,(x∈a→c x=u x)∧(x∉a→c x=b x)
 | [],b,u,k,h=>⟨b,h,fun x=>⟨fun h=>by simp at h,fun _=>rfl⟩⟩
 | j::a,b,u,k,h=>by
  obtain ⟨c,g,f⟩:=Q2J a _ u k (h (u j))
  refine ⟨c,g,fun x=>⟨fun hx=>?_,fun hx=>?_⟩⟩
  ·by_cases d:x∈a
   ·exact (f x).1 d
   ·rw[(f x).2 d]
    rcases List.mem_cons.1 hx with rfl | hx
    ·simp
    ·exact absurd hx d
  ·rw[(f x).2 (fun h=>hx (List.mem_cons_of_mem _ h))]
   have:x≠j:=fun e=>hx (by simp[e])
   simp[this]
theorem Q2s {e:Si} {u:Nat→Value} {w:World} {a:Prop}: ∀{d:List Nat},Pl e u w a d→(∀j∈d,∀φ,Vd e j=some ([],φ)→φ [] (u j) w)→a
 | [],h,_=>h
 | j::d,h,c=>by
  simp only[Pl] at h
  split at h
  ·rename_i φ f
   exact Q2s (h (c j (by simp) φ f)) fun k b=>c k (by simp[b])
  ·exact Q2s h fun k b=>c k (by simp[b])
theorem Q0K {e:Si} {u:Nat→Value} {w:World} {a:Prop}: ∀{d:List Nat},Q1s e u w a d→(∀j∈d,∀R φ,Vd e j=some (R,φ)→φ (R.map u) (u j) w)→a
 | [],h,_=>h
 | j::d,h,c=>by
  simp only[Q1s] at h
  split at h
  ·rename_i R φ f
   exact Q0K (h (c j (by simp) R φ f)) fun k b=>c k (by simp[b])
  ·exact Q0K h fun k b=>c k (by simp[b])
theorem Iw {a:Si} {i j:Nat} {φ:List Nat×(List Value→Value→World→Prop)} (h:i≠j):Vd (a++[(i,φ)]) j=Vd a j:=by
 induction a with
 | nil=>simp[Vd,h]
 | cons p a b=>obtain ⟨k,ψ⟩:=p;simp only[List.cons_append,Vd,b]
theorem Ms {a:Si} {i:Nat} {φ:List Nat×(List Value→Value→World→Prop)} (h:Vd a i=none):Vd (a++[(i,φ)]) i=some φ:=by
 induction a with
 | nil=>simp[Vd]
 | cons p a c=>
  obtain ⟨k,ψ⟩:=p
  simp only[Vd] at h
  split at h
  ·cases h
  ·rename_i b;simp only[List.cons_append,Vd,b,if_false];exact c h
def Ro (S:List Ent) (i:Nat) (o:Oper):Ent:=match mv o with | some x=>entOf S x | none=> .ref i
def O5 (S:List Ent):Nat→List Oper→List Ent
 | _,[]=>S
 | i,o::a=>O5 (putE S o.dst (Ro S i o)) (i+1) a
theorem Q4p: ∀(a:List Oper) (S:List Ent) (i k:Nat) (o:Oper),a[k]? =some o→
 O5 S i (a.take (k+1))=putE (O5 S i (a.take k)) o.dst (Ro (O5 S i (a.take k)) (i+k) o)
 | [],_,_,_,_,h=>by simp at h
 | x::a,S,i,0,o,h=>by
  simp only[List.getElem?_cons_zero,Option.some.injEq] at h
  subst h
  simp[O5]
 | x::a,S,i,k+1,o,h=>by
  simp only[List.getElem?_cons_succ] at h
  have:=Q4p a (putE S x.dst (Ro S i x)) (i+1) k o h
  simp only[List.take_succ_cons,O5]
  rw[this,show i+1+k=i+(k+1) from by omega]
def Ze (S:List Ent) (D:List Nat):Prop:= ∀e∈S,∀j,e= .ref j→j∈D
theorem Ze.getE {S:List Ent} {D:List Nat} (h:Ze S D) {s j:Nat} (e:Go.Emb.getE S s= .ref j):j∈D:=by
 rw[Gf] at e
 cases a:S[s]? with
 | none=>rw[a] at e;cases e
 | some x=>rw[a] at e;exact h x (List.mem_of_getElem? a) j e
theorem Ze.putE {S:List Ent} {D:List Nat} (h:Ze S D) (d:Option Nat) {e:Ent} (c: ∀j,e= .ref j→j∈D):Ze (Go.Emb.putE S d e) D:=by
 cases d with
 | none=>exact h
 | some d=>
  intro x a j b
  simp only[Go.Emb.putE,Q1I] at a
  rcases List.mem_or_eq_of_mem_set a with a | rfl
  ·exact h x a j b
  ·exact c j b
theorem Ze.mono {S:List Ent} {D D':List Nat} (h:Ze S D) (c: ∀j∈D,j∈D'):Ze S D':=fun e a j b=>c j (h e a j b)
theorem Ze.entOf {S:List Ent} {D:List Nat} (h:Ze S D) (x:Operand) {j:Nat} (e:Go.Emb.entOf S x= .ref j):j∈D:=by
 cases x with
 | tmp t=>exact h.getE e
 | _=>cases e
theorem Q7T {S:List Ent} {D:List Nat} (h:Ze S D) {u a:Nat→Value} (c: ∀j∈D,a j=u j):Qd a S=Qd u S:=by
 unfold Qd
 refine List.map_congr_left fun e b=>?_
 cases e with
 | val v=>rfl
 | ref j=>exact c j (h _ b j rfl)
theorem Q2g {P:Program} {ops:List Oper} {l l':List Value} {o:Oper} (e:Yb o.op=true) (h: ∀s∈R0 ops o++F0 o,get l s=get l' s):runOp P ops l o=runOp P ops l' o:=by
 funext w K
 unfold runOp
 rw[Dy e fun x f=>by
  cases x with
  | tmp s=>exact h s (List.mem_append_right _ (by simp only[F0,List.mem_filterMap];exact ⟨.tmp s,by simpa using f,rfl⟩))
  | _=>rfl]
 cases a:o.guard with
 | none=>rfl
 | some q=>
  obtain ⟨j,b⟩:=q
  simp only
  cases c:(ops[j]?).bind (·.dst) with
  | none=>rfl
  | some d=>simp only;rw[h d (List.mem_append_left _ (by simp[R0,a,c]))]
theorem Q3s {P:Program} {ops:List Oper} {l:List Value} {o:Oper} {w:World} {K d:Value→World→Prop} (a: ∀v w,K v w→d v w) (h:runOp P ops l o w K):runOp P ops l o w d:=by
 unfold runOp at*
 split at h
 ·exact K6 a h
 ·split at h
  ·exact Q0p ((Lq h).imp (fun ⟨c,b⟩=>⟨c,K6 a b⟩) (fun ⟨c,b⟩=>⟨c,a _ _ b⟩))
  ·exact h.elim
theorem Q38 {P:Program} {ops:List Oper} {W4:List Value→World→Prop} {o:Oper} {a:List Oper} {l:List Value} {w:World}
 (h:runOp P ops l o w (fun v w=>Z6 P ops W4 a (put l o.dst v) w)):Z6 P ops W4 (o::a) l w:=by
 simp only[Z6]
 unfold runOp at h
 cases e:o.guard with
 | none=>simp only[e] at h⊢;exact h
 | some q=>
  obtain ⟨j,b⟩:=q
  simp only[e] at h⊢
  split at h
  ·rename_i d c
   first | exact h | (simp only[c];exact h) | (rw[c];exact h)
  ·exact h.elim
structure Whole (P : Program) (ops : List Oper) (T : World → World → Prop) (B : World → Prop) (W4 : List Value → World → Prop) (tail : List Oper) (Φ : Nat → (Nat → Value) → World → Prop) (S : List Ent) (i : Nat) (rest : List Oper) (D : List Nat) : Prop where
  stable : ∀ k o, rest[k]? = some o → mv o = none → ∀ u w w', Φ (i + k) u w → T w w' → Φ (i + k) u w'
  loc : ∀ k o, rest[k]? = some o → mv o = none → ∀ u u', (∀ r ∈ (i + k) :: refs ops (O5 S i (rest.take k)) o, u r = u' r) → Φ (i + k) u = Φ (i + k) u'
  run : ∀ k o, rest[k]? = some o → mv o = none → Yb o.op = true → ∀ u w, B w → (∀ j ∈ refs ops (O5 S i (rest.take k)) o, Φ j u w) →
    runOp P ops (Qd u (O5 S i (rest.take k))) o w (fun v w' => T w w' ∧ ∀ u', (∀ r ∈ refs ops (O5 S i (rest.take k)) o, u' r = u r) → u' (i + k) = v → Φ (i + k) u' w')
  last : ∀ u w, B w → (∀ j ∈ D, Φ j u w) → (∀ k o, rest[k]? = some o → mv o = none → Φ (i + k) u w) → Z6 P ops W4 tail (Qd u (O5 S i rest)) w
theorem Q1g (P:Program) (ops:List Oper) (T:World→World→Prop) (B:World→Prop) (W4:List Value→World→Prop) (tail:List Oper): ∀(d:List Oper) (i:Nat) (S:List Ent) (m:Si) (done:List Nat),
 Ze S done→(∀j,j∈done→j<i∧ ∃φ,Vd m j=some φ)→(∀j φ,Vd m j=some φ→j<i∧ ∀r∈φ.1,r∈done)→chain P ops T B W4 tail i d S m done→
 ∃Φ:Nat→(Nat→Value)→World→Prop,(∀j R φ,Vd m j=some (R,φ)→Φ j=fun u w=>φ (R.map u) (u j) w)∧Whole P ops T B W4 tail Φ S i d done
 | [],i,S,m,done,L,U,C,h=>by
  refine ⟨fun j u w=>match Vd m j with | some (R,φ)=>φ (R.map u) (u j) w | none=>True,fun j R φ hj=>by simp[hj],⟨by simp,by simp,by simp,?_⟩⟩
  intro u w hB E _
  obtain ⟨q,t,g⟩:=Q2J done _ u _ h
  have p:=Q0K (t w hB) fun j hj R φ N=>by
   have:=E j hj
   simp only[N] at this
   rw[(g j).1 hj,show R.map q=R.map u from List.map_congr_left fun r f=>(g r).1 ((C j _ N).2 r f)];exact this
  rw[Q7T L fun j hj=>(g j).1 hj,Po] at p
  exact p
 | o::d,i,S,m,done,L,U,C,h=>by
  simp only[chain] at h
  cases z:mv o with
  | some x=>
   simp only[z] at h
   have c:Ro S i o=entOf S x:=by simp[Ro,z]
   obtain ⟨Φ,t,g⟩:=Q1g P ops T B W4 tail d (i+1) _ m done (L.putE _ fun j hj=>L.entOf x hj) (fun j hj=>⟨by have:=(U j hj).1;omega,(U j hj).2⟩) (fun j φ hj=>⟨by have:=(C j φ hj).1;omega,(C j φ hj).2⟩) h
   refine ⟨Φ,t,⟨?_,?_,?_,?_⟩⟩
   ·intro k l b a
    cases k with
    | zero=>simp only[List.getElem?_cons_zero,Option.some.injEq] at b;subst b;rw[z] at a;cases a
    | succ k=>have:=g.stable k l (by simpa using b) a;rwa [show i+1+k=i+(k+1) from by omega] at this
   ·intro k l b a u q J
    cases k with
    | zero=>simp only[List.getElem?_cons_zero,Option.some.injEq] at b;subst b;rw[z] at a;cases a
    | succ k=>
     simp only[List.take_succ_cons,O5,c] at J
     have:=g.loc k l (by simpa using b) a u q (by rwa [show i+1+k=i+(k+1) from by omega])
     rwa [show i+1+k=i+(k+1) from by omega] at this
   ·intro k l b a y u w hB f
    cases k with
    | zero=>simp only[List.getElem?_cons_zero,Option.some.injEq] at b;subst b;rw[z] at a;cases a
    | succ k=>
     simp only[List.take_succ_cons,O5,c] at f⊢
     have:=g.run k l (by simpa using b) a y u w hB f
     rwa [show i+1+k=i+(k+1) from by omega] at this
   ·intro u w hB E O
    simp only[O5,c]
    refine g.last u w hB E fun k l b a=>?_
    have:=O (k+1) l (by simpa using b) a
    rwa [show i+(k+1)=i+1+k from by omega] at this
  | none=>
   have h': ∃(R:List Nat) (φ:List Value→Value→World→Prop),(∀r∈R,r∈refs ops S o)∧(∀xs,Su T (φ xs))∧
    (Im (refs ops S o) (fun _=>undef) fun u=> ∀w,B w→Pl m u w (runOp P ops (Qd u S) o w (dk T (φ (R.map u)) w)) (refs ops S o))∧
    chain P ops T B W4 tail (i+1) d (putE S o.dst (.ref i)) (m++[(i,R,φ)]) (done++[i]):=by
    cases V:Q8K o with
    | true=>
     simp only[z,V,Q7e,Q3Q] at h
     obtain ⟨φ,t,g,p⟩:=h
     exact ⟨_,φ,fun _ h=>h,t,g,p⟩
    | false=>
     simp only[z,V,X01,Q5y] at h
     obtain ⟨φ,t,g,p⟩:=h
     exact ⟨[],fun _=>φ,by simp,fun _=>t,g,p⟩
   clear h
   obtain ⟨R,φ,Q,Y,M,h⟩:=h'
   have Z: ∀r∈refs ops S o,r∈done:=fun r f=>by
    obtain ⟨s,_,he⟩:=Bf (Bn f)
    exact L.entOf (.tmp s) he
   have c:Ro S i o= .ref i:=by simp[Ro,z]
   have n:Vd m i=none:=by
    cases E:Vd m i with
    | none=>rfl
    | some ψ=>have:=(C i ψ E).1;omega
   obtain ⟨Φ,t,g⟩:=Q1g P ops T B W4 tail d (i+1) _ (m++[(i,R,φ)]) (done++[i])
    ((L.mono fun j hj=>List.mem_append_left _ hj).putE _ fun j hj=>by cases hj;simp)
    (fun j hj=>by
     rcases List.mem_append.1 hj with hj | hj
     ·obtain ⟨p,ψ,D⟩:=U j hj
      exact ⟨by omega,ψ,by rw[Iw (by omega)];exact D⟩
     ·simp at hj;subst hj;exact ⟨by omega,(R,φ),Ms n⟩)
    (fun j ψ hj=>by
     by_cases e:i=j
     ·subst e
      rw[Ms n] at hj;cases hj
      exact ⟨by omega,fun r f=>List.mem_append_left _ (Z r (Q r f))⟩
     ·rw[Iw e] at hj
      obtain ⟨p,D⟩:=C j ψ hj
      exact ⟨by omega,fun r f=>List.mem_append_left _ (D r f)⟩) h
   have H:Φ i=fun u w=>φ (R.map u) (u i) w:=t i R φ (Ms n)
   have A: ∀j R' ψ,Vd m j=some (R',ψ)→Φ j=fun u w=>ψ (R'.map u) (u j) w:=fun j R' ψ hj=>t j R' ψ (by rw[Iw (by have:=(C j _ hj).1;omega)];exact hj)
   refine ⟨Φ,A,⟨?_,?_,?_,?_⟩⟩
   ·intro k l b a
    cases k with
    | zero=>
     intro u w w' ha W
     rw[Nat.add_zero,H] at ha⊢
     exact Y _ _ _ _ ha W
    | succ k=>have:=g.stable k l (by simpa using b) a;rwa [show i+1+k=i+(k+1) from by omega] at this
   ·intro k l b a u q J
    cases k with
    | zero=>
     simp only[List.getElem?_cons_zero,Option.some.injEq] at b
     subst b
     simp only[List.take_zero,O5,Nat.add_zero] at J
     rw[Nat.add_zero,H]
     funext w
     show φ (R.map u) (u i) w=φ (R.map q) (q i) w
     rw[show R.map u=R.map q from List.map_congr_left fun r f=>J r (List.mem_cons_of_mem _ (Q r f)),J i (by simp)]
    | succ k=>
     simp only[List.take_succ_cons,O5,c] at J
     have:=g.loc k l (by simpa using b) a u q (by rwa [show i+1+k=i+(k+1) from by omega])
     rwa [show i+1+k=i+(k+1) from by omega] at this
   ·intro k l b a y u w hB f
    cases k with
    | zero=>
     simp only[List.getElem?_cons_zero,Option.some.injEq] at b
     subst b
     simp only[List.take_zero,O5,Nat.add_zero] at f⊢
     obtain ⟨q,p,D⟩:=Q2J _ _ u _ M
     have h5:=Q2s (p w hB) fun j hj ψ hψ=>by
      have h6:=f j hj
      rw[A j [] ψ hψ] at h6
      rw[(D j).1 hj];exact h6
     rw[Q2g y (l':=Qd u S)] at h5
     ·refine Q3s ?_ h5
      rintro v w' ⟨W,hf⟩
      refine ⟨W,fun X aa hi=>?_⟩
      rw[H]
      show φ (R.map X) (X i) w'
      rw[hi,show R.map X=R.map q from List.map_congr_left fun r f=>by rw[aa r (Q r f),(D r).1 (Q r f)]]
      exact hf
     ·intro s V
      rw[Iu,Iu]
      cases he:getE S s with
      | val v=>rfl
      | ref j=>exact (D j).1 (Q45 (Q4w V he))
    | succ k=>
     simp only[List.take_succ_cons,O5,c] at f⊢
     have:=g.run k l (by simpa using b) a y u w hB f
     rwa [show i+1+k=i+(k+1) from by omega] at this
   ·intro u w hB E O
    simp only[O5,c]
    refine g.last u w hB (fun j hj=>?_) fun k l b a=>?_
    ·rcases List.mem_append.1 hj with hj | hj
     ·exact E j hj
     ·simp at hj;subst hj
      have:=O 0 o (by simp) z
      simpa using this
    ·have:=O (k+1) l (by simpa using b) a
     rwa [show i+(k+1)=i+1+k from by omega] at this
def Qt (os:List Oper) (S0:List Ent) (q:Nat):Ent:=
 match os[q]? with
 | some o=>Ro (O5 S0 0 (os.take q)) q o
 | none=> .val undef
theorem Q7u {os:List Oper} {S0:List Ent} {q:Nat} {o:Oper} (h:os[q]? =some o):O5 S0 0 (os.take (q+1))=putE (O5 S0 0 (os.take q)) o.dst (Qt os S0 q):=by
 rw[Q4p os S0 0 q o h]
 simp[Qt,h]
theorem Q6F (S:List Ent) (d:Option Nat) (e:Ent):(putE S d e).length=S.length:=by
 cases d with
 | none=>rfl
 | some d=>simp[putE,Q1I]
theorem Ic (os:List Oper) (S0:List Ent): ∀q,q≤os.length→(O5 S0 0 (os.take q)).length=S0.length
 | 0,_=>by simp[O5]
 | q+1,h=>by rw[Q7u (List.getElem?_eq_getElem (by omega)),Q6F,Ic os S0 q (by omega)]
theorem Sc {os:List Oper} {S0:List Ent} (u:Uk (S3 os)=true) (r: ∀d∈S3 os,d<S0.length): ∀q,q≤os.length→
 (∀p,p<q→ ∀o d,os[p]? =some o→o.dst=some d→(O5 S0 0 (os.take q))[d]? =some (Qt os S0 p))∧
  (∀s,(∀p,p<q→ ∀o,os[p]? =some o→o.dst≠some s)→(O5 S0 0 (os.take q))[s]? =S0[s]?)
 | 0,_=>⟨fun p i=>absurd i (by omega),fun s _=>by simp[O5]⟩
 | q+1,h=>by
  obtain ⟨t,n⟩:=Sc u r q (by omega)
  have j:os[q]? =some os[q]:=List.getElem?_eq_getElem (by omega)
  have g:=Ic os S0 q (by omega)
  rw[Q7u j]
  cases a:os[q].dst with
  | none=>
   refine ⟨fun p i o d c b=>?_,fun s l=>n s fun p i=>l p (by omega)⟩
   by_cases e:p=q
   ·subst e;rw[j] at c;cases c;rw[a] at b;cases b
   ·exact t p (by omega) o d c b
  | some k=>
   have m:k<S0.length:=r k (by simp only[S3,List.mem_filterMap];exact ⟨os[q],List.getElem_mem _,a⟩)
   simp only[putE,Q1I]
   refine ⟨fun p i o d c b=>?_,fun s l=>?_⟩
   ·by_cases e:p=q
    ·subst e;rw[j] at c;cases c;rw[a] at b;cases b
     rw[List.getElem?_set_self (by rw[g];exact m)]
    ·have f:k≠d:=by
      rintro rfl
      exact e (Zd os u p q o os[q] k c j b a)
     rw[List.getElem?_set_ne f]
     exact t p (by omega) o d c b
   ·have f:k≠s:=fun e=>l q (by omega) os[q] j (by rw[a,e])
    rw[List.getElem?_set_ne f]
    exact n s fun p i=>l p (by omega)
def Mz (os:List Oper) (p:Nat):Bool:=
 match os[p]? with
 | some o=>match mv o with
  | some (.tmp s)=> !(S3 os).contains s
  | some _=>true
  | none=>false
 | none=>false
theorem X3r {P:Program} {o:Oper} {x:Operand} (h:mv o=some x) (l:List Value) (w:World) (K:Value→World→Prop):o.guard=none∧L1 P l o w K=K (ev l x) w:=by
 unfold mv at h
 split at h
 ·cases h
 ·rename_i b
  refine ⟨b,?_⟩
  split at h
  ·rename_i y a;cases h;simp only[L1,a]
  ·rename_i y a;cases h;simp only[L1,a]
  ·cases h
theorem Q6W {P:Program} {ops:List Oper} {W4:List Value→World→Prop} {o:Oper} {c a:List Oper} {l l':List Value} {w:World} (r:Yb o.op=true) (m: ∀s∈R0 ops o++F0 o,get l' s=get l s)
 (f: ∀v w,Z6 P ops W4 c (put l o.dst v) w→Z6 P ops W4 a (put l' o.dst v) w) (h:Z6 P ops W4 (o::c) l w):Z6 P ops W4 (o::a) l' w:=by
 have n:L1 P l' o=L1 P l o:=Dy r fun x p=>by
  cases x with
  | tmp s=>exact m s (List.mem_append_right _ (by simp only[F0,List.mem_filterMap];exact ⟨.tmp s,by simpa using p,rfl⟩))
  | _=>rfl
 simp only[Z6] at h⊢
 cases e:o.guard with
 | none=>simp only[e] at h⊢;rw[n];exact K6 f h
 | some q=>
  obtain ⟨j,b⟩:=q
  simp only[e] at h⊢
  cases i:(ops[j]?).bind (·.dst) with
  | none=>simp only[i] at h⊢;exact f _ _ h
  | some d=>
   simp only[i] at h⊢
   rw[m d (List.mem_append_left _ (by simp[R0,e,i])),n]
   exact Q0p ((Lq h).imp (fun ⟨k,g⟩=>⟨k,K6 f g⟩) (fun ⟨k,g⟩=>⟨k,f _ _ g⟩))
structure At (os : List Oper) (l0 : List Value) (pre : List Nat) (l : List Value) (u : Nat → Value) : Prop where
  len : l.length = l0.length
  done : ∀ p ∈ pre, ∀ o d, os[p]? = some o → o.dst = some d → l[d]? = some ((Qt os (l0.map .val) p).at u)
  rest : ∀ s, (∀ p ∈ pre, ∀ o, os[p]? = some o → o.dst ≠ some s) → l[s]? = l0[s]?
  refs : ∀ p ∈ pre, ∀ r, Qt os (l0.map .val) p = .ref r → r ∈ pre ∧ ∃ o, os[r]? = some o ∧ mv o = none
theorem X48 {P:Program} {ops os:List Oper} {T:World→World→Prop} {B:World→Prop} {W4:List Value→World→Prop} {m:Nat} {C:List Value} {Φ:Nat→(Nat→Value)→World→Prop}
 (al:Nat→Nat→Bool) (bl: ∀o∈os,Yb o.op=true) (hn:Uk (S3 os)=true) (hd: ∀d∈S3 os,d<C.length)
 (ad: ∀p q a b,p<q→os[p]? =some a→os[q]? =some b→(Qk a b||Qk b a)=true→al p q=true)
 (hg: ∀q o j b,os[q]? =some o→o.guard=some (j,b)→ ∃p,p<q∧os[p]? =ops[j]? ∧al p q=true)
 (hm:m≤os.length) (an: ∀q,m≤q→q<os.length→ ∀p,p<q→al p q=true∨(p<m∧Mz os p=true))
 (hT: ∀w w',B w→T w w'→B w') (hW:Whole P ops T B W4 (os.drop m) Φ (C.map .val) 0 (os.take m) [])
 (L:List Nat) (H:L.Nodup) (bo:L.length=os.length) (ac: ∀q∈L,q<os.length)
 (hC: ∀c q f,L=c++q::f→ ∀p,al p q=true→p<os.length→p∈c):
 ∀(f c:List Nat),L=c++f→(∀q∈c,q<m)→ ∀(l:List Value) (u:Nat→Value) (w:World),At os C c l u→B w→
  (∀r∈c,∀o,os[r]? =some o→mv o=none→Φ r u w∧ ∀j∈refs ops (O5 (C.map .val) 0 (os.take r)) o,j∈c)→Z6 P ops W4 (f.filterMap (os[·]?)) l w:=by
 have a7: ∀d∈S3 os,d<(C.map Ent.val).length:=by simpa using hd
 have a5: ∀q,q≤m→(os.take m).take q=os.take q:=fun q hq=>by rw[List.take_take,Nat.min_eq_left hq]
 have X: ∀q,q<m→(os.take m)[q]? =os[q]? :=fun q hq=>by rw[List.getElem?_take_of_lt hq]
 -- when all of the first part is done
 have cv: ∀(c f:List Nat),L=c++f→(∀q∈c,q<m)→(∀q,q<m→q∈c)→ ∀l u w,At os C c l u→B w→
  (∀r∈c,∀o,os[r]? =some o→mv o=none→Φ r u w∧ ∀j∈refs ops (O5 (C.map .val) 0 (os.take r)) o,j∈c)→Z6 P ops W4 (f.filterMap (os[·]?)) l w:=by
  intro c f E D ao l u w hA hB hΦ
  have cf: ∀(f c:List Nat),L=c++f→m≤c.length→(∀q,q∈c↔q<c.length)→f.filterMap (os[·]?)=os.drop c.length:=by
   intro f
   induction f with
   | nil=>
    intro c E _ _
    rw[List.append_nil] at E
    rw[←E,bo];simp
   | cons q f ih=>
    intro c E c7 a1
    have cs:q∉c:=by
     rw[E] at H
     intro h
     exact (List.nodup_append.1 H).2.2 q h q (by simp) rfl
    have cn:c.length≤q:=Nat.le_of_not_lt fun h=>cs ((a1 q).2 h)
    have V:=ac q (by rw[E];simp)
    have cr:q=c.length:=by
     refine Nat.le_antisymm (Nat.le_of_not_lt fun h=>?_) cn
     have:=hC c q f E c.length ((an q (by omega) V _ h).resolve_right (by omega)) (by omega)
     have:=(a1 _).1 this
     omega
    subst cr
    rw[List.filterMap_cons,List.getElem?_eq_getElem V]
    simp only
    rw[ih (c++[c.length]) (by rw[E];simp) (by simp;omega) (by intro x;simp only[List.mem_append,a1,List.mem_singleton,List.length_append,List.length_cons,List.length_nil];omega)]
    simp only[List.length_append,List.length_cons,List.length_nil]
    rw[←List.drop_eq_getElem_cons V]
  have bd:c.length=m:=by
   have J:=G5 m c (by rw[E] at H;exact (List.nodup_append.1 H).1) D
   have R:=Wx m c ao
   omega
  have J:=cf f c E (by omega) (fun q=>by rw[bd];exact ⟨D q,ao q⟩)
  rw[J,bd]
  have R:=hW.last u w hB (by simp) fun k o hk t=>by
   have aw:k<m:=by
    have:=(List.getElem?_eq_some_iff.1 hk).1
    simp at this;omega
   rw[Nat.zero_add]
   rw[X k aw] at hk
   exact (hΦ k (ao k aw) o hk t).1
  have h3:l=Qd u (O5 (C.map .val) 0 (os.take m)):=by
   obtain ⟨g1,g2⟩:=Sc hn a7 m hm
   apply List.ext_getElem?
   intro s
   rw[Qd,List.getElem?_map]
   by_cases hs: ∃p,p<m∧ ∃o,os[p]? =some o∧o.dst=some s
   ·obtain ⟨p,hp,o,i,z⟩:=hs
    rw[hA.done p (ao p hp) o s i z,g1 p hp o s i z];rfl
   ·have af: ∀p,p<m→ ∀o,os[p]? =some o→o.dst≠some s:=fun p hp o i z=>hs ⟨p,hp,o,i,z⟩
    rw[hA.rest s (fun p hp=>af p (D p hp)),g2 s af,List.getElem?_map]
    cases C[s]? <;>rfl
  rw[h3];exact R
 -- moves that come late, among the tail
 have b7: ∀(f c:List Nat) (k:Nat),L=c++f→m≤k→k≤os.length→(∀q,m≤q→(q∈c↔q<k))→(∀p∈f,p<m→Mz os p=true)→
  ∀(l lf:List Value) (w:World),l.length=C.length→lf.length=C.length→(∀s,(∀p∈f,p<m→ ∀o,os[p]? =some o→o.dst≠some s)→l[s]? =lf[s]?)→
   (∀p∈f,p<m→ ∀o d x,os[p]? =some o→mv o=some x→o.dst=some d→lf[d]? =some (ev C x))→(∀s,(S3 os).contains s=false→l[s]? =C[s]?)→
   Z6 P ops W4 (os.drop k) lf w→Z6 P ops W4 (f.filterMap (os[·]?)) l w:=by
  intro f
  induction f with
  | nil=>
   intro c k E bc bm ab _ l lf w hl ba ap _ _ h
   rw[List.append_nil] at E
   have hk:k=os.length:=by
    refine Nat.le_antisymm bm (Nat.le_of_not_lt fun D=>?_)
    have cu:k∉c:=fun e=>by have:=(ab k bc).1 e;omega
    have J:=G5 os.length (k::c) (List.nodup_cons.2 ⟨cu,E▸H⟩) (fun x hx=>by
     rcases List.mem_cons.1 hx with rfl | hx
     ·exact D
     ·exact ac x (by rw[E];exact hx))
    simp at J
    rw[E] at bo;omega
   have:l=lf:=List.ext_getElem? fun s=>ap s (by simp)
   rw[this]
   rw[hk,List.drop_length] at h
   exact h
  | cons q f ih=>
   intro c k E bc bm ab am l lf w hl ba ap az Z h
   have O:q∉c:=by
    rw[E] at H
    intro h
    exact (List.nodup_append.1 H).2.2 q h q (by simp) rfl
   have cj:q∉f:=by
    rw[E] at H
    exact (List.nodup_cons.1 (List.nodup_append.1 H).2.1).1
   have V:=ac q (by rw[E];simp)
   have A:os[q]? =some os[q]:=List.getElem?_eq_getElem V
   have b0:L=(c++[q])++f:=by rw[E];simp
   rw[List.filterMap_cons,A]
   simp only
   by_cases aa:q<m
   ·-- a late move
    have D:=am q (by simp) aa
    unfold Mz at D
    rw[A] at D
    simp only at D
    cases t:mv os[q] with
    | none=>rw[t] at D;cases D
    | some x=>
     rw[t] at D
     have hx:ev l x=ev C x:=by
      cases x with
      | tmp s=>
       simp only[Bool.not_eq_true'] at D
       simp only[ev,get,List.getD_eq_getElem?_getD,Z s D]
      | _=>rfl
     obtain ⟨a9,a2⟩:=X3r (P:=P) t l w (fun v w=>Z6 P ops W4 (f.filterMap (os[·]?)) (put l os[q].dst v) w)
     simp only[Z6,a9]
     rw[a2,hx]
     refine ih (c++[q]) k b0 bc bm (fun q' a3=>?_) (fun p hp=>am p (by simp[hp])) _ lf w ?_ ba (fun s hs=>?_) (fun p hp=>az p (by simp[hp])) (fun s hs=>?_) h
     ·rw[←ab q' a3];simp only[List.mem_append,List.mem_singleton]
      exact ⟨fun e=>e.resolve_right (by omega), .inl⟩
     ·cases g:os[q].dst<;>simp[put,hl]
     ·cases g:os[q].dst with
      | none=>
       refine ap s fun p hp M o i=>?_
       rcases List.mem_cons.1 hp with rfl | hp
       ·rw[A] at i;cases i;rw[g];simp
       ·exact hs p hp M o i
      | some d=>
       have av:d<C.length:=hd d (by simp only[S3,List.mem_filterMap];exact ⟨os[q],List.getElem_mem _,g⟩)
       simp only[put]
       by_cases e:d=s
       ·subst e
        rw[List.getElem?_set_self (by rw[hl];exact av)]
        exact (az q (by simp) aa os[q] d x A t g).symm
       ·rw[List.getElem?_set_ne e]
        refine ap s fun p hp M o i=>?_
        rcases List.mem_cons.1 hp with rfl | hp
        ·rw[A] at i;cases i;rw[g];simpa using e
        ·exact hs p hp M o i
     ·cases g:os[q].dst with
      | none=>exact Z s hs
      | some d=>
       have ah:(S3 os).contains d=true:=by
        rw[List.contains_iff_mem];simp only[S3,List.mem_filterMap];exact ⟨os[q],List.getElem_mem _,g⟩
       simp only[put]
       rw[List.getElem?_set_ne (by rintro rfl;rw[hs] at ah;cases ah)]
       exact Z s hs
   ·have aa:m≤q:=by omega
    have co:q=k:=by
     have J:k≤q:=Nat.le_of_not_lt fun e=>O ((ab q aa).2 e)
     refine Nat.le_antisymm (Nat.le_of_not_lt fun e=>?_) J
     have:=hC c q f E k ((an q aa V k e).resolve_right (by omega)) (by omega)
     have:=(ab k bc).1 this
     omega
    subst co
    rw[List.drop_eq_getElem_cons V] at h
    have cg: ∀p∈f,p<m→al p q=true→False:=fun p hp M hb=>by
     have:=hC c q f E p hb (by omega)
     rw[E] at H
     exact (List.nodup_append.1 H).2.2 p this p (by simp[hp]) rfl
    refine Q6W (bl _ (List.getElem_mem _)) (fun s hs=>?_) (fun v w' hv=>?_) h
    ·have:l[s]? =lf[s]? :=ap s fun p hp M o i z=>by
      rcases List.mem_cons.1 hp with rfl | hp
      ·omega
      refine cg p hp M ?_
      rcases List.mem_append.1 hs with hs | hs
      ·unfold R0 at hs
       split at hs
       ·simp at hs
       ·rename_i j b bu
        split at hs
        ·rename_i d bk
         simp only[List.mem_singleton] at hs
         subst hs
         obtain ⟨p',ar,bn,hb⟩:=hg q os[q] j b A bu
         obtain ⟨o',bq,b5⟩:=Option.bind_eq_some_iff.1 bk
         have:=Zd os hn p' p o' o s (by rw[bn,bq]) i b5 z
         subst this;exact hb
        ·simp at hs
      ·exact ad p q o os[q] (by omega) i A (by simp only[Qk,z,Bool.or_eq_true];left;left;simpa using hs)
     simp only[get,List.getD_eq_getElem?_getD,this]
    ·refine ih (c++[q]) (q+1) b0 (by omega) (by omega) (fun q' a3=>?_) (fun p hp=>am p (by simp[hp])) _ _ w' ?_ ?_ (fun s hs=>?_) (fun p hp M o d x i a8 z=>?_) (fun s hs=>?_) hv
     ·simp only[List.mem_append,List.mem_singleton,ab q' a3];omega
     ·cases g:os[q].dst<;>simp[put,hl]
     ·cases g:os[q].dst<;>simp[put,ba]
     ·have hb:l[s]? =lf[s]? ∨os[q].dst=some s:=by
       left
       refine ap s fun p hp M o i=>?_
       rcases List.mem_cons.1 hp with rfl | hp
       ·omega
       ·exact hs p hp M o i
      cases g:os[q].dst with
      | none=>
       rcases hb with hb | hb
       ·exact hb
       ·rw[g] at hb;cases hb
      | some d=>
       simp only[put]
       by_cases e:d=s
       ·subst e
        have av:d<C.length:=hd d (by simp only[S3,List.mem_filterMap];exact ⟨os[q],List.getElem_mem _,g⟩)
        rw[List.getElem?_set_self (by rw[hl];exact av),List.getElem?_set_self (by rw[ba];exact av)]
       ·rw[List.getElem?_set_ne e,List.getElem?_set_ne e]
        rcases hb with hb | hb
        ·exact hb
        ·rw[g] at hb;cases hb;exact absurd rfl e
     ·have b1:=az p (by simp[hp]) M o d x i a8 z
      cases g:os[q].dst with
      | none=>exact b1
      | some d'=>
       have Y:d'≠d:=by
        rintro rfl
        have:=Zd os hn p q o os[q] d' i A z g
        omega
       simp only[put]
       rw[List.getElem?_set_ne Y];exact b1
     ·cases g:os[q].dst with
      | none=>exact Z s hs
      | some d=>
       have ah:(S3 os).contains d=true:=by
        rw[List.contains_iff_mem];simp only[S3,List.mem_filterMap];exact ⟨os[q],List.getElem_mem _,g⟩
       simp only[put]
       rw[List.getElem?_set_ne (by rintro rfl;rw[hs] at ah;cases ah)]
       exact Z s hs
 intro f
 induction f with
 | nil=>
  intro c E D l u w hA hB hΦ
  refine cv c [] E D ?_ l u w hA hB hΦ
  intro q hq
  rw[List.append_nil] at E
  refine Classical.byContradiction fun a4=>?_
  have J:=G5 os.length (q::c) (List.nodup_cons.2 ⟨a4,E▸H⟩) (fun k hk=>by
   rcases List.mem_cons.1 hk with rfl | hk
   ·omega
   ·exact ac k (by rw[E];exact hk))
  simp at J
  rw[E] at bo;omega
 | cons q f ih=>
  intro c E D l u w hA hB hΦ
  have O:q∉c:=by
   rw[E] at H
   intro h
   exact (List.nodup_append.1 H).2.2 q h q (by simp) rfl
  have V:=ac q (by rw[E];simp)
  by_cases aa:m≤q
  ·-- the tail begins
   have ak: ∀p,p<m→p∉c→Mz os p=true:=fun p hp bp=>by
    rcases an q aa V p (by omega) with h | h
    ·exact absurd (hC c q f E p h (by omega)) bp
    ·exact h.2
   have bf: ∀p,Mz os p=true→ ∀o,os[p]? =some o→ ∃x,mv o=some x∧ ∀s,x= .tmp s→(S3 os).contains s=false:=by
    intro p hp o i
    unfold Mz at hp
    rw[i] at hp
    simp only at hp
    cases N:mv o with
    | none=>rw[N] at hp;cases hp
    | some x=>
     refine ⟨x,rfl,fun s hs=>?_⟩
     subst hs
     rw[N] at hp;simpa using hp
   obtain ⟨g1,g2⟩:=Sc hn a7 m hm
   have be: ∀s,(S3 os).contains s=false→ ∀(p:Nat) o,os[p]? =some o→o.dst≠some s:=by
    intro s hs p o i z
    have:(S3 os).contains s=true:=by
     rw[List.contains_iff_mem];simp only[S3,List.mem_filterMap]
     exact ⟨o,List.mem_of_getElem? i,z⟩
    rw[hs] at this;cases this
   refine b7 (q::f) c m E (Nat.le_refl _) hm (fun q' a3=>⟨fun e=>D q' e,fun e=>absurd a3 (by omega)⟩) (fun p hp M=>ak p M fun e=>by
    rw[E] at H
    exact (List.nodup_append.1 H).2.2 p e p hp rfl) l (Qd u (O5 (C.map .val) 0 (os.take m))) w hA.len (by simp[Qd,Ic os _ m hm]) (fun s hs=>?_) (fun p hp M o d x i a8 z=>?_) (fun s hs=>?_) ?_
   ·rw[Qd,List.getElem?_map]
    by_cases aq: ∃p,p<m∧ ∃o,os[p]? =some o∧o.dst=some s
    ·obtain ⟨p,hp,o,i,z⟩:=aq
     by_cases U:p∈c
     ·rw[hA.done p U o s i z,g1 p hp o s i z];rfl
     ·exfalso
      have b9:p∈L:=by
       refine Classical.byContradiction fun a4=>?_
       have J:=G5 os.length (p::L) (List.nodup_cons.2 ⟨a4,H⟩) (fun k hk=>by
        rcases List.mem_cons.1 hk with rfl | hk
        ·omega
        ·exact ac k hk)
       simp at J;omega
      rw[E] at b9
      rcases List.mem_append.1 b9 with h | h
      ·exact U h
      ·exact hs p h hp o i z
    ·have af: ∀p,p<m→ ∀o,os[p]? =some o→o.dst≠some s:=fun p hp o i z=>aq ⟨p,hp,o,i,z⟩
     rw[hA.rest s (fun p hp=>af p (D p hp)),g2 s af,List.getElem?_map]
     cases C[s]? <;>rfl
   ·have U:p∉c:=fun e=>by
     rw[E] at H
     exact (List.nodup_append.1 H).2.2 p e p hp rfl
    rw[Qd,List.getElem?_map,g1 p M o d i z]
    simp only[Option.map_some,Option.some.injEq]
    have W:Qt os (C.map .val) p=entOf (O5 (C.map .val) 0 (os.take p)) x:=by simp[Qt,i,Ro,a8]
    rw[W]
    obtain ⟨x',ci,cp⟩:=bf p (ak p M U) o i
    rw[a8] at ci;cases ci
    cases x with
    | tmp s=>
     have hs:=cp s rfl
     obtain ⟨_,k2⟩:=Sc (S0:=C.map .val) hn a7 p (by omega)
     simp only[entOf]
     rw[Gf,k2 s (fun p' _ o' bq=>be s hs p' o' bq),List.getElem?_map]
     simp only[ev,get,List.getD_eq_getElem?_getD]
     cases C[s]? <;>rfl
    | _=>rfl
   ·exact hA.rest s fun p _ o i=>be s hs p o i
   ·refine hW.last u w hB (by simp) fun k o hk t=>?_
    have aw:k<m:=by
     have:=(List.getElem?_eq_some_iff.1 hk).1
     simp at this;omega
    rw[Nat.zero_add]
    rw[X k aw] at hk
    refine (hΦ k (Classical.byContradiction fun bp=>?_) o hk t).1
    obtain ⟨x,hx,_⟩:=bf k (ak k aw bp) o hk
    rw[t] at hx;cases hx
  ·have aa:q<m:=by omega
   have A:os[q]? =some os[q]:=List.getElem?_eq_getElem V
   obtain ⟨g1,g2⟩:=Sc (S0:=C.map .val) hn a7 q (by omega)
   -- what a slot holds that this operation reads
   have ae: ∀s,(∃p o,os[p]? =some o∧o.dst=some s∧p<q∧al p q=true)∨s∈F0 os[q]→
    get l s=(getE (O5 (C.map .val) 0 (os.take q)) s).at u∧ ∀r,getE (O5 (C.map .val) 0 (os.take q)) s= .ref r→r∈c∧ ∃o,os[r]? =some o∧mv o=none:=by
    intro s hs
    have af:(∀p∈c,∀o,os[p]? =some o→o.dst≠some s)→(∀p,p<q→ ∀o,os[p]? =some o→o.dst≠some s)→
     get l s=(getE (O5 (C.map .val) 0 (os.take q)) s).at u∧ ∀r,getE (O5 (C.map .val) 0 (os.take q)) s= .ref r→r∈c∧ ∃o,os[r]? =some o∧mv o=none:=by
     intro J R
     rw[Gf,g2 s R,List.getElem?_map]
     simp only[get,List.getD_eq_getElem?_getD,hA.rest s J]
     cases C[s]? with
     | none=>exact ⟨rfl,fun r hr=>by cases hr⟩
     | some v=>exact ⟨rfl,fun r hr=>by cases hr⟩
    have bh: ∀p o,os[p]? =some o→o.dst=some s→p<q→p∈c→
     get l s=(getE (O5 (C.map .val) 0 (os.take q)) s).at u∧ ∀r,getE (O5 (C.map .val) 0 (os.take q)) s= .ref r→r∈c∧ ∃o,os[r]? =some o∧mv o=none:=by
     intro p o hp i ar U
     rw[Gf,g1 p ar o s hp i]
     simp only[get,List.getD_eq_getElem?_getD,hA.done p U o s hp i,Option.getD_some]
     first | exact ⟨rfl,hA.refs p U⟩ | exact ⟨trivial,hA.refs p U⟩
    rcases hs with ⟨p,o,hp,i,ar,hb⟩ | hs
    ·exact bh p o hp i ar (hC c q f E p hb (by omega))
    ·by_cases aq: ∃(p:Nat) (o:Oper),os[p]? =some o∧o.dst=some s
     ·obtain ⟨p,o,hp,i⟩:=aq
      have cy:=(List.getElem?_eq_some_iff.1 hp).1
      have Z: ∀p' o',os[p']? =some o'→o'.dst=some s→p'=p:=fun p' o' J R=>Zd os hn p' p o' o s J hp R i
      rcases Nat.lt_trichotomy p q with h | h | h
      ·have hb:=ad p q o os[q] h hp A (by simp only[Qk,i,Bool.or_eq_true];left;left;simpa using hs)
       exact bh p o hp i h (hC c q f E p hb (by omega))
      ·subst h
       exact af (fun p' aj o' J R=>by rw[Z p' o' J R] at aj;exact O aj) (fun p' aj o' J R=>by rw[Z p' o' J R] at aj;omega)
      ·refine af (fun p' aj o' J R=>?_) (fun p' aj o' J R=>by rw[Z p' o' J R] at aj;omega)
       have e:=Z p' o' J R
       subst e
       have hb:=ad q p' os[q] o' h A J (by simp only[Qk,R,Bool.or_eq_true];right;left;simpa using hs)
       obtain ⟨p1,p2,U⟩:=List.append_of_mem aj
       have:=hC p1 p' (p2++q::f) (by rw[E,U];simp) q hb V
       exact O (by rw[U];exact List.mem_append_left _ this)
     ·exact af (fun p _ o J R=>aq ⟨p,o,J,R⟩) (fun p _ o J R=>aq ⟨p,o,J,R⟩)
   have bv: ∀s∈R0 ops os[q]++F0 os[q],(∃p o,os[p]? =some o∧o.dst=some s∧p<q∧al p q=true)∨s∈F0 os[q]:=by
    intro s hs
    rcases List.mem_append.1 hs with hs | hs
    ·left
     unfold R0 at hs
     split at hs
     ·simp at hs
     ·rename_i j b bu
      split at hs
      ·rename_i d bk
       simp only[List.mem_singleton] at hs
       subst hs
       obtain ⟨p,ar,bn,hb⟩:=hg q os[q] j b A bu
       obtain ⟨o,i,z⟩:=Option.bind_eq_some_iff.1 bk
       exact ⟨p,o,by rw[bn,i],z,ar,hb⟩
      ·simp at hs
    ·exact .inr hs
   have a0:=X q aa
   rw[A] at a0
   rw[List.filterMap_cons,A]
   simp only
   -- the state behind it
   have step: ∀(v:Value) (u':Nat→Value) (w':World),(∀p∈c,(Qt os (C.map .val) p).at u'=(Qt os (C.map .val) p).at u)→v=(Qt os (C.map .val) q).at u'→
    (∀r,Qt os (C.map .val) q= .ref r→r∈q::c∧ ∃o,os[r]? =some o∧mv o=none)→B w'→(∀r∈q::c,∀o,os[r]? =some o→mv o=none→Φ r u' w'∧ ∀j∈refs ops (O5 (C.map .val) 0 (os.take r)) o,j∈q::c)→
    Z6 P ops W4 (f.filterMap (os[·]?)) (put l os[q].dst v) w':=by
    intro v u' w' hu hv hr cq ca
    have Q: ∀x,x∈c++[q]↔x∈q::c:=by intro x;simp[or_comm]
    refine ih (c++[q]) (by rw[E];simp) (fun x hx=>by rcases List.mem_cons.1 ((Q x).1 hx) with rfl | hx;exact aa;exact D x hx) _ u' w' ?_ cq (fun r hr o i N=>⟨(ca r ((Q r).1 hr) o i N).1,fun j hj=>(Q j).2 ((ca r ((Q r).1 hr) o i N).2 j hj)⟩)
    have ay: ∀p∈c++[q],∀r,Qt os (C.map .val) p= .ref r→r∈c++[q]∧ ∃o,os[r]? =some o∧mv o=none:=by
     intro p hp r bw
     rcases List.mem_cons.1 ((Q p).1 hp) with rfl | hp
     ·exact ⟨(Q r).2 (hr r bw).1,(hr r bw).2⟩
     ·obtain ⟨J,R⟩:=hA.refs p hp r bw
      exact ⟨List.mem_append_left _ J,R⟩
    cases g:os[q].dst with
    | none=>
     refine ⟨hA.len,?_,?_,ay⟩
     ·intro p hp o d i z
      rcases List.mem_cons.1 ((Q p).1 hp) with rfl | hp
      ·rw[A] at i;cases i;rw[g] at z;cases z
      ·rw[hu p hp];exact hA.done p hp o d i z
     ·intro s hs;exact hA.rest s fun p hp=>hs p (List.mem_append_left _ hp)
    | some d0=>
     have av:d0<C.length:=hd d0 (by simp only[S3,List.mem_filterMap];exact ⟨os[q],List.getElem_mem _,g⟩)
     refine ⟨by simp[put,hA.len],?_,?_,ay⟩
     ·intro p hp o d i z
      rcases List.mem_cons.1 ((Q p).1 hp) with rfl | hp2
      ·rw[A] at i;cases i
       rw[g] at z;cases z
       simp only[put]
       rw[List.getElem?_set_self (by rw[hA.len];exact av),hv]
      ·have Y:d0≠d:=by
        rintro rfl
        have:=Zd os hn p q o os[q] d0 i A z g
        subst this;exact O hp2
       simp only[put]
       rw[List.getElem?_set_ne Y,hu p hp2]
       exact hA.done p hp2 o d i z
     ·intro s hs
      have Y:d0≠s:=fun e=>hs q (by simp) os[q] A (by rw[g,e])
      simp only[put]
      rw[List.getElem?_set_ne Y]
      exact hA.rest s fun p hp=>hs p (List.mem_append_left _ hp)
   cases t:mv os[q] with
   | some x=>
    have W:Qt os (C.map .val) q=entOf (O5 (C.map .val) 0 (os.take q)) x:=by simp[Qt,A,Ro,t]
    -- a move: what the operand holds
    have hx:ev l x=(entOf (O5 (C.map .val) 0 (os.take q)) x).at u∧ ∀r,entOf (O5 (C.map .val) 0 (os.take q)) x= .ref r→r∈c∧ ∃o,os[r]? =some o∧mv o=none:=by
     cases x with
     | tmp s=>
      have hs:s∈F0 os[q]:=by
       unfold mv at t
       split at t
       ·cases t
       ·simp only[F0,List.mem_filterMap]
        split at t
        ·rename_i y hy;cases t;exact ⟨.tmp s,by rw[hy];simp[Op.operands],rfl⟩
        ·rename_i y hy;cases t;exact ⟨.tmp s,by rw[hy];simp[Op.operands],rfl⟩
        ·cases t
      exact ae s (.inr hs)
     | _=>exact ⟨rfl,fun r hr=>by cases hr⟩
    have a9:os[q].guard=none:=by
     unfold mv at t
     split at t
     ·cases t
     ·assumption
    simp only[Z6,a9]
    have a2:L1 P l os[q] w (fun v w=>Z6 P ops W4 (f.filterMap (os[·]?)) (put l os[q].dst v) w)=Z6 P ops W4 (f.filterMap (os[·]?)) (put l os[q].dst (ev l x)) w:=by
     unfold mv at t
     rw[a9] at t
     simp only at t
     split at t
     ·rename_i y hy;cases t;simp only[L1,hy]
     ·rename_i y hy;cases t;simp only[L1,hy]
     ·cases t
    rw[a2]
    refine step _ u w (fun _ _=>rfl) (by rw[W];exact hx.1) (fun r hr=>by
     rw[W] at hr
     obtain ⟨J,R⟩:=hx.2 r hr
     exact ⟨List.mem_cons_of_mem _ J,R⟩) hB (fun r hr o i N=>by
     rcases List.mem_cons.1 hr with rfl | hr
     ·rw[A] at i;cases i;rw[t] at N;cases N
     ·exact ⟨(hΦ r hr o i N).1,fun j hj=>List.mem_cons_of_mem _ ((hΦ r hr o i N).2 j hj)⟩)
   | none=>
    have W:Qt os (C.map .val) q= .ref q:=by simp[Qt,A,Ro,t]
    have bg:=hW.run q os[q] a0 t (bl _ (List.getElem_mem _)) u w hB
    rw[a5 q (by omega),Nat.zero_add] at bg
    have ct:=hW.stable
    have br:=bg (fun j hj=>by
     obtain ⟨s,hs,he⟩:=Bf (Bn hj)
     obtain ⟨J,o,R,h3⟩:=(ae s (bv s hs)).2 j he
     exact (hΦ j J o R h3).1)
    have b3: ∀j∈refs ops (O5 (C.map .val) 0 (os.take q)) os[q],j∈c:=fun j hj=>by
     obtain ⟨s,hs,he⟩:=Bf (Bn hj)
     exact ((ae s (bv s hs)).2 j he).1
    refine Q38 ?_
    rw[Q2g (bl _ (List.getElem_mem _)) (l':=Qd u (O5 (C.map .val) 0 (os.take q))) (fun s hs=>by rw[Iu];exact (ae s (bv s hs)).1)]
    refine Q3s ?_ br
    intro v w' ⟨ch,hφ⟩
    have Y: ∀r∈c,r≠q:=fun r hr e=>O (e▸hr)
    refine step v (fun n=>if n=q then v else u n) w' ?_ (by rw[W];simp[Ent.at]) (fun r hr=>by rw[W] at hr;cases hr;exact ⟨by simp,os[q],A,t⟩) (hT w w' hB ch) ?_
    ·intro p hp
     cases he:Qt os (C.map .val) p with
     | val x=>rfl
     | ref r=>
      have:=Y r (hA.refs p hp r he).1
      simp[Ent.at,this]
    ·intro r hr o i N
     rcases List.mem_cons.1 hr with rfl | hr
     ·rw[A] at i;cases i
      exact ⟨hφ _ (fun x hx=>by simp[Y x (b3 x hx)]) (by simp),fun j hj=>List.mem_cons_of_mem _ (b3 j hj)⟩
     ·obtain ⟨f1,f2⟩:=hΦ r hr o i N
      have b8:=D r hr
      have b2:=Y r hr
      have hl:=hW.loc r o (by rw[X r b8];exact i) N (fun n=>if n=q then v else u n) u (fun x hx=>by
       rw[a5 r (by omega),Nat.zero_add] at hx
       have:x≠q:=by
        rcases List.mem_cons.1 hx with rfl | hx
        ·exact b2
        ·exact Y x (f2 x hx)
       simp[this])
      have hs:=ct r o (by rw[X r b8];exact i) N
      rw[Nat.zero_add] at hs hl
      refine ⟨?_,fun j hj=>List.mem_cons_of_mem _ (f2 j hj)⟩
      rw[hl]
      exact hs _ _ _ f1 ch
def X2D:Op→Bool
 | .move _ | .assign _ | .fieldAddr .. | .indexAddr .. | .field .. | .index .. | .binOp .. | .unOp .. | .extract .. | .pick .. | .makeFunc .. | .nilCheck _ | .slice .. =>true
 | _=>false
def ready (ops:List Oper) (a:List Nat) (j:Nat):Bool:=(A4 ops j).all (a.contains ·)
def X31 (ops:List Oper) (j:Nat):Bool:=match ops[j]? with | some o=>X2D o.op | none=>false
def Q8H (ops:List Oper):Nat→List Nat→List Nat→List Nat
 | 0,_,a=>a.reverse
 | n+1,b,a=>
  match b.find? (fun j=>X31 ops j&&ready ops a j) with
  | some j=>Q8H ops n (b.erase j) (j::a)
  | none=>match b.find? (ready ops a) with
   | some j=>Q8H ops n (b.erase j) (j::a)
   | none=>a.reverse
def K8 (ops:List Oper):List Nat:=Q8H ops ops.length (List.range ops.length) []
def Qs (ops:List Oper) (a:List Nat) (p q:Nat):Bool:=((Q0r ops []).getD (a.getD q 0) 0).testBit (a.getD p 0)
def U9 (ops:List Oper) (a:List Nat):List Oper:=a.map fun i=>ops.getD i default
def cutA (ops:List Oper) (a:List Nat):Nat→Nat
 | 0=>0
 | j+1=>if (List.range j).all (fun i=>Qs ops a i j||Mz (U9 ops a) i) then cutA ops a j else j+1
def X4i (ops:List Oper) (a:List Nat) (c n:Nat):Bool:=(List.range n).all fun q=>(List.range q).all fun p=>decide (p<c)||Qs ops a p q
def Rf (ops:List Oper) (a:List Nat) (n:Nat):Nat:=if X4i ops a (cutA ops a n) n then cutA ops a n else n
theorem Q4v (ops:List Oper) (a:List Nat): ∀n,cutA ops a n≤n∧ ∀q,cutA ops a n≤q→q<n→ ∀p,p<q→Qs ops a p q=true∨Mz (U9 ops a) p=true
 | 0=>⟨Nat.le_refl _,fun q _ h=>by omega⟩
 | j+1=>by
  obtain ⟨g,f⟩:=Q4v ops a j
  simp only[cutA]
  split
  ·rename_i h
   refine ⟨by omega,fun q c b p d=>?_⟩
   by_cases e:q=j
   ·subst e
    simpa using List.all_eq_true.1 h p (by simpa using d)
   ·exact f q c (by omega) p d
  ·exact ⟨Nat.le_refl _,fun q c b=>by omega⟩
theorem Q8b (ops:List Oper) (a:List Nat) (n:Nat):Rf ops a n≤n∧ ∀q,Rf ops a n≤q→q<n→ ∀p,p<q→Qs ops a p q=true∨(p<Rf ops a n∧Mz (U9 ops a) p=true):=by
 obtain ⟨i,f⟩:=Q4v ops a n
 unfold Rf
 split
 ·rename_i g
  refine ⟨i,fun q d b p e=>?_⟩
  by_cases c:p<cutA ops a n
  ·exact (f q d b p e).imp id fun h=>⟨c,h⟩
  ·left
   have:=List.all_eq_true.1 (List.all_eq_true.1 g q (by simpa using b)) p (by simpa using e)
   simpa [c] using this
 ·exact ⟨Nat.le_refl _,fun q d b=>by omega⟩
def X1r (ops:List Oper) (a:List Nat):Bool:=
 a.length==ops.length&&(List.range ops.length).all (a.contains ·)&&Uk a&&a.all (fun i=>decide (i<ops.length))&&
  (List.range ops.length).all fun q=>(List.range q).all fun p=> !Qs ops a q p
def Sx (ops:List Oper) (n:Nat):Bool:=
 Ls ops&&Q7q (Q0r ops []) ops&&Uk (S3 (U9 ops (K8 ops)))&&(S3 (U9 ops (K8 ops))).all (fun d=>decide (d<n))&&
  (Zo .any ops (List.range ops.length)&&Zo .text ops (List.range ops.length)&&Zo .gc ops (X2X .gc ops ops.length (List.range ops.length) []))&&X1r ops (K8 ops)
theorem Q0A: ∀{l:List Nat},Uk l=true→l.Nodup
 | [],_=>List.nodup_nil
 | x::l,h=>by
  simp only[Uk,Bool.and_eq_true,Bool.not_eq_true'] at h
  exact List.nodup_cons.2 ⟨by simpa using h.1,Q0A h.2⟩
theorem Q6k {ops:List Oper}: ∀(b:List Oper) (a:List Nat),a.length+b.length=ops.length→(∀k,a.length≤k→ops[k]? =b[k-a.length]?)→
 (∀j k,j<a.length→k∈A4 ops j→(a.getD j 0).testBit k=true)→ ∀j k,j<ops.length→k∈A4 ops j→((Q0r b a).getD j 0).testBit k=true
 | [],a,i,_,c=>fun j k p d=>c j k (by simp at i;omega) d
 | o::b,a,i,f,c=>by
  have t:ops[a.length]? =some o:=by rw[f _ (Nat.le_refl _)];simp
  refine Q6k b _ (by simp at i⊢;omega) ?_ ?_
  ·intro k d
   simp only[List.length_append,List.length_cons,List.length_nil] at d⊢
   rw[f k (by omega)]
   obtain ⟨m,u⟩: ∃m,k-a.length=m+1:=⟨k-a.length-1,by omega⟩
   rw[u,List.getElem?_cons_succ]
   congr 1;omega
  ·intro j k p d
   simp only[List.length_append,List.length_cons,List.length_nil] at p
   by_cases g:j<a.length
   ·simp only[List.getD_eq_getElem?_getD,List.getElem?_append_left g]
    simpa only[List.getD_eq_getElem?_getD] using c j k g d
   ·have n:j=a.length:=by omega
    subst n
    simp only[List.getD_eq_getElem?_getD,List.getElem?_append_right (Nat.le_refl _),Nat.sub_self,List.getElem?_cons_zero,Option.getD_some]
    unfold A4 at d
    rw[t] at d
    simp only[Option.map_some,Option.getD_some,List.mem_map] at d
    obtain ⟨e,r,rfl⟩:=d
    have key: ∀(l:List Edge) (s:Nat),(e∈l∨s.testBit e.on=true)→(l.foldl (fun s e=>s ||| 2 ^ e.on ||| (a[e.on]?).getD 0) s).testBit e.on=true:=by
     intro l
     induction l with
     | nil=>intro s h;simpa using h
     | cons x l q=>
      intro s h
      refine q _ ?_
      rcases h with h | h
      ·rcases List.mem_cons.1 h with rfl | h
       ·right;simp
       ·exact .inl h
      ·right;simp[h]
    exact key _ _ (.inl r)
theorem Ce {α β:Type} {f g:α→Option β}: ∀{l:List α},(∀x∈l,f x=g x)→l.filterMap f=l.filterMap g
 | [],_=>rfl
 | x::l,h=>by
  rw[List.filterMap_cons,List.filterMap_cons,h x (by simp),Ce fun y a=>h y (by simp[a])]
structure Arr (ops : List Oper) (ord : List Nat) (L : List Nat) : Prop where
  hpl : ∀ o ∈ U9 ops ord, Yb o.op = true
  hclash : ∀ p q a b, p < q → (U9 ops ord)[p]? = some a → (U9 ops ord)[q]? = some b → (Qk a b || Qk b a) = true → Qs ops ord p q = true
  hg : ∀ q o j b, (U9 ops ord)[q]? = some o → o.guard = some (j, b) → ∃ p, p < q ∧ (U9 ops ord)[p]? = ops[j]? ∧ Qs ops ord p q = true
  hn : L.Nodup
  hlt : ∀ q ∈ L, q < (U9 ops ord).length
  hC : ∀ pre q post, L = pre ++ q :: post → ∀ p, Qs ops ord p q = true → p < (U9 ops ord).length → p ∈ pre
  hLl : L.length = (U9 ops ord).length
theorem Q4x {ops:Array Oper} {n:Nat} (ac:Sx ops.toList n=true) (b:Bool) (t:Nat): ∃L,(Region.schedule b ops t).filterMap (ops[·]?)=L.filterMap ((U9 ops.toList (K8 ops.toList))[·]?)∧Arr ops.toList (K8 ops.toList) L∧(U9 ops.toList (K8 ops.toList)).length=ops.toList.length:=by
 simp only[Sx,Bool.and_eq_true] at ac
 obtain ⟨⟨⟨⟨⟨Y,hc⟩,hn⟩,hd⟩,⟨bd,bc⟩,bf⟩,M⟩:=ac
 generalize K8 ops.toList=c at*
 simp only[X1r,Bool.and_eq_true,beq_iff_eq] at M
 obtain ⟨⟨⟨⟨ah,W⟩,av⟩,N⟩,J⟩:=M
 have Z:=Q0A av
 have af:(U9 ops.toList c).length=ops.toList.length:=by simp[U9,ah]
 have f: ∀p,p<ops.toList.length→c.getD p 0<ops.toList.length:=by
  intro p X
  simp only[List.getD_eq_getElem?_getD]
  rw[List.getElem?_eq_getElem (by omega)]
  have:=List.all_eq_true.1 N c[p] (List.getElem_mem _)
  simpa using this
 have d: ∀p,p<ops.toList.length→(U9 ops.toList c)[p]? =ops.toList[c.getD p 0]? :=by
  intro p X
  have r:=f p X
  simp only[List.getD_eq_getElem?_getD] at r
  rw[List.getElem?_eq_getElem (by omega:p<c.length)] at r
  simp only[Option.getD_some] at r
  simp only[U9,List.getElem?_map,List.getD_eq_getElem?_getD]
  rw[List.getElem?_eq_getElem (by omega:p<c.length)]
  simp only[Option.map_some,Option.getD_some]
  rw[List.getElem?_eq_getElem r]
  simp
 obtain ⟨am,Q,A⟩:=Q4M b ops t Y (fun m=>by cases m<;>exact ⟨_,by assumption⟩)
 have l:=Q2c b ops t
 generalize Region.schedule b ops t=L0 at am Q A l⊢
 have v: ∀i,i<ops.toList.length→i∈c:=fun i C=>by simpa using List.all_eq_true.1 W i (by simpa using C)
 have g: ∀i,i<ops.toList.length→c.idxOf i<ops.toList.length∧c.getD (c.idxOf i) 0=i:=by
  intro i C
  have r:=List.idxOf_lt_length_of_mem (v i C)
  refine ⟨by omega,?_⟩
  simp only[List.getD_eq_getElem?_getD]
  rw[List.getElem?_eq_getElem r]
  simp
 have s: ∀p,p<ops.toList.length→c.idxOf (c.getD p 0)=p:=by
  intro p X
  simp only[List.getD_eq_getElem?_getD]
  rw[List.getElem?_eq_getElem (by omega:p<c.length)]
  simp only[Option.getD_some]
  exact List.Nodup.idxOf_getElem Z p (by omega)
 have al: ∀p q,p<q→q<ops.toList.length→Qs ops.toList c q p=false:=by
  intro p q V u
  have:=List.all_eq_true.1 (List.all_eq_true.1 J q (by simpa using u)) p (by simpa using V)
  simpa using this
 have aw:L0.filterMap (ops[·]?)=(L0.map (c.idxOf ·)).filterMap ((U9 ops.toList c)[·]?):=by
  rw[List.filterMap_map]
  refine Ce fun i C=>?_
  have:=l i C
  have r:=g i (by simpa using this)
  simp only[Function.comp]
  rw[d _ r.1,r.2]
  simp
 refine ⟨L0.map (c.idxOf ·),aw,⟨?_,?_,?_,?_,?_,?_,by simp[Q,ah,U9]⟩,af⟩
 ·intro o ho
  simp only[U9,List.mem_map] at ho
  obtain ⟨i,C,rfl⟩:=ho
  have w:i<ops.toList.length:=by simpa using List.all_eq_true.1 N i C
  simp only[Ls,List.all_eq_true,Bool.and_eq_true] at Y
  have:=(Y (ops.toList[i],i) (by rw[List.mem_zipIdx_iff_getElem?];simpa using w)).1.1
  rw[List.getD_eq_getElem?_getD,List.getElem?_eq_getElem w]
  exact this
 ·intro p q a b' V ha D H
  have X:p<ops.toList.length:=by have:=(List.getElem?_eq_some_iff.1 ha).1;omega
  have u:q<ops.toList.length:=by have:=(List.getElem?_eq_some_iff.1 D).1;omega
  rw[d p X] at ha
  rw[d q u] at D
  have ak: ∀i i' x x',i<i'→ops.toList[i]? =some x→ops.toList[i']? =some x'→(Qk x x'||Qk x' x)=true→((Q0r ops.toList []).getD i' 0).testBit i=true:=by
   intro i i' x x' ao hx ax H
   simp only[Q7q,List.all_eq_true] at hc
   have:=hc (x',i') (by rw[List.mem_zipIdx_iff_getElem?];simpa using ax) (x,i) (by rw[List.mem_zipIdx_iff_getElem?];simpa using hx)
   simp only[ao,H,decide_true,Bool.not_true,Bool.false_or,Bool.or_self] at this
   exact this
  have ad:c.getD p 0≠c.getD q 0:=by
   intro e
   have:=s p X
   rw[e,s q u] at this
   omega
  rcases Nat.lt_or_gt_of_ne ad with h | h
  ·exact ak _ _ a b' h ha D H
  ·have r:=ak _ _ b' a h D ha (by rw[Bool.or_comm];exact H)
   have z:=al p q V u
   unfold Qs at z
   rw[r] at z;cases z
 ·intro q o j b' u a1
  have E:q<ops.toList.length:=by have:=(List.getElem?_eq_some_iff.1 u).1;omega
  rw[d q E] at u
  have O:j∈A4 ops.toList (c.getD q 0):=by
   have ag:=Y
   simp only[Ls,List.all_eq_true,Bool.and_eq_true] at ag
   have:=(ag (o,c.getD q 0) (by rw[List.mem_zipIdx_iff_getElem?];simpa using u)).2
   rw[a1] at this
   simp only[List.any_eq_true] at this
   obtain ⟨e,a5,az⟩:=this
   unfold A4
   rw[u]
   simp only[Option.map_some,Option.getD_some,List.mem_map]
   exact ⟨e,a5,by simpa using az⟩
  have ay:=Ih Y _ (f q E) j O
  have hj:j<ops.toList.length:=by have:=f q E;omega
  have D:=Q6k (ops:=ops.toList) ops.toList [] (by simp) (by simp) (by intro j k hj;simp at hj) _ j (f q E) O
  obtain ⟨r,z⟩:=g j hj
  have R:Qs ops.toList c (c.idxOf j) q=true:=by unfold Qs;rw[z];exact D
  refine ⟨c.idxOf j,?_,by rw[d _ r,z],R⟩
  rcases Nat.lt_trichotomy (c.idxOf j) q with h | h | h
  ·exact h
  ·rw[←h,z] at ay;omega
  ·have:=al q _ h r
   rw[R] at this;cases this
 ·refine List.pairwise_map.2 (am.imp_of_mem ?_)
  intro x y hx hy ap a4
  have r:=(g x (by simpa using l x hx)).2
  have z:=(g y (by simpa using l y hy)).2
  exact ap (by rw[←r,←z,a4])
 ·intro q u
  simp only[List.mem_map] at u
  obtain ⟨i,C,rfl⟩:=u
  have:=(g i (by simpa using l i C)).1
  omega
 ·intro bh q ba hL p D X
  rw[List.map_eq_append_iff] at hL
  obtain ⟨ae,aq,ab,aj,B⟩:=hL
  rw[List.map_eq_cons_iff] at B
  obtain ⟨i,U,hr,C,ar⟩:=B
  subst hr C aj
  have w:i<ops.toList.length:=by simpa using l i (by rw[ab];simp)
  obtain ⟨r,z⟩:=g i w
  unfold Qs at D
  rw[z] at D
  have a7:p<ops.toList.length:=by omega
  have:=Q5b Y A i w (c.getD p 0) ae U ab D
  rw[List.mem_map]
  exact ⟨c.getD p 0,this,s p a7⟩
theorem X1S (P:Program) (ops:Array Oper) (T:World→World→Prop) (B:World→Prop) (W4:List Value→World→Prop) (i:List Value) (g:Sx ops.toList i.length=true)
 (z: ∀w w',B w→T w w'→B w')
 (h:chain P ops.toList T B W4 ((U9 ops.toList (K8 ops.toList)).drop (Rf ops.toList (K8 ops.toList) ops.toList.length)) 0
  ((U9 ops.toList (K8 ops.toList)).take (Rf ops.toList (K8 ops.toList) ops.toList.length)) (i.map .val) [] [])
 (b:Bool) (t:Nat) (w:World) (y:B w):Z6 P ops.toList W4 ((Region.schedule b ops t).filterMap (ops[·]?)) i w:=by
 obtain ⟨L,k,f,r⟩:=Q4x g b t
 simp only[Sx,Bool.and_eq_true] at g
 obtain ⟨⟨⟨⟨⟨n,Q⟩,M⟩,J⟩,⟨H,E⟩,s⟩,o⟩:=g
 generalize K8 ops.toList=a at*
 obtain ⟨Φ,_,D⟩:=Q1g P ops.toList T B W4 _ _ 0 (i.map .val) [] [] (by intro e n j O;simp only[List.mem_map] at n;obtain ⟨v,_,rfl⟩:=n;cases O) (by simp) (by simp[Vd]) h
 rw[k]
 obtain ⟨l,c⟩:=Q8b ops.toList a ops.toList.length
 exact X48 (os:=U9 ops.toList a) (m:=Rf ops.toList a ops.toList.length) (T:=T) (B:=B) (Φ:=Φ) (Qs ops.toList a) f.hpl M (fun d N=>by simpa using List.all_eq_true.1 J d N) f.hclash f.hg (by omega)
  (fun q u C p A=>c q u (by omega) p A) z D L f.hn f.hLl f.hlt f.hC _ [] rfl (by simp) i (fun _=>undef) w
  ⟨rfl,by simp,fun _ _=>rfl,by simp⟩ y (by simp)
def Uw {α:Type} (P:Program) (s:Sem α):Prop:= ∀w v w',s.run P w= .ok v w'→w'=w
section
variable {P : Program} {α β : Type}
theorem My (a:α):Uw P (Pure.pure a:Sem α):=fun w v w' h=>by simp at h;exact h.2.symm
theorem Q6Q (m:String):Uw P (stuck m:Sem α):=fun w v w' h=>by simp at h
theorem Yt {s:Sem α} {f:α→Sem β} (d:Uw P s) (c: ∀a,Uw P (f a)):Uw P (s>>=f):=fun w v w' h=>by
 rw[Sem.run_bind] at h
 cases b:s.run P w with
 | halt x w1=>rw[b] at h;simp[Result.andThen] at h
 | ok a w1=>
  rw[b] at h
  have:=d _ _ _ b
  subst this
  exact c a _ _ _ h
theorem Q34 (a:Addr) (m:Mode):Uw P (load a m):=fun w v w' h=>by
 unfold load at h
 simp only[Sem.run] at h
 split at h
 ·cases h;rfl
 ·split at h
  ·cases h;rfl
  ·cases h
theorem Q3N (t:TypeId):Uw P (typeInfo t):=fun w v w' h=>by
 unfold typeInfo at h
 simp only[Sem.run_bind,run_program,Result.andThen_ok] at h
 split at h<;>simp at h
 exact h.2.symm
theorem Q2E (t:TypeId):Uw P (underlying t):=fun w v w' h=>by
 unfold underlying at h
 simp only[Sem.run_bind,run_program,Result.andThen_ok] at h
 split at h<;>simp at h
 exact h.2.symm
theorem Q76 (t:TypeId):Uw P (isAgg t):=by
 unfold isAgg
 refine Yt (Q2E t) fun d=>?_
 split<;>exact My _
theorem Q5a (t:TypeId):Uw P (sizeOf t):=Yt (Q3N t) fun _=>My _
theorem Q28 (a:Addr): ∀(n i:Nat) (b:Array Value),Uw P (loadCellsFrom a i n b)
 | 0,i,b=>My _
 | n+1,i,b=>Yt (Q34 _ _) fun v=>Q28 a n (i+1) _
theorem Q4K (t:TypeId) (a:Addr):Uw P (loadVar t a):=by
 unfold loadVar
 refine Yt (Q76 t) fun b=>?_
 split
 ·exact Yt (Q5a t) fun n=>Yt (Q28 a n 0 #[]) fun cs=>My _
 ·exact Q34 _ _
theorem Q5D (t:TypeId) (v:Value):Uw P (Instr.loadAt t v):=by
 unfold Instr.loadAt
 refine Yt ?_ fun a=>Q4K t a
 unfold Instr.sureAddr
 split
 ·exact My _
 ·exact Q6Q _
def Ur (P:Program) (s:Sem α):Prop:= ∀w v w1,s.run P w= .ok v w1→w1=w∧ ∀w',s.run P w'= .ok v w'
theorem Jy (a:α):Ur P (Pure.pure a:Sem α):=fun w v w' h=>by simp at h⊢;exact ⟨h.2.symm,h.1⟩
theorem Nd (m:String):Ur P (stuck m:Sem α):=fun w v w' h=>by simp at h
theorem Qm {s:Sem α} {f:α→Sem β} (j:Ur P s) (d: ∀a,Ur P (f a)):Ur P (s>>=f):=fun w v w' h=>by
 rw[Sem.run_bind] at h
 cases b:s.run P w with
 | halt x w1=>rw[b] at h;simp[Result.andThen] at h
 | ok a w1=>
  rw[b] at h
  obtain ⟨rfl,g⟩:=j _ _ _ b
  obtain ⟨i,e⟩:=d a _ _ _ h
  refine ⟨i,fun c=>?_⟩
  rw[Sem.run_bind,g c]
  exact e c
theorem Q4O (t:TypeId):Ur P (typeInfo t):=fun w v w' h=>by
 unfold typeInfo at h⊢
 simp only[Sem.run_bind,run_program,Result.andThen_ok] at h⊢
 split at h<;>simp at h
 rename_i i a
 refine ⟨h.2.symm,fun w'=>?_⟩
 simp[a,h.1]
theorem Cw (t:TypeId):Ur P (underlying t):=fun w v w' h=>by
 unfold underlying at h⊢
 simp only[Sem.run_bind,run_program,Result.andThen_ok] at h⊢
 split at h<;>simp at h
 rename_i i a
 refine ⟨h.2.symm,fun w'=>?_⟩
 simp[a,h.1]
theorem Q0m (v:Value) (i:Nat):Ur P (Instr.extract v i):=by
 unfold Instr.extract
 split
 ·split
  ·exact Jy _
  ·exact Nd _
 ·exact Nd _
theorem Q9s (v:Value):Ur P (Instr.sureAddr v):=by
 unfold Instr.sureAddr
 split
 ·exact Jy _
 ·exact Nd _
theorem Q3C {s:Sem α} (h: ∀w v w',s.run P w≠ .ok v w'):Ur P s:=fun w v w' e=>absurd e (h w v w')
theorem Q3S {s:Sem α} {f:α→Sem β} (c: ∀a w v w',(f a).run P w≠ .ok v w'): ∀w v w',(s>>=f).run P w≠ .ok v w':=fun w v w' h=>by
 rw[Sem.run_bind] at h
 cases b:s.run P w with
 | halt x w1=>rw[b] at h;simp[Result.andThen] at h
 | ok a w1=>rw[b] at h;exact c a _ _ _ h
theorem Q3r (e:Int×Int×Bool×BoundsCode): ∀w v w',(runtimePanic (.bounds e.1 e.2.1 e.2.2.1 e.2.2.2):Sem α).run P w≠ .ok v w':=by
 unfold runtimePanic
 exact Q3S fun p=>fun w v w' h=>by cases h
theorem Q27 (k:IntKind) (x y:Int) (c:BoundsCode):Ur P (boundsPanic k x y c:Sem α):=Q3C (by
 unfold boundsPanic
 dsimp only
 split
 ·exact Q3S fun b=>Q3r (_,_,_,_)
 ·exact Q3S fun b=>Q3r (_,_,_,_))
theorem Q10 (t:TypeId) (x i:Value):Ur P (Instr.indexAt t x i):=by
 unfold Instr.indexAt
 refine Qm ?_ fun q=>?_
 ·unfold asIntOf
  split
  ·exact Jy _
  ·exact Q3C fun w v w' h=>by cases h
  ·exact Nd _
 refine Qm (Cw t) fun d=>?_
 dsimp only
 have key: ∀(z:Option Addr×Nat×TypeId),Ur P (match z with
  | (base,b,elem)=>do
   let __do_lift←underlying t
   have c:Bool:=decide (b≤1)&&match __do_lift with
    | TypeDesc.array b elem=>true
    | x=>false
   match base with
    | some a=>
     if 0≤q.snd∧q.snd< ↑b then do
      let __do_lift←sizeOf elem
      pure (Value.pointer (some (a.add (q.snd.toNat*__do_lift))))
     else
      if c=true then unsupported (Unsupported.noEntry "op/indexAddr.an index out of range at an array of length 0 or 1 (ledger 616)")
      else boundsPanic q.fst q.snd (↑b) BoundsCode.index
    | none=>boundsPanic q.fst q.snd 0 BoundsCode.index):=by
  rintro ⟨base,b,elem⟩
  dsimp only
  refine Qm (Cw t) fun g=>?_
  cases base with
  | none=>exact Q27 _ _ _ _
  | some a=>
   dsimp only
   by_cases f:0≤q.snd∧q.snd< ↑b
   ·rw[if_pos f]
    exact Qm (Qm (Q4O _) fun _=>Jy _) fun n=>Jy _
   ·rw[if_neg f]
    by_cases e:(decide (b≤1)&&match g with
     | TypeDesc.array b elem=>true
     | x=>false)=true
    ·rw[if_pos e]
     exact Q3C fun w v w' h=>by cases h
    ·rw[if_neg e]
     exact Q27 _ _ _ _
 split
 ·exact Qm (Q9s _) fun a=>Qm (Jy _) key
 ·exact Qm (Jy _) key
 ·exact Qm (Nd _) key
def Q3H (o:Oper):Bool:=match o.op with | .move _ | .assign _ | .load .. | .extract .. | .indexAddr .. =>true | _=>false
def Q8D (o:Oper):Bool:=match o.op with | .move _ | .assign _ | .extract .. | .indexAddr .. =>true | _=>false
theorem Q3l {s:Sem Value} {w:World} {K:Value→World→Prop} (h:op P (sv s) w K): ∃v w',s.run P w= .ok v w'∧K v w':=by
 rw[T7] at h
 unfold P8 sv at h
 rw[Sem.run_bind] at h
 cases a:s.run P w with
 | halt x w1=>rw[a] at h;exact h.elim
 | ok v w1=>rw[a] at h;exact ⟨v,w1,rfl,h⟩
theorem Q2Q {s:Sem Value} {v:Value} {w w':World} {K:Value→World→Prop} (h:s.run P w= .ok v w') (k:K v w'):op P (sv s) w K:=by
 rw[T7]
 unfold P8 sv
 rw[Sem.run_bind,h]
 exact k
theorem Q5X {l:List Value} {o:Oper} {w:World} {K:Value→World→Prop} (h:Q3H o=true) (e:L1 P l o w K): ∃v,K v w∧ ∀c,c v w→L1 P l o w c:=by
 obtain ⟨d,p,i,pos,j,g⟩:=o
 cases p<;>(first | (simp[Q3H] at h;done) | skip)<;>simp only[L1] at e⊢
 ·exact ⟨_,e,fun c a=>a⟩
 ·exact ⟨_,e,fun c a=>a⟩
 ·obtain ⟨v,w',b,f⟩:=Q3l e
  have:=Q5D _ _ _ _ _ b
  subst this
  exact ⟨v,f,fun c a=>Q2Q b a⟩
 ·obtain ⟨v,w',b,f⟩:=Q3l e
  have:=(Q10 _ _ _ _ _ _ b).1
  subst this
  exact ⟨v,f,fun c a=>Q2Q b a⟩
 ·obtain ⟨v,w',b,f⟩:=Q3l e
  have:=(Q0m _ _ _ _ _ b).1
  subst this
  exact ⟨v,f,fun c a=>Q2Q b a⟩
theorem Q6f {l:List Value} {o:Oper} {w:World} {K:Value→World→Prop} (h:Q8D o=true) (c:L1 P l o w K): ∃v,K v w∧ ∀w' b,b v w'→L1 P l o w' b:=by
 obtain ⟨d,p,j,pos,k,g⟩:=o
 cases p<;>(first | (simp[Q8D] at h;done) | skip)<;>simp only[L1] at c⊢
 ·exact ⟨_,c,fun w' b a=>a⟩
 ·exact ⟨_,c,fun w' b a=>a⟩
 ·obtain ⟨v,w',i,f⟩:=Q3l c
  obtain ⟨rfl,e⟩:=Q10 _ _ _ _ _ _ i
  exact ⟨v,f,fun w' b a=>Q2Q (e w') a⟩
 ·obtain ⟨v,w',i,f⟩:=Q3l c
  obtain ⟨rfl,e⟩:=Q0m _ _ _ _ _ i
  exact ⟨v,f,fun w' b a=>Q2Q (e w') a⟩
end
structure Swap (ops : List Oper) (a b : Oper) : Prop where
  pa : Yb a.op = true
  pb : Yb b.op = true
  ga : a.guard = none
  ab : ∀ d, a.dst = some d → d ∉ R0 ops b ++ F0 b
  ba : ∀ d, b.dst = some d → d ∉ R0 ops a ++ F0 a
  dd : ∀ d, a.dst = some d → b.dst ≠ some d
  gb : ∀ j c, b.guard = some (j, c) → ((ops[j]?).bind (·.dst)).isSome = true
  rd : (Q3H a = true ∧ Q3H b = true ∧ b.guard = none) ∨ Q8D a = true
section
variable {P : Program} {ops : List Oper} {W4 : List Value → World → Prop}
theorem Q2y {l:List Value} {d:Option Nat} {v:Value} {s:Nat} (h: ∀e,d=some e→e≠s):get (put l d v) s=get l s:=by
 cases d with
 | none=>rfl
 | some e=>simp only[put,get,List.getD_eq_getElem?_getD,List.getElem?_set_ne (h e rfl)]
theorem Q90 {l:List Value} {d e:Option Nat} {v u:Value} (h: ∀x,d=some x→e≠some x):put (put l d v) e u=put (put l e u) d v:=by
 cases d with
 | none=>rfl
 | some d=>cases e with
  | none=>rfl
  | some e=>simp only[put];exact List.set_comm _ _ (by intro a;subst a;exact h d rfl rfl)
theorem Q4o {o:Oper} {s:Nat} (a:Operand.tmp s∈o.op.operands):s∈F0 o:=by
 simp only[F0,List.mem_filterMap]
 exact ⟨.tmp s,by simpa using a,rfl⟩
theorem Q6V {a b:Oper} {R:List Oper} {l:List Value} {w:World} (Y:Swap ops a b) (h:Z6 P ops W4 (a::b::R) l w):Z6 P ops W4 (b::a::R) l w:=by
 obtain ⟨pa,X,V,E,M,W,Z,C⟩:=Y
 have p: ∀v,L1 P (put l a.dst v) b=L1 P l b:=fun v=>Dy X fun x y=>by
  cases x with
  | tmp s=>exact Q2y fun e m f=>E e m (List.mem_append_right _ (f▸Q4o y))
  | _=>rfl
 have n: ∀v,L1 P (put l b.dst v) a=L1 P l a:=fun v=>Dy pa fun x y=>by
  cases x with
  | tmp s=>exact Q2y fun e m f=>M e m (List.mem_append_right _ (f▸Q4o y))
  | _=>rfl
 have o: ∀v u,put (put l b.dst u) a.dst v=put (put l a.dst v) b.dst u:=fun v u=>(Q90 W).symm
 simp only[Z6,V] at h⊢
 cases k:b.guard with
 | none=>
  simp only[k] at h⊢
  rcases C with ⟨Q,L,_⟩ | fa
  ·obtain ⟨D,g,i⟩:=Q5X Q h
   rw[p] at g
   obtain ⟨B,N,O⟩:=Q5X L g
   refine O _ ?_
   rw[n]
   exact i _ (by rw[o];exact N)
  ·obtain ⟨D,g,i⟩:=Q6f fa h
   rw[p] at g
   refine K6 (fun B w' z=>?_) g
   rw[n]
   exact i w' _ (by rw[o];exact z)
 | some q=>
  obtain ⟨j,c⟩:=q
  rcases C with ⟨_,_,J⟩ | fa
  ·rw[k] at J;cases J
  obtain ⟨d,H⟩:=Option.isSome_iff_exists.1 (Z j c k)
  have r:d∈R0 ops b:=by simp[R0,k,H]
  have U: ∀v,get (put l a.dst v) d=get l d:=fun v=>Q2y fun e m f=>E e m (List.mem_append_left _ (f▸r))
  simp only[k,H] at h⊢
  obtain ⟨D,g,i⟩:=Q6f fa h
  rw[p,U] at g
  refine Q0p ((Lq g).imp (fun ⟨A,t⟩=>⟨A,K6 (fun B w' z=>?_) t⟩) (fun ⟨A,t⟩=>⟨A,?_⟩))
  ·rw[n];exact i w' _ (by rw[o];exact z)
  ·rw[n];exact i w _ (by rw[o];exact t)
theorem Q2r {a:Oper} {R R':List Oper} {l:List Value} {w:World} (b: ∀l w,Z6 P ops W4 R l w→Z6 P ops W4 R' l w) (h:Z6 P ops W4 (a::R) l w):Z6 P ops W4 (a::R') l w:=by
 simp only[Z6] at h⊢
 cases k:a.guard with
 | none=>simp only[k] at h⊢;exact K6 (fun v w f=>b _ _ f) h
 | some q=>
  obtain ⟨j,c⟩:=q
  simp only[k] at h⊢
  cases i:(ops[j]?).bind (·.dst) with
  | none=>simp only[i] at h⊢;exact b _ _ h
  | some d=>
   simp only[i] at h⊢
   exact Q0p ((Lq h).imp (fun ⟨g,e⟩=>⟨g,K6 (fun m w' f=>b _ _ f) e⟩) (fun ⟨g,e⟩=>⟨g,b _ _ e⟩))
theorem Q0x {q:Oper} {R:List Oper}: ∀(A:List Oper) {l:List Value} {w:World},(∀a∈A,Swap ops a q)→Z6 P ops W4 (A++q::R) l w→Z6 P ops W4 (q::(A++R)) l w
 | [],_,_,_,h=>h
 | a::A,l,w,c,h=>Q6V (c a (by simp)) (Q2r (R:=A++q::R) (fun _ _ h=>Q0x A (fun b d=>c b (by simp[d])) h) h)
theorem Ni: ∀(A:List Oper) {B:List Oper} {l:List Value} {w:World},Z6 P ops W4 (A++B) l w=Z6 P ops (fun l w=>Z6 P ops W4 B l w) A l w
 | [],B,l,w=>rfl
 | a::A,B,l,w=>by
  simp only[List.cons_append,Z6]
  split
  ·congr 1;funext v w;exact Ni A
  ·split
   ·congr 1;funext v w;exact Ni A
   ·exact Ni A
theorem Q86 {A B B':List Oper} {l:List Value} {w:World} (b: ∀l w,Z6 P ops W4 B l w→Z6 P ops W4 B' l w): ∀{l:List Value} {w:World},Z6 P ops W4 (A++B) l w→Z6 P ops W4 (A++B') l w:=by
 induction A with
 | nil=>exact fun h=>b _ _ h
 | cons a A c=>exact fun h=>Q2r (fun _ _ h=>c h) h
theorem Q7c (os:List Oper) (i:Nat→Nat→Bool) (r: ∀p q a b,p<q→os[p]? =some a→os[q]? =some b→i p q=false→Swap ops a b):
 ∀(n:Nat) (W4:List Value→World→Prop) (L:List Nat) (l:List Value) (w:World),L.Nodup→L.length=n→(∀q∈L,q<n)→n≤os.length→L.Pairwise (fun q p=>p<q→i p q=false)→
  Z6 P ops W4 (os.take n) l w→Z6 P ops W4 (L.filterMap (os[·]?)) l w
 | 0,W4,L,l,w,v,y,g,z,C,h=>by
  have:L=[]:=List.eq_nil_of_length_eq_zero y
  subst this;exact h
 | n+1,W4,L,l,w,v,y,g,z,C,h=>by
  have V:n∈L:=Classical.byContradiction fun t=>by
   have U:=G5 n L v fun k N=>by
    have o:=g k N
    have M:k≠n:=fun e=>t (e▸N)
    omega
   omega
  obtain ⟨A,B,rfl⟩:=List.append_of_mem V
  have c:n<os.length:=by omega
  have d:os[n]? =some os[n]:=List.getElem?_eq_getElem c
  have j:=List.nodup_append.1 v
  have H:n∉B:=(List.nodup_cons.1 j.2.1).1
  have E:n∉A:=fun e=>j.2.2 n e n (by simp) rfl
  have W:os.take (n+1)=os.take n++[os[n]]:=(List.take_append_getElem c).symm
  rw[W,Ni] at h
  have s: ∀q∈A++B,q<n:=fun q J=>by
   have U:q<n+1:=g q (by rcases List.mem_append.1 J with h | h<;>simp[h])
   have o:q≠n:=fun e=>by
    subst e
    rcases List.mem_append.1 J with h | h
    ·exact E h
    ·exact H h
   omega
  have f:(A++B).Sublist (A++n::B):=List.Sublist.append (List.Sublist.refl A) (List.sublist_cons_self n B)
  have o:=Q7c os i r n _ (A++B) l w (v.sublist f) (by simp at y⊢;omega) s (by omega) (C.sublist f) h
  rw[←Ni] at o
  rw[List.filterMap_append,List.append_assoc] at o
  rw[List.filterMap_append,List.filterMap_cons,d]
  refine Q86 (l:=l) (w:=w) (fun l w M=>?_) o
  have:=Q0x (R:=[]) (B.filterMap (os[·]?)) (fun a O=>?_) M
  ·rwa [List.append_nil] at this
  ·obtain ⟨p,m,D⟩:=List.mem_filterMap.1 O
   have u:=s p (List.mem_append_right _ m)
   refine r p n a _ u D d ?_
   have Q:=(List.pairwise_append.1 C).2.1
   exact (List.pairwise_cons.1 Q).1 p m u
end
def X1t (ops:List Oper) (a b:Oper):Bool:=
 (match a.guard with | none=>true | some _=>false)&&(match b.guard with | none=>true | some (j,_)=>match (ops[j]?).bind (·.dst) with | some _=>true | none=>false)&&
  ((Q3H a&&Q3H b&&(match b.guard with | none=>true | some _=>false))||Q8D a)
def X4c (o:Oper):Bool:=match o.op with | .call c=>(match c.callee with | .value (.func _)=>true | _=>false) | _=>false
def Q8h (ops:List Oper) (a:List Nat):Bool:=
 ops.any Q8K&&ops.any X4c&&(List.range ops.length).all fun q=>(List.range q).all fun p=>Qs ops a p q||X1t ops (ops.getD (a.getD p 0) default) (ops.getD (a.getD q 0) default)
theorem Gz {α:Type} {R:α→α→Prop}: ∀(a b:List α) {L:List α},L=b++a→(∀b q a,L=b++q::a→ ∀p∈a,R q p)→a.Pairwise R
 | [],_,_,_,_=>List.Pairwise.nil
 | q::a,b,L,c,h=>List.pairwise_cons.2 ⟨h b q a c,Gz a (b++[q]) (by rw[c];simp) h⟩
theorem X2K (P:Program) (ops:Array Oper) (W4:List Value→World→Prop) (V:List Value) (D:Sx ops.toList V.length=true) (Q:Q8h ops.toList (K8 ops.toList)=true)
 (b:Bool) (t:Nat) (w:World) (h:Z6 P ops.toList W4 (U9 ops.toList (K8 ops.toList)) V w):Z6 P ops.toList W4 ((Region.schedule b ops t).filterMap (ops[·]?)) V w:=by
 obtain ⟨L,W,m,ai⟩:=Q4x D b t
 simp only[Sx,Bool.and_eq_true] at D
 obtain ⟨⟨⟨⟨⟨he,hc⟩,hn⟩,U⟩,⟨av,ar⟩,am⟩,ag⟩:=D
 generalize K8 ops.toList=f at*
 rw[W]
 refine Q7c (U9 ops.toList f) (Qs ops.toList f) (fun p q a k C s r E=>?_) _ W4 L V w m.hn rfl (fun q hq=>by rw[m.hLl];exact m.hlt q hq) (by rw[m.hLl];exact Nat.le_refl _) ?_ (by rw[m.hLl,List.take_length];exact h)
 ·have Z:q<ops.toList.length:=by have:=(List.getElem?_eq_some_iff.1 r).1;omega
  have ak:p<ops.toList.length:=by omega
  have v: ∀i o,(U9 ops.toList f)[i]? =some o→ops.toList.getD (f.getD i 0) default=o:=by
   intro i o B
   unfold U9 at B
   rw[List.getElem?_map] at B
   cases ho:f[i]? with
   | none=>rw[ho] at B;cases B
   | some x=>
    rw[ho] at B
    simp only[Option.map_some,Option.some.injEq] at B
    rw[List.getD_eq_getElem?_getD (l:=f),ho];exact B
  have z:(Qk a k||Qk k a)=false:=by
   cases A:Qk a k||Qk k a with
   | false=>rfl
   | true=>rw[m.hclash p q a k C s r A] at E;cases E
  rw[Bool.or_eq_false_iff] at z
  simp only[Q8h,Bool.and_eq_true] at Q
  have X:=List.all_eq_true.1 (List.all_eq_true.1 Q.2 q (by simpa using Z)) p (by simpa using C)
  rw[E,Bool.false_or,v p a s,v q k r] at X
  simp only[X1t,Bool.and_eq_true,Bool.or_eq_true] at X
  obtain ⟨⟨g1,R⟩,g3⟩:=X
  have H:a.guard=none:=by
   cases A:a.guard with
   | none=>rfl
   | some _=>rw[A] at g1;cases g1
  have c1: ∀d,a.dst=some d→d∉F0 k∧k.dst≠some d:=fun d U=>by
   have:=z.1
   unfold Qk at this
   rw[U] at this
   simp only[Bool.or_eq_false_iff] at this
   exact ⟨fun e=>by simp[e] at this,fun e=>by simp[e] at this⟩
  have c2: ∀d,k.dst=some d→d∉F0 a:=fun d U=>by
   have:=z.2
   unfold Qk at this
   rw[U] at this
   simp only[Bool.or_eq_false_iff] at this
   exact fun e=>by simp[e] at this
  refine ⟨m.hpl a (List.mem_of_getElem? s),m.hpl k (List.mem_of_getElem? r),H,fun d g=>?_,fun d g=>?_,fun d g=>(c1 d g).2,fun j c n=>?_,?_⟩
  ·rw[List.mem_append,not_or]
   refine ⟨fun e=>?_,(c1 d g).1⟩
   unfold R0 at e
   cases n:k.guard with
   | none=>rw[n] at e;simp at e
   | some q0=>
    obtain ⟨j,c⟩:=q0
    obtain ⟨p',ao,J,N⟩:=m.hg q k j c r n
    rw[n] at e
    simp only at e
    cases u:ops.toList[j]?.map (·.dst) with
    | none=>
     cases M:ops.toList[j]? with
     | none=>rw[M] at e;simp at e
     | some oj=>rw[M] at u;cases u
    | some dj=>
     cases M:ops.toList[j]? with
     | none=>rw[M] at u;cases u
     | some oj=>
      rw[M] at e J
      simp only[Option.bind_some] at e
      cases y:oj.dst with
      | none=>rw[y] at e;simp at e
      | some d2=>
       rw[y] at e
       simp only[List.mem_singleton] at e
       subst e
       have:=Zd (U9 ops.toList f) hn p' p oj a d J s y g
       subst this
       rw[N] at E;cases E
  ·rw[List.mem_append,not_or]
   exact ⟨fun e=>by simp[R0,H] at e,c2 d g⟩
  ·rw[n] at R
   simp only at R
   cases A:(ops.toList[j]?).bind (·.dst) with
   | none=>rw[A] at R;cases R
   | some _=>rfl
  ·rcases g3 with ⟨⟨g3,g4⟩,g5⟩ | g3
   ·refine .inl ⟨g3,g4,?_⟩
    cases A:k.guard with
    | none=>rfl
    | some _=>rw[A] at g5;cases g5
   ·exact .inr g3
 ·refine Gz L [] (L:=L) rfl fun Y q O hL p hp C=>?_
  cases E:Qs ops.toList f p q with
  | false=>rfl
  | true=>
   have h1:=m.hC Y q O hL p E (m.hlt p (by rw[hL];simp[hp]))
   have h2:=m.hn
   rw[hL] at h2
   exact absurd rfl ((List.nodup_append.1 h2).2.2 p h1 p (by simp[hp]))
theorem X1a: ∃f:World→(World→Prop)→Prop,f=fun w A=>A w.drew:=⟨_,rfl⟩
noncomputable def sq:World→(World→Prop)→Prop:=Classical.choose X1a
theorem X1m:sq=fun w A=>A w.drew:=Classical.choose_spec X1a
def Q4Y:List Ent→Nat→Ent→(List Ent→Prop)→Prop
 | [],_,_,k=>k []
 | _::l,0,e,k=>k (e::l)
 | x::l,n+1,e,k=>Q4Y l n e (fun l'=>k (x::l'))
def Q53 (S:List Ent) (d:Option Nat) (e:Ent) (k:List Ent→Prop):Prop:=
 match d with
 | some d=>Q4Y S d e k
 | none=>k S
def Q81:List Ent→Nat→(Ent→Prop)→Prop
 | [],_,k=>k (.val undef)
 | x::_,0,k=>k x
 | _::l,n+1,k=>Q81 l n k
def Q9f (S:List Ent) (x:Operand) (k:Ent→Prop):Prop:=
 match x with
 | .tmp t=>Q81 S t k
 | .const v=>k (.val v)
 | .global g=>k (.val (.pointer (some ⟨g,0,none⟩)))
 | .func f=>k (.val (.func (.func f) #[] #[]))
def Q1A (u:Nat→Value):List Ent→(List Value→Prop)→Prop
 | [],k=>k []
 | .val v::S,k=>Q1A u S (fun l=>k (v::l))
 | .ref j::S,k=>Q1A u S (fun l=>k (u j::l))
def Q7U:List Value→(List Ent→Prop)→Prop
 | [],k=>k []
 | v::l,k=>Q7U l (fun S=>k (.val v::S))
theorem Q5q: ∀(S:List Ent) (n:Nat) (e:Ent) (k:List Ent→Prop),Q4Y S n e k=k (Q2B S n e)
 | [],_,_,_=>rfl
 | _::_,0,_,_=>rfl
 | _::l,n+1,e,k=>by simp only[Q4Y,Q2B,Q5q l n e]
theorem Q2G (S:List Ent) (d:Option Nat) (e:Ent) (k:List Ent→Prop):Q53 S d e k=k (putE S d e):=by
 cases d with
 | none=>rfl
 | some d=>exact Q5q S d e k
theorem Q5B: ∀(S:List Ent) (n:Nat) (k:Ent→Prop),Q81 S n k=k (getE S n)
 | [],_,_=>rfl
 | _::_,0,_=>rfl
 | _::l,n+1,k=>Q5B l n k
theorem Q9H (S:List Ent) (x:Operand) (k:Ent→Prop):Q9f S x k=k (entOf S x):=by
 cases x with
 | tmp t=>exact Q5B S t k
 | _=>rfl
theorem Q2x (u:Nat→Value): ∀(S:List Ent) (k:List Value→Prop),Q1A u S k=k (Qd u S)
 | [],_=>rfl
 | .val v::S,k=>by simp only[Q1A,Q2x u S];rfl
 | .ref j::S,k=>by simp only[Q1A,Q2x u S];rfl
theorem Q78: ∀(l:List Value) (k:List Ent→Prop),Q7U l k=k (l.map .val)
 | [],_=>rfl
 | v::l,k=>by simp only[Q7U,Q78 l];rfl
noncomputable def Cd (P:Program) (ops:List Oper) (T:World→World→Prop) (B:World→Prop) (W4:List Value→World→Prop) (tail:List Oper):Nat→List Oper→List Ent→Si→List Nat→Prop
 | _,[],S,b,done=>Im done (fun _=>undef) fun u=> ∀w,B w→Q1s b u w (Q1A u S fun l=>Qg P ops W4 tail l w) done
 | i,o::a,S,b,done=>
  match mv o with
  | some x=>Q9f S x fun e=>Q53 S o.dst e fun S=>Cd P ops T B W4 tail (i+1) a S b done
  | none=>match Q8K o with
   | true=>Ci T (fun φ=>Im (refs ops S o) (fun _=>undef) fun u=> ∀w,B w→Pl b u w (runOp P ops (Qd u S) o w (dk T (φ ((refs ops S o).map u)) w)) (refs ops S o))
    (fun φ=>Q53 S o.dst (.ref i) fun c=>Cd P ops T B W4 tail (i+1) a c (b++[(i,refs ops S o,φ)]) (done++[i]))
   | false=>Q5 T (fun φ=>Im (refs ops S o) (fun _=>undef) fun u=> ∀w,B w→Pl b u w (runOp P ops (Qd u S) o w (dk T φ w)) (refs ops S o))
    (fun φ=>Q53 S o.dst (.ref i) fun c=>Cd P ops T B W4 tail (i+1) a c (b++[(i,[],fun _=>φ)]) (done++[i]))
theorem Bh (P:Program) (ops:List Oper) (T:World→World→Prop) (B:World→Prop) (W4:List Value→World→Prop) (tail:List Oper): ∀(a:List Oper) (i:Nat) (S:List Ent) (b:Si) (done:List Nat),
 Cd P ops T B W4 tail i a S b done=chain P ops T B W4 tail i a S b done
 | [],i,S,b,done=>by simp only[Cd,chain,Q2x]
 | o::a,i,S,b,done=>by
  simp only[Cd,chain]
  split
  ·rw[Q9H,Q2G,Bh]
  ·split
   ·congr 1
    funext φ
    rw[Q2G,Bh]
   ·congr 1
    funext φ
    rw[Q2G,Bh]
noncomputable def X12 (P:Program) (ops:List Oper) (W4:List Value→World→Prop) (l:List Value) (w:World):Prop:=
 dr w fun T B=>Q7U l fun S=>Cd P ops T B W4 ((U9 ops (K8 ops)).drop (Rf ops (K8 ops) ops.length)) 0 ((U9 ops (K8 ops)).take (Rf ops (K8 ops) ops.length)) S [] []
def Q1B (a b:List Nat):Bool:=a.all (b.contains ·)&&b.all (a.contains ·)
theorem So {a b:List Nat} (h:Q1B a b=true) (i:Nat):a.contains i=b.contains i:=by
 simp only[Q1B,Bool.and_eq_true,List.all_eq_true] at h
 rw[Bool.eq_iff_iff]
 constructor
 ·intro c;exact h.1 i (by simpa using c)
 ·intro c;exact h.2 i (by simpa using c)
abbrev V5:=List (Option (List Nat×List Nat))
def V5.slots (a:V5):List (Option (List Nat)):=a.map (·.map (·.1))
theorem V5.slots_get (a:V5) (k:Nat):a.slots.getD k none=(a.getD k none).map (·.1):=by
 simp only[V5.slots,List.getD_eq_getElem?_getD,List.getElem?_map]
 cases a[k]? <;>rfl
noncomputable def Wu (P:Program) (b:V5) (a:List (Option (List Nat))):Nat→Code→Hh→List Value→World→Prop
 | _, .skip,Q,l,w=>Q .normal l w
 | _, .label _,Q,l,w=>Q .normal l w
 | _, .exit id,Q,l,w=>Q (.exit id) l w
 | _, .ret,Q,l,w=>Q .ret l w
 | _, .region _ ops false,Q,l,w=>Qg P ops.toList (fun l w=>Q .normal l w) ops.toList l w
 | _, .region _ ops true,Q,l,w=>match Sx ops.toList l.length with
  | true=>match Q8h ops.toList (K8 ops.toList) with
   | true=>sq w fun w=>Qg P ops.toList (fun l w=>Q .normal l w) (U9 ops.toList (K8 ops.toList)) l w
   | false=>X12 P ops.toList (fun l w=>Q .normal l w) l w
  | false=>False
 | k, .seq x y,Q,l,w=>match b.getD k none with
  | none=>Wu P b a (k+1) x (thn (fun l w=>Wu P b a (k+1+Qq x) y Q l w) Q) l w
  | some (f,g)=>match Q1B g (O4 a (k+1) x) with
   | true=>jn w (fun J w=>Wu P b a (k+1) x (thn (fun l' w'=>J (Oy l' f) w') Q) l w)
    (fun z d w=>Gi f g z d 0 l fun l=>Wu P b a (k+1+Qq x) y Q l w)
   | false=>False
 | k, .cond c x y,Q,l,w=>X1 (ev l c) (Wu P b a k x Q l w) (Wu P b a (k+Qq x) y Q l w)
 | k, .block id c,Q,l,w=>Wu P b a k c (Q2X id Q) l w
 | k, .loop c,Q,l,w=>match b.getD k none with
  | none=>False
  | some (f,g)=>match Q1B g (O4 a (k+1) c) with
   | true=>lp (Oy l f) w (fun e x d w=>Gi f g x d 0 l fun l=>Wu P b a (k+1) c (thn (fun l' w'=>e (Oy l' f) w') Q) l w)
   | false=>False
 | _,_,_,_,_=>False
theorem Q0g {next a:List Value→World→Prop} {Q b:Hh} (d: ∀l w,next l w→a l w) (c: ∀e l w,Q e l w→b e l w): ∀e l w,thn next Q e l w→thn a b e l w:=by
 intro e l w h;cases e<;>first | exact d _ _ h | exact c _ _ _ h
theorem X0g (P:Program) (r:V5) (c:Code): ∀(k:Nat) (Q j:Hh) (l:List Value) (w:World),(∀e l w,Q e l w→j e l w)→
 Wu P r r.slots k c Q l w→Ox P r.slots k c j l w:=by
 induction c with
 | skip=>intro k Q j l w g h;exact g _ _ _ h
 | label n=>intro k Q j l w g h;exact g _ _ _ h
 | exit id=>intro k Q j l w g h;exact g _ _ _ h
 | ret=>intro k Q j l w g h;exact g _ _ _ h
 | goto n=>intro k Q j l w g h;exact h.elim
 | refuse s=>intro k Q j l w g h;exact h.elim
 | scope c=>intro k Q j l w g h;exact h.elim
 | rangeFunc f p a b=>intro k Q j l w g h;exact h.elim
 | region id ops C=>
  intro k Q j l w g h
  cases C with
  | true=>
   simp only[Wu] at h
   split at h
   ·rename_i u
    intro t
    have A:Z6 P ops.toList (fun l w=>Q .normal l w) ((Region.schedule (P.follows .mixedOrders) ops t).filterMap (ops[·]?)) l w.drew:=by
     split at h
     ·rename_i H
      simp only[X1m,Po] at h
      exact X2K P ops _ l u H _ t _ h
     ·simp only[X12,X1e,Q8f,Q78,Bh] at h
      obtain ⟨T,B,Y,Z,h⟩:=h
      exact X1S P ops T B _ l u Z h (P.follows .mixedOrders) t w.drew Y
    refine Ju P _ _ _ (S3 ops.toList) l _ _ _ ?_ (Qi.refl _ _) (fun l w O _=>g _ _ _ O) A
    intro o E d A
    simp only[List.mem_filterMap] at E
    obtain ⟨i,_,hi⟩:=E
    simp only[S3,List.contains_eq_mem,List.mem_filterMap,decide_eq_true_eq]
    exact ⟨o,by simpa using Array.mem_of_getElem? hi,A⟩
   ·exact h.elim
  | false=>
   simp only[Wu] at h
   rw[Po] at h
   refine Ju P _ _ _ (S3 ops.toList) l _ _ _ ?_ (Qi.refl _ _) (fun l w O _=>g _ _ _ O) h
   intro o E d A
   simp only[S3,List.contains_eq_mem,List.mem_filterMap,decide_eq_true_eq]
   exact ⟨o,E,A⟩
 | seq x y q m=>
  intro k Q j l w g h
  simp only[Wu,Ox] at h⊢
  rw[V5.slots_get]
  split at h
  ·rename_i v
   simp only[v,Option.map_none]
   exact q _ _ _ _ _ (Q0g (fun l w h=>m _ _ _ _ _ g h) g) h
  ·rename_i V wr v
   simp only[v,Option.map_some]
   split at h
   ·rename_i N
    obtain ⟨J,h1,h2⟩:=Q65 h
    refine Zy J (q _ _ _ _ _ (Q0g (fun l w h=>h) g) h1) fun z d w hz=>?_
    have X:=h2 z d w hz
    rw[Q4k,Bg _ _ _ (So N)] at X
    exact m _ _ _ _ _ g X
   ·exact h.elim
 | cond c x y q m=>
  intro k Q j l w g h
  exact Q4m (q k _ _ _ _ g) (m _ _ _ _ _ g) h
 | block id c R=>
  intro k Q j l w g h
  refine R k _ _ _ _ ?_ h
  intro e l' w' D
  cases e with
  | exit ab=>simp only[Q2X] at D⊢;split<;>rename_i M<;>simp only[M,if_true,if_false] at D<;>exact g _ _ _ D
  | _=>exact g _ _ _ D
 | loop c R=>
  intro k Q j l w g h
  simp only[Wu,Ox] at h⊢
  split at h
  ·exact h.elim
  ·rename_i V wr v
   have L:(r.slots.getD k none).getD []=V:=by rw[V5.slots_get,v];rfl
   split at h
   ·rename_i N
    subst L
    refine Q4h (fun U x d w W=>?_) h
    rw[Q4k,Bg _ _ _ (So N)] at W
    exact R _ _ _ _ _ (Q0g (fun l w h=>h) g) W
   ·exact h.elim
def Q3p (P:Program) (t:TypeId) (a:Value) (w:World) (K:Value→Prop):Prop:= ∃v,(do loadVar t (←asAddr a):Sem Value).run P w= .ok v w∧K v
theorem Q3i: ∃f:Program→TypeId→Value→World→(Value→Prop)→Prop,f=Q3p:=⟨_,rfl⟩
noncomputable def Y7:Program→TypeId→Value→World→(Value→Prop)→Prop:=Classical.choose Q3i
theorem Q37:Y7=Q3p:=Classical.choose_spec Q3i
noncomputable def Q5Q (P:Program) (l:List Value) (K:List Value→World→Prop):List ResultVar→List Value→World→Prop
 | [],b,w=>K b.reverse w
 | .tmp t::c,b,w=>Q5Q P l K c (get l t::b) w
 | .cell a t::c,b,w=>Y7 P t (get l a) w fun v=>Q5Q P l K c (v::b) w
def Q2N:List Value→Value
 | [v]=>v
 | vs=> .tuple vs.toArray
noncomputable def results (P:Program) (a:List ResultVar) (K:Value→World→Prop) (l:List Value) (w:World):Prop:=
 Q5Q P l (fun vs w=>K (Q2N vs) w) a [] w
noncomputable def Q8x (P:Program) (fn:Func) (K:Value→World→Prop):Hh
 | .normal,l,w | .ret,l,w=>results P fn.results.toList K l w
 | _,_,_=>False
def X0M (K:Value→World→Prop) (e:Ending) (w:World):Prop:=match e with | .returned v=>K v w | _=>False
theorem Q5l (a:Array Value) (t:Nat):a.getD t undef=get a.toList t:=by
 simp[get,List.getD_eq_getElem?_getD]
theorem Q8X (vs:List Value):(if h:vs.toArray.size=1 then vs.toArray[0] else Value.tuple vs.toArray)=Q2N vs:=by
 match vs with
 | []=>rfl
 | [v]=>rfl
 | _::_::_=>rfl
theorem Q2I (P:Program) (l:List Value) (K:List Value→World→Prop) (f:ResultVar→Sem Value)
 (c: ∀t,f (.tmp t)=Pure.pure (get l t)) (d: ∀a t,f (.cell a t)=(do loadVar t (←asAddr (get l a)))): ∀(e:List ResultVar) (b:List Value) (w:World),Q5Q P l K e b w→
 ∃vs,(e.mapM f).run P w= .ok vs w∧K (b.reverse++vs) w
 | [],b,w,h=>⟨[],by simp,by rw[List.append_nil];exact h⟩
 | .tmp t::e,b,w,h=>by
  obtain ⟨vs,i,g⟩:=Q2I P l K f c d e _ w h
  refine ⟨get l t::vs,?_,by simpa using g⟩
  rw[List.mapM_cons,c]
  simp[i]
 | .cell a t::e,b,w,h=>by
  simp only[Q5Q,Q37] at h
  obtain ⟨v,j,h⟩:=h
  obtain ⟨vs,i,g⟩:=Q2I P l K f c d e _ w h
  refine ⟨v::vs,?_,by simpa using g⟩
  rw[List.mapM_cons,d,Sem.run_bind,j]
  simp[i]
def X30 (a:Array Value):ResultVar→Sem Value
 | .tmp t=>Pure.pure (a.getD t undef)
 | .cell b t=>do loadVar t (←asAddr (a.getD b undef))
theorem Q5i (fn:Func) (a:Array Value):Go.results fn a=(do
 let vs←fn.results.mapM (X30 a)
 Pure.pure (if h:vs.size=1 then vs[0] else .tuple vs)):=by
 unfold Go.results
 congr 1
theorem Q2p (P:Program) (fn:Func) (K:Value→World→Prop) (a:Array Value) (w:World) (h:results P fn.results.toList K a.toList w):
 ∃v,(Go.results fn a).run P w= .ok v w∧K v w:=by
 rw[Q5i,Array.mapM_eq_mapM_toList]
 obtain ⟨vs,c,b⟩:=Q2I P a.toList (fun vs w=>K (Q2N vs) w) (X30 a) (fun t=>by rw[←Q5l];rfl) (fun d t=>by rw[←Q5l];rfl) fn.results.toList [] w h
 refine ⟨Q2N vs,?_,by simpa using b⟩
 rw[Sem.run_bind,Sem.run_map,c]
 simp only[Result.andThen_ok,Sem.run_pure,Q8X]
def Q0P (fn:Func) (a:List Value):List Value:=a++List.replicate (fn.ntmps-a.length) undef
theorem Q5u {P:Program} {f:FuncId} {fn:Func} {c:Code} {b:List Value} {w:World} {K:Value→World→Prop} (d:List (Option (List Nat)))
 (j:P.funcs[f]? =some fn) (k:fn.body=some c) (h:Ox P d 0 c (Q8x P fn K) (Q0P fn b) w):Calls P f b.toArray w (X0M K):=by
 refine calls_of_wp j k (wp_mono (Q95 P d c 0 (Q8x P fn K) _ w rfl ?_) ?_)
 ·have:(b.toArray++Array.replicate (fn.ntmps-b.toArray.size) undef).toList=Q0P fn b:=by simp[Q0P]
  simp only[this];exact h
 ·intro e a w ⟨i,g⟩
  cases e with
  | normal=>exact ⟨i,Q2p P fn K _ _ g⟩
  | ret=>exact ⟨i,Q2p P fn K _ _ g⟩
  | _=>exact g.elim
theorem Ww {P:Program} {f:FuncId} {fn:Func} {a:List Value} {w:World} {K:Value→World→Prop}
 (j:P.funcs[f]? =some fn) (d:fn.body.isSome=true) (k:(fn.name== "runtime.NumGoroutine")=false) (h:Calls P f a.toArray w (X0M K)):Q1 P f a w K:=by
 have i:(callFunc f a.toArray).run P w= .ok (.enter f a.toArray) w:=by
  unfold callFunc
  simp only[Sem.run_bind,run_program,Result.andThen_ok,j,k,Bool.false_eq_true,if_false]
  cases b:fn.body with
  | none=>rw[b] at d;cases d
  | some c=>simp
 unfold Q1
 rw[T7]
 unfold P8
 rw[i]
 refine h.mono fun e w' g=>?_
 cases e<;>exact g
theorem Q3B {P:Program} {f:FuncId} {fn:Func} {a:List Value} {w:World} {K:Value→World→Prop}
 (j:P.funcs[f]? =some fn) (d:fn.body.isSome=true) (k:(fn.name== "runtime.NumGoroutine")=false) (h:Q1 P f a w K):Calls P f a.toArray w (X0M K):=by
 have i:(callFunc f a.toArray).run P w= .ok (.enter f a.toArray) w:=by
  unfold callFunc
  simp only[Sem.run_bind,run_program,Result.andThen_ok,j,k,Bool.false_eq_true,if_false]
  cases b:fn.body with
  | none=>rw[b] at d;cases d
  | some c=>simp
 unfold Q1 at h
 rw[T7] at h
 unfold P8 at h
 rw[i] at h
 refine Calls.mono h fun e w' g=>?_
 cases e<;>exact g
theorem X1C {P:Program} {f:FuncId} {fn:Func} {b:List Value} {w:World} {K:Value→World→Prop} (a:V5)
 (d:P.funcs[f]? =some fn) (g:fn.body.isSome=true) (i:(fn.name== "runtime.NumGoroutine")=false)
 (h:Wu P a a.slots 0 (fn.body.getD .skip) (Q8x P fn K) (Q0P fn b) w):Q1 P f b w K:=by
 refine Ww d g i ?_
 obtain ⟨c,e⟩:=Option.isSome_iff_exists.1 g
 rw[e] at h
 exact Q5u a.slots d e (X0g P a c 0 _ _ _ _ (fun _ _ _ h=>h) h)
theorem Q9 {P:Program} {f:FuncId} {fn:Func} {a:List Value} {w:World} {K:Value→World→Prop} {g:Prop} (b:V5)
 (d:P.funcs[f]? =some fn) (e:fn.body.isSome=true) (i:(fn.name== "runtime.NumGoroutine")=false)
 (c:g=Wu P b b.slots 0 (fn.body.getD .skip) (Q8x P fn K) (Q0P fn a) w) (h:g):Q1 P f a w K:=
 X1C b d e i (c▸h)
theorem Z7 {P:Program} {f:FuncId} {first caps:List Value} {a:List Value} {w:World} {K:Value→World→Prop} (h:Q1 P f (first++a++caps) w K):Z3 P (.func (.func f) first.toArray caps.toArray) a w K:=by
 simpa [Z3,Q1,Deferred.ofValue,invoke,pure_bind,List.append_toArray] using h
end Go.Emb

namespace Go.Proofs.YtjdiakhipmggjaaGreatDoor
noncomputable abbrev P : Program := Tryz.prog
namespace F
abbrev cd : Nat := 9
abbrev cN : Nat := 12
abbrev aA : Nat := 13
abbrev aJ : Nat := 14
abbrev cO : Nat := 15
abbrev c3 : Nat := 16
abbrev aj : Nat := 17
abbrev q : Nat := 18
abbrev ad : Nat := 19
abbrev aB : Nat := 20
abbrev bO : Nat := 21
abbrev b6 : Nat := 22
abbrev bB : Nat := 23
abbrev ak : Nat := 24
abbrev ah : Nat := 25
abbrev z : Nat := 26
abbrev aC : Nat := 27
abbrev bC : Nat := 28
abbrev cv : Nat := 29
abbrev aQ : Nat := 30
abbrev ce : Nat := 31
abbrev c4 : Nat := 32
abbrev aK : Nat := 33
abbrev aR : Nat := 34
abbrev bD : Nat := 35
abbrev a4 : Nat := 36
abbrev aS : Nat := 37
abbrev aT : Nat := 38
abbrev aG : Nat := 40
abbrev cF : Nat := 41
abbrev cy : Nat := 42
abbrev cz : Nat := 43
abbrev j : Nat := 44
abbrev bd : Nat := 45
abbrev o : Nat := 46
abbrev bl : Nat := 47
abbrev bm : Nat := 48
abbrev b7 : Nat := 49
abbrev aU : Nat := 50
abbrev aH : Nat := 51
abbrev aD : Nat := 52
abbrev n : Nat := 53
abbrev cs : Nat := 54
abbrev bE : Nat := 55
abbrev bP : Nat := 56
abbrev be : Nat := 57
abbrev bn : Nat := 58
abbrev bQ : Nat := 59
abbrev bR : Nat := 60
abbrev bS : Nat := 61
abbrev bT : Nat := 62
abbrev bU : Nat := 63
abbrev b2 : Nat := 64
abbrev aL : Nat := 65
abbrev aE : Nat := 66
abbrev b8 : Nat := 67
abbrev cS : Nat := 68
abbrev t : Nat := 69
abbrev aV : Nat := 70
abbrev bF : Nat := 71
abbrev b9 : Nat := 72
abbrev p : Nat := 73
abbrev bG : Nat := 74
abbrev k : Nat := 75
abbrev bH : Nat := 76
abbrev cG : Nat := 77
abbrev cA : Nat := 78
abbrev a9 : Nat := 79
abbrev ae : Nat := 80
abbrev c7 : Nat := 81
abbrev h : Nat := 82
abbrev ba : Nat := 83
abbrev x : Nat := 84
abbrev c8 : Nat := 85
abbrev c : Nat := 86
abbrev a0 : Nat := 87
abbrev aI : Nat := 88
abbrev bo : Nat := 89
abbrev an : Nat := 90
abbrev ao : Nat := 91
abbrev b1 : Nat := 92
abbrev a : Nat := 93
abbrev aM : Nat := 94
abbrev cg : Nat := 95
abbrev bf : Nat := 96
abbrev c5 : Nat := 97
abbrev aa : Nat := 98
abbrev bp : Nat := 99
abbrev bq : Nat := 100
abbrev b : Nat := 101
abbrev bg : Nat := 102
abbrev al : Nat := 103
abbrev b3 : Nat := 104
abbrev bb : Nat := 105
abbrev a2 : Nat := 106
abbrev a3 : Nat := 107
abbrev aN : Nat := 108
abbrev aP : Nat := 109
abbrev br : Nat := 110
abbrev y : Nat := 111
abbrev bI : Nat := 113
abbrev a1 : Nat := 114
abbrev cw : Nat := 115
abbrev bJ : Nat := 116
abbrev r : Nat := 117
abbrev e : Nat := 118
abbrev a5 : Nat := 119
abbrev ai : Nat := 120
abbrev cn : Nat := 121
abbrev co : Nat := 122
abbrev ab : Nat := 123
abbrev am : Nat := 124
abbrev aW : Nat := 125
abbrev cp : Nat := 126
abbrev aF : Nat := 127
abbrev cq : Nat := 128
abbrev ar : Nat := 129
abbrev cr : Nat := 130
abbrev au : Nat := 131
abbrev bA : Nat := 132
abbrev bV : Nat := 133
abbrev ap : Nat := 134
abbrev bc : Nat := 135
abbrev af : Nat := 136
abbrev ag : Nat := 137
abbrev w : Nat := 138
abbrev c9 : Nat := 139
abbrev i : Nat := 140
abbrev ch : Nat := 141
abbrev g : Nat := 142
abbrev cP : Nat := 143
abbrev cC : Nat := 144
abbrev aX : Nat := 145
abbrev bK : Nat := 146
abbrev bL : Nat := 147
abbrev bs : Nat := 148
abbrev bt : Nat := 149
abbrev bu : Nat := 150
abbrev aY : Nat := 151
abbrev bh : Nat := 152
abbrev aZ : Nat := 153
abbrev s : Nat := 154
abbrev cx : Nat := 155
abbrev cT : Nat := 156
abbrev ci : Nat := 157
abbrev aq : Nat := 158
abbrev cQ : Nat := 159
abbrev d : Nat := 160
abbrev av : Nat := 161
abbrev cj : Nat := 162
abbrev c6 : Nat := 163
abbrev ck : Nat := 164
abbrev ct : Nat := 165
abbrev f : Nat := 166
abbrev ca : Nat := 167
abbrev bY : Nat := 168
abbrev bZ : Nat := 169
abbrev bW : Nat := 170
abbrev bj : Nat := 171
abbrev aw : Nat := 172
abbrev bk : Nat := 173
abbrev cH : Nat := 174
abbrev ax : Nat := 175
abbrev cU : Nat := 179
abbrev cf : Nat := 180
abbrev v : Nat := 181
abbrev a6 : Nat := 182
abbrev b4 : Nat := 183
abbrev aO : Nat := 184
abbrev bM : Nat := 185
abbrev bv : Nat := 186
abbrev az : Nat := 187
abbrev b0 : Nat := 190
abbrev cD : Nat := 191
abbrev cb : Nat := 192
abbrev cl : Nat := 193
abbrev l : Nat := 194
abbrev c0 : Nat := 195
abbrev cm : Nat := 196
abbrev cL : Nat := 197
abbrev m : Nat := 198
abbrev c1 : Nat := 199
abbrev ac : Nat := 202
abbrev b5 : Nat := 203
abbrev cc : Nat := 204
abbrev a7 : Nat := 208
abbrev cM : Nat := 209
abbrev cE : Nat := 210
abbrev cI : Nat := 211
abbrev a8 : Nat := 212
abbrev bw : Nat := 215
abbrev cV : Nat := 219
abbrev cu : Nat := 220
abbrev u : Nat := 221
abbrev cR : Nat := 222
abbrev cB : Nat := 224
abbrev bx : Nat := 225
abbrev bz : Nat := 226
abbrev ay : Nat := 227
abbrev bN : Nat := 228
abbrev cJ : Nat := 229
abbrev bi : Nat := 230
abbrev c2 : Nat := 231
abbrev cK : Nat := 232
abbrev bX : Nat := 233
end F
namespace T
abbrev x : Nat := 0
abbrev a1 : Nat := 2
abbrev e : Nat := 3
abbrev v : Nat := 4
abbrev a3 : Nat := 5
abbrev c : Nat := 9
abbrev av : Nat := 12
abbrev an : Nat := 21
abbrev s : Nat := 22
abbrev z : Nat := 23
abbrev i : Nat := 26
abbrev a5 : Nat := 29
abbrev g : Nat := 33
abbrev f : Nat := 37
abbrev aq : Nat := 43
abbrev q : Nat := 44
abbrev a : Nat := 46
abbrev m : Nat := 51
abbrev h : Nat := 54
abbrev k : Nat := 65
abbrev o : Nat := 69
abbrev ak : Nat := 74
abbrev l : Nat := 76
abbrev n : Nat := 78
abbrev a2 : Nat := 80
abbrev a0 : Nat := 82
abbrev j : Nat := 83
abbrev b : Nat := 85
abbrev a4 : Nat := 88
abbrev a7 : Nat := 91
abbrev w : Nat := 94
abbrev r : Nat := 95
abbrev t : Nat := 96
abbrev d : Nat := 98
abbrev p : Nat := 100
abbrev ac : Nat := 120
abbrev ao : Nat := 126
abbrev y : Nat := 136
abbrev a9 : Nat := 139
abbrev ae : Nat := 140
abbrev a8 : Nat := 146
abbrev a6 : Nat := 148
abbrev au : Nat := 154
abbrev aj : Nat := 156
abbrev al : Nat := 157
abbrev aa : Nat := 165
abbrev ag : Nat := 168
abbrev u : Nat := 172
abbrev ax : Nat := 184
abbrev ab : Nat := 190
abbrev ah : Nat := 197
abbrev ai : Nat := 200
abbrev ar : Nat := 203
abbrev am : Nat := 205
abbrev aw : Nat := 220
abbrev ad : Nat := 225
abbrev af : Nat := 226
abbrev ap : Nat := 235
abbrev ay : Nat := 241
end T
namespace G
abbrev b : Nat := 0
abbrev e : Nat := 1
abbrev d : Nat := 2
abbrev a : Nat := 3
abbrev c : Nat := 4
end G
end Go.Proofs.YtjdiakhipmggjaaGreatDoor

set_option maxRecDepth 100000
namespace Go.Proofs.YtjdiakhipmggjaaGreatDoor
open Go.Emb
def Q6q:V5:=[none,none,none,none,some ([1,10],[1,3,10,11,12,13,14,15,16,17,18]),none,none,none,none,none]
def Q1h (w:World) (K:Value→World→Prop):Prop:= H1 P T.b [(0,(.string ⟨#[79,98,106,101,99,116]⟩))] w fun i w=>H1 P T.o [(0,(.string ⟨#[119,104,97,116]⟩)),(1,(.string ⟨#[116,101,120,116]⟩))] w fun j w=>buildSlice P T.k 1 [(0,j)] w fun l w=>H1 P T.b [(0,(.string ⟨#[70,97,117,108,116]⟩)),(1,(.string ⟨#[79,98,106,101,99,116]⟩)),(6,l)] w fun n w=>buildSlice P T.i 2 [(0,i),(1,n)] w fun k w=>Q2 P T.ao (.pointer (some ⟨G.b,0,none⟩)) w fun m w=>lp (α:=Value×Value) (k,(.int .i64 0)) w fun a b o w=>Q3 P .lss T.e (.tmp 10) (.const (.int .i64 6)) b.2 (.int .i64 6) w fun c w=>X1 c (C4 P T.ao m b.2 w fun h w=>H1 P T.b [(0,h),(1,(.string ⟨#[70,97,117,108,116]⟩)),(5,(.bool true))] w fun e w=>buildSlice P T.i 1 [(0,e)] w fun d w=>X2 P .append [T.i,T.i] T.i [false,false] [b.1,d] w fun f w=>Q3 P .add T.e (.tmp 10) (.const (.int .i64 1)) b.2 (.int .i64 1) w fun g w=>a (f,g) w) (K b.1 w)
theorem Q5R {w:World} {K:Value→World→Prop} (h:Q1h w K):Q1 P F.cF [] w K:=Q9 Q6q Tryz.func41 rfl (by decide) (by kernel_rfl) h
def Q6n:V5:=[none,none,none,some ([8],[2,4,8,9,10,11,12,13,14,15,16,17,18,19,20,21,22,23,24,25,26,27,28,29,30,31,32,33]),none,none,none,none,none,none,none]
def Q0c (Y:Value) (w:World) (K:Value→World→Prop):Prop:= box P T.b Y w fun b w=>fieldAddr P T.b b 7 w fun X w=>Q2 P T.j X w fun W w=>X2 P .len [T.j] T.e [false] [W] w fun t7 w=>lp (α:=Value) (.int .i64 0) w fun h i d_ w=>Q3 P .lss T.e (.tmp 8) (.tmp 7) i t7 w fun Z w=>X1 Z (indexAddr P T.j W i w fun C w=>Q2 P T.d C w fun p w=>W0 P T.d w fun a w=>Y1 P T.d a p w fun _u w=>fieldAddr P T.d a 1 w fun A w=>Q2 P T.h A w fun n w=>X2 P .len [T.h] T.e [false] [n] w fun Q w=>Q3 P .gtr T.e (.tmp 14) (.const (.int .i64 32)) Q (.int .i64 32) w fun e w=>Q0 e false w (fieldAddr P T.d a 6) fun M w=>Q0 e false w (Q2 P T.t M) fun z w=>Q0 e false w (X2 P .len [T.t] T.e [false] [z]) fun s w=>Q0 e false w (Q3 P .gtr T.e (.tmp 19) (.const (.int .i64 32)) s (.int .i64 32)) fun l w=>pick P e (.bool true) l w fun f w=>Q0 f false w (fieldAddr P T.d a 5) fun k w=>Q0 f false w (Q2 P T.r k) fun u w=>Q0 f false w (X2 P .len [T.r] T.e [false] [u]) fun q w=>Q0 f false w (Q3 P .gtr T.e (.tmp 25) (.const (.int .i64 200)) q (.int .i64 200)) fun V w=>pick P f (.bool true) V w fun g w=>Q0 g false w (fieldAddr P T.d a 4) fun y w=>Q0 g false w (Q2 P T.e y) fun L w=>Q0 g false w (Q3 P .gtr T.e (.tmp 30) (.const (.int .i64 64)) L (.int .i64 64)) fun R w=>pick P g (.bool true) R w fun N w=>X1 N (K (.bool true) w) (Q3 P .add T.e (.tmp 8) (.const (.int .i64 1)) i (.int .i64 1) w fun H w=>h H w)) (fieldAddr P T.b b 2 w fun O w=>Q2 P T.h O w fun J w=>X2 P .len [T.h] T.e [false] [J] w fun v w=>Q3 P .gtr T.e (.tmp 36) (.const (.int .i64 32)) v (.int .i64 32) w fun c w=>Q0 c false w (fieldAddr P T.b b 6) fun m w=>Q0 c false w (Q2 P T.k m) fun D w=>Q0 c false w (X2 P .len [T.k] T.e [false] [D]) fun E w=>Q0 c false w (Q3 P .gtr T.e (.tmp 41) (.const (.int .i64 32)) E (.int .i64 32)) fun r w=>pick P c (.bool true) r w fun d w=>Q0 d false w (fieldAddr P T.b b 7) fun B w=>Q0 d false w (Q2 P T.j B) fun t w=>Q0 d false w (X2 P .len [T.j] T.e [false] [t]) fun j w=>Q0 d false w (Q3 P .gtr T.e (.tmp 47) (.const (.int .i64 32)) j (.int .i64 32)) fun o w=>pick P d (.bool true) o w fun U w=>K U w)
theorem Q5F {a:Value} {w:World} {K:Value→World→Prop} (h:Q0c a w K):Q1 P F.cG [a] w K:=Q9 Q6n Tryz.func77 rfl (by decide) (by kernel_rfl) h
def Xs:V5:=[none,none,none,some ([8],[4,5,8,9,10,11,12,13,14,15,16,17,18]),none,none,none,none,none,none,none]
def B9 (g h:Value) (w:World) (K:Value→World→Prop):Prop:= X2 P .len [T.j] T.e [false] [g] w fun j w=>lp (α:=Value) (.int .i64 0) w fun a b k w=>Q3 P .lss T.e (.tmp 8) (.tmp 7) b j w fun i w=>X1 i (indexAddr P T.j g b w fun e w=>Q2 P T.d e w fun f w=>Z3 P h [f] w fun c w=>X1 c (K b w) (Q3 P .add T.e (.tmp 8) (.const (.int .i64 1)) b (.int .i64 1) w fun d w=>a d w)) (K (.int .i64 (-1)) w)
theorem Xy {a b:Value} {w:World} {K:Value→World→Prop} (h:B9 a b w K):Q1 P F.g [a,b] w K:=Q9 Xs Tryz.func142 rfl (by decide) (by kernel_rfl) h
def C0 (a b:Value) (w:World) (K:Value→World→Prop):Prop:= Q1 P F.g [a,b] w fun d w=>Q3 P .geq T.e (.tmp 7) (.const (.int .i64 0)) d (.int .i64 0) w fun c w=>K c w
theorem Qn {a b:Value} {w:World} {K:Value→World→Prop} (h:C0 a b w K):Q1 P F.a [a,b] w K:=Q9 (List.replicate 2 none) Tryz.func93 rfl (by decide) (by kernel_rfl) h
def Nq:V5:=[none,none,none,some ([8],[4,5,8,9,10,11,12,13,14,15,16,17,18]),none,none,none,none,none,none,none]
def Ql (g h:Value) (w:World) (K:Value→World→Prop):Prop:= X2 P .len [T.h] T.e [false] [g] w fun j w=>lp (α:=Value) (.int .i64 0) w fun a b k w=>Q3 P .lss T.e (.tmp 8) (.tmp 7) b j w fun i w=>X1 i (indexAddr P T.h g b w fun e w=>Q2 P T.c e w fun f w=>Q3 P .eql T.c (.tmp 11) (.tmp 15) h f w fun c w=>X1 c (K b w) (Q3 P .add T.e (.tmp 8) (.const (.int .i64 1)) b (.int .i64 1) w fun d w=>a d w)) (K (.int .i64 (-1)) w)
theorem Mc {a b:Value} {w:World} {K:Value→World→Prop} (h:Ql a b w K):Q1 P F.av [a,b] w K:=Q9 Nq Tryz.func161 rfl (by decide) (by kernel_rfl) h
def T8 (a b:Value) (w:World) (K:Value→World→Prop):Prop:= Q1 P F.av [a,b] w fun d w=>Q3 P .geq T.e (.tmp 7) (.const (.int .i64 0)) d (.int .i64 0) w fun c w=>K c w
theorem Vn {a b:Value} {w:World} {K:Value→World→Prop} (h:T8 a b w K):Q1 P F.ai [a,b] w K:=Q9 (List.replicate 2 none) Tryz.func120 rfl (by decide) (by kernel_rfl) h
def Be (c:Value) (w:World) (K:Value→World→Prop):Prop:= box P T.d c w fun a w=>fieldAddr P T.d a 3 w fun d w=>Q2 P T.v d w fun b w=>K b w
theorem Q33 {a:Value} {w:World} {K:Value→World→Prop} (h:Be a w K):Q1 P F.cn [a] w K:=Q9 (List.replicate 2 none) Tryz.func121 rfl (by decide) (by kernel_rfl) h
def Cy (c:Value) (w:World) (K:Value→World→Prop):Prop:= box P T.d c w fun a w=>fieldAddr P T.d a 3 w fun e w=>Q2 P T.v e w fun b w=>J8 P .not b w fun d w=>K d w
theorem Q2R {a:Value} {w:World} {K:Value→World→Prop} (h:Cy a w K):Q1 P F.co [a] w K:=Q9 (List.replicate 2 none) Tryz.func122 rfl (by decide) (by kernel_rfl) h
def Vk:V5:=[none,none,none,some ([8],[4,5,8,9,10,11,12,13,14,15,16,17,18]),none,none,none,none,none,none,none]
def T2 (g h:Value) (w:World) (K:Value→World→Prop):Prop:= X2 P .len [T.h] T.e [false] [g] w fun j w=>lp (α:=Value) (.int .i64 0) w fun a b k w=>Q3 P .lss T.e (.tmp 8) (.tmp 7) b j w fun i w=>X1 i (indexAddr P T.h g b w fun e w=>Q2 P T.c e w fun f w=>Z3 P h [f] w fun c w=>X1 c (K b w) (Q3 P .add T.e (.tmp 8) (.const (.int .i64 1)) b (.int .i64 1) w fun d w=>a d w)) (K (.int .i64 (-1)) w)
theorem Vj {a b:Value} {w:World} {K:Value→World→Prop} (h:T2 a b w K):Q1 P F.w [a,b] w K:=Q9 Vk Tryz.func138 rfl (by decide) (by kernel_rfl) h
def K4 (a b:Value) (w:World) (K:Value→World→Prop):Prop:= Q1 P F.w [a,b] w fun d w=>Q3 P .geq T.e (.tmp 7) (.const (.int .i64 0)) d (.int .i64 0) w fun c w=>K c w
theorem Jj {a b:Value} {w:World} {K:Value→World→Prop} (h:K4 a b w K):Q1 P F.c [a,b] w K:=Q9 (List.replicate 2 none) Tryz.func86 rfl (by decide) (by kernel_rfl) h
def Vo (b c:Value) (w:World) (K:Value→World→Prop):Prop:= Q2 P T.a4 c w fun a w=>Z3 P a [b] w fun d w=>J8 P .not d w fun e w=>K e w
theorem By {a b:Value} {w:World} {K:Value→World→Prop} (h:Vo a b w K):Q1 P F.cj [a,b] w K:=Q9 (List.replicate 2 none) Tryz.func162 rfl (by decide) (by kernel_rfl) h
def Lz (b c:Value) (w:World) (K:Value→World→Prop):Prop:= box P T.a4 c w fun a w=>H3 P (.func F.cj) [] [a] w fun e w=>Q1 P F.c [b,e] w fun f w=>J8 P .not f w fun d w=>K d w
theorem Pz {a b:Value} {w:World} {K:Value→World→Prop} (h:Lz a b w K):Q1 P F.ab [a,b] w K:=Q9 (List.replicate 2 none) Tryz.func123 rfl (by decide) (by kernel_rfl) h
def Q8O:V5:=[none,none,none,some ([],[4,6,9,10,11,12,13,14,15]),none,none,none,none,none,none]
def Q2W (g h:Value) (w:World) (K:Value→World→Prop):Prop:= rng P T.c g w fun i w=>lp (α:=Unit) () w fun a j k w=>W4 P i true T.x w fun f w=>ext P f 0 w fun c w=>X1 c (ext P f 2 w fun b w=>Z3 P h [b] w fun d w=>J8 P .not d w fun e w=>X1 e (K (.bool false) w) (a () w)) (K (.bool true) w)
theorem Q8J {a b:Value} {w:World} {K:Value→World→Prop} (h:Q2W a b w K):Q1 P F.cD [a,b] w K:=Q9 Q8O Tryz.func191 rfl (by decide) (by kernel_rfl) h
def Q0v (b:Value) (w:World) (K:Value→World→Prop):Prop:= Q3 P .geq T.an (.tmp 3) (.const (.int .i32 65)) b (.int .i32 65) w fun a w=>Q0 a true w (fun w J=>J b w) fun d w=>Q0 a true w (Q3 P .leq T.an (.tmp 6) (.const (.int .i32 90)) d (.int .i32 90)) fun e w=>pick P a e (.bool false) w fun c w=>K c w
theorem Q6d {a:Value} {w:World} {K:Value→World→Prop} (h:Q0v a w K):Q1 P F.ck [a] w K:=Q9 (List.replicate 2 none) Tryz.func164 rfl (by decide) (by kernel_rfl) h
def Q15 (b:Value) (w:World) (K:Value→World→Prop):Prop:= Q3 P .geq T.an (.tmp 3) (.const (.int .i32 97)) b (.int .i32 97) w fun a w=>Q0 a true w (fun w J=>J b w) fun d w=>Q0 a true w (Q3 P .leq T.an (.tmp 6) (.const (.int .i32 122)) d (.int .i32 122)) fun e w=>pick P a e (.bool false) w fun c w=>K c w
theorem Q5Y {a:Value} {w:World} {K:Value→World→Prop} (h:Q15 a w K):Q1 P F.cl [a] w K:=Q9 (List.replicate 2 none) Tryz.func193 rfl (by decide) (by kernel_rfl) h
def Tg (c:Value) (w:World) (K:Value→World→Prop):Prop:= Q1 P F.ck [c] w fun d w=>Q0 d false w (fun w J=>J c w) fun k w=>Q0 d false w (Q1 P F.cl [k]) fun l w=>pick P d (.bool true) l w fun b w=>Q0 b false w (fun w J=>J c w) fun g w=>Q0 b false w (Q3 P .geq T.an (.tmp 10) (.const (.int .i32 48)) g (.int .i32 48)) fun e w=>Q0 b false w (fun w J=>J e w) fun a w=>Q0 a true w (fun w J=>J c w) fun i w=>Q0 a true w (Q3 P .leq T.an (.tmp 13) (.const (.int .i32 57)) i (.int .i32 57)) fun h w=>Q0 b false w (pick P a h (.bool false)) fun j w=>pick P b (.bool true) j w fun f w=>K f w
theorem Q4Q {a:Value} {w:World} {K:Value→World→Prop} (h:Tg a w K):Q1 P F.cb [a] w K:=Q9 (List.replicate 2 none) Tryz.func192 rfl (by decide) (by kernel_rfl) h
def Q2e (c:Value) (w:World) (K:Value→World→Prop):Prop:= Q3 P .eql T.c (.tmp 3) (.const (.string ⟨#[]⟩)) c (.string ⟨#[]⟩) w fun d w=>Q0 d false w (fun w J=>J c w) fun n w=>Q0 d false w (X2 P .len [T.c] T.e [false] [n]) fun p w=>Q0 d false w (Q3 P .gtr T.e (.tmp 7) (.const (.int .i64 32)) p (.int .i64 32)) fun o w=>pick P d (.bool true) o w fun b w=>Q0 b false w (fun w J=>J c w) fun f w=>Q0 b false w (C4 P T.c f (.int .i64 0)) fun i w=>Q0 b false w (Q3 P .geq T.a3 (.tmp 12) (.const (.int .u8 48)) i (.int .u8 48)) fun e w=>Q0 b false w (fun w J=>J e w) fun a w=>Q0 a true w (fun w J=>J c w) fun j w=>Q0 a true w (C4 P T.c j (.int .i64 0)) fun k w=>Q0 a true w (Q3 P .leq T.a3 (.tmp 16) (.const (.int .u8 57)) k (.int .u8 57)) fun m w=>Q0 b false w (pick P a m (.bool false)) fun h w=>pick P b (.bool true) h w fun g w=>X1 g (K (.bool false) w) (Q1 P F.cD [c,(.func (.func F.cb) #[] #[])] w fun l w=>K l w)
theorem Q71 {a:Value} {w:World} {K:Value→World→Prop} (h:Q2e a w K):Q1 P F.c6 [a] w K:=Q9 (List.replicate 5 none) Tryz.func163 rfl (by decide) (by kernel_rfl) h
def Q0M (c:Value) (w:World) (K:Value→World→Prop):Prop:= Q1 P F.c6 [c] w fun a w=>Q0 a true w (fun w J=>J c w) fun e w=>Q0 a true w (C4 P T.c e (.int .i64 0)) fun g w=>Q0 a true w (conv P T.a3 T.an g) fun d w=>Q0 a true w (Q1 P F.ck [d]) fun f w=>pick P a f (.bool false) w fun b w=>K b w
theorem Q67 {a:Value} {w:World} {K:Value→World→Prop} (h:Q0M a w K):Q1 P F.am [a] w K:=Q9 (List.replicate 2 none) Tryz.func124 rfl (by decide) (by kernel_rfl) h
def Lr (o j n:Value) (w:World) (K:Value→World→Prop):Prop:= dr w fun a b=>Q5 a (fun d=> ∀w,b w→Q2 P T.ac j w (dk a d w)) fun d=>Q5 a (fun h=> ∀c w,b w→d c w→Z3 P c [o] w (dk a h w)) fun h=>Q5 a (fun g=> ∀w,b w→Q2 P T.ac j w (dk a g w)) fun g=>Q5 a (fun f=> ∀w,b w→Q2 P T.c n w (dk a f w)) fun f=>∀c m k l w,b w→d c w→h m w→g k w→f l w→ Z3 P k [l] w fun i w=>Q3 P .eql T.c (.tmp 7) (.tmp 10) m i w fun e w=>K e w
theorem Fp {b c a:Value} {w:World} {K:Value→World→Prop} (h:Lr b c a w K):Q1 P F.ct [b,c,a] w K:=Q9 (List.replicate 2 none) Tryz.func165 rfl (by decide) (by kernel_rfl) h
def Q03:V5:=[none,none,none,some ([9],[4,5,6,9,10,11,12,13,14,15,16,17,18,19]),none,none,none,none,none,none,none]
def Da (f m:Value) (w:World) (K:Value→World→Prop):Prop:= box P T.ac m w fun a w=>X2 P .len [T.h] T.e [false] [f] w fun n w=>lp (α:=Value) (.int .i64 0) w fun c d o w=>Q3 P .lss T.e (.tmp 9) (.tmp 8) d n w fun h w=>X1 h (indexAddr P T.h f d w fun l w=>Q2 P T.c l w fun j w=>W0 P T.c w fun b w=>Y1 P T.c b j w fun _u w=>S1 P T.h f none (some d) none w fun e w=>H3 P (.func F.ct) [] [a,b] w fun g w=>Q1 P F.c [e,g] w fun k w=>X1 k (K (.bool false) w) (Q3 P .add T.e (.tmp 9) (.const (.int .i64 1)) d (.int .i64 1) w fun i w=>c i w)) (K (.bool true) w)
theorem Q06 {a b:Value} {w:World} {K:Value→World→Prop} (h:Da a b w K):Q1 P F.aW [a,b] w K:=Q9 Q03 Tryz.func125 rfl (by decide) (by kernel_rfl) h
def Q3n (a:Value) (w:World) (K:Value→World→Prop):Prop:= K a w
theorem Q3j {a:Value} {w:World} {K:Value→World→Prop} (h:Q3n a w K):Q1 P F.cp [a] w K:=Q9 (List.replicate 2 none) Tryz.func126 rfl (by decide) (by kernel_rfl) h
def Yx:V5:=[none,none,none,some ([8],[4,5,8,9,10,11,12,13,14,15,16,17,18]),none,none,none,none,none,none,none]
def G6 (g h:Value) (w:World) (K:Value→World→Prop):Prop:= X2 P .len [T.k] T.e [false] [g] w fun j w=>lp (α:=Value) (.int .i64 0) w fun a b k w=>Q3 P .lss T.e (.tmp 8) (.tmp 7) b j w fun i w=>X1 i (indexAddr P T.k g b w fun e w=>Q2 P T.o e w fun f w=>Z3 P h [f] w fun c w=>X1 c (K b w) (Q3 P .add T.e (.tmp 8) (.const (.int .i64 1)) b (.int .i64 1) w fun d w=>a d w)) (K (.int .i64 (-1)) w)
theorem Yr {a b:Value} {w:World} {K:Value→World→Prop} (h:G6 a b w K):Q1 P F.i [a,b] w K:=Q9 Yx Tryz.func140 rfl (by decide) (by kernel_rfl) h
def B3 (a b:Value) (w:World) (K:Value→World→Prop):Prop:= Q1 P F.i [a,b] w fun d w=>Q3 P .geq T.e (.tmp 7) (.const (.int .i64 0)) d (.int .i64 0) w fun c w=>K c w
theorem Xe {a b:Value} {w:World} {K:Value→World→Prop} (h:B3 a b w K):Q1 P F.f [a,b] w K:=Q9 (List.replicate 2 none) Tryz.func166 rfl (by decide) (by kernel_rfl) h
def Ui (r m q:Value) (w:World) (K:Value→World→Prop):Prop:= box P T.o r w fun b w=>dr w fun a c=>Q5 a (fun e=> ∀w,c w→Q2 P T.aa m w (dk a e w)) fun e=>Q5 a (fun d=> ∀w,c w→Q2 P T.o b w (dk a d w)) fun d=>Q5 a (fun i=> ∀f g w,c w→e f w→d g w→Z3 P f [g] w (dk a i w)) fun i=>Q5 a (fun l=> ∀w,c w→Q2 P T.aa m w (dk a l w)) fun l=>Q5 a (fun h=> ∀w,c w→Q2 P T.o q w (dk a h w)) fun h=>∀f g p o n w,c w→e f w→d g w→i p w→l o w→h n w→ Z3 P o [n] w fun k w=>Q3 P .eql T.c (.tmp 7) (.tmp 10) p k w fun j w=>K j w
theorem Cj {b c a:Value} {w:World} {K:Value→World→Prop} (h:Ui b c a w K):Q1 P F.ca [b,c,a] w K:=Q9 (List.replicate 2 none) Tryz.func167 rfl (by decide) (by kernel_rfl) h
def Fa:V5:=[none,none,none,some ([9],[4,5,6,9,10,11,12,13,14,15,16,17,18,19]),none,none,none,none,none,none,none]
def Vy (f m:Value) (w:World) (K:Value→World→Prop):Prop:= box P T.aa m w fun a w=>X2 P .len [T.k] T.e [false] [f] w fun n w=>lp (α:=Value) (.int .i64 0) w fun c d o w=>Q3 P .lss T.e (.tmp 9) (.tmp 8) d n w fun h w=>X1 h (indexAddr P T.k f d w fun l w=>Q2 P T.o l w fun j w=>W0 P T.o w fun b w=>Y1 P T.o b j w fun _u w=>S1 P T.k f none (some d) none w fun e w=>H3 P (.func F.ca) [] [a,b] w fun g w=>Q1 P F.f [e,g] w fun k w=>X1 k (K (.bool false) w) (Q3 P .add T.e (.tmp 9) (.const (.int .i64 1)) d (.int .i64 1) w fun i w=>c i w)) (K (.bool true) w)
theorem Ff {a b:Value} {w:World} {K:Value→World→Prop} (h:Vy a b w K):Q1 P F.aF [a,b] w K:=Q9 Fa Tryz.func127 rfl (by decide) (by kernel_rfl) h
def Bc (c:Value) (w:World) (K:Value→World→Prop):Prop:= box P T.o c w fun a w=>fieldAddr P T.o a 0 w fun d w=>Q2 P T.c d w fun b w=>K b w
theorem Q2Y {a:Value} {w:World} {K:Value→World→Prop} (h:Bc a w K):Q1 P F.cq [a] w K:=Q9 (List.replicate 2 none) Tryz.func128 rfl (by decide) (by kernel_rfl) h
def Jc (r m q:Value) (w:World) (K:Value→World→Prop):Prop:= box P T.d r w fun b w=>dr w fun a c=>Q5 a (fun e=> ∀w,c w→Q2 P T.a9 m w (dk a e w)) fun e=>Q5 a (fun d=> ∀w,c w→Q2 P T.d b w (dk a d w)) fun d=>Q5 a (fun i=> ∀f g w,c w→e f w→d g w→Z3 P f [g] w (dk a i w)) fun i=>Q5 a (fun l=> ∀w,c w→Q2 P T.a9 m w (dk a l w)) fun l=>Q5 a (fun h=> ∀w,c w→Q2 P T.d q w (dk a h w)) fun h=>∀f g p o n w,c w→e f w→d g w→i p w→l o w→h n w→ Z3 P o [n] w fun k w=>Q3 P .eql T.c (.tmp 7) (.tmp 10) p k w fun j w=>K j w
theorem Rd {b c a:Value} {w:World} {K:Value→World→Prop} (h:Jc b c a w K):Q1 P F.bY [b,c,a] w K:=Q9 (List.replicate 2 none) Tryz.func168 rfl (by decide) (by kernel_rfl) h
def Cq:V5:=[none,none,none,some ([9],[4,5,6,9,10,11,12,13,14,15,16,17,18,19]),none,none,none,none,none,none,none]
def Ve (f m:Value) (w:World) (K:Value→World→Prop):Prop:= box P T.a9 m w fun a w=>X2 P .len [T.j] T.e [false] [f] w fun n w=>lp (α:=Value) (.int .i64 0) w fun c d o w=>Q3 P .lss T.e (.tmp 9) (.tmp 8) d n w fun h w=>X1 h (indexAddr P T.j f d w fun l w=>Q2 P T.d l w fun j w=>W0 P T.d w fun b w=>Y1 P T.d b j w fun _u w=>S1 P T.j f none (some d) none w fun e w=>H3 P (.func F.bY) [] [a,b] w fun g w=>Q1 P F.a [e,g] w fun k w=>X1 k (K (.bool false) w) (Q3 P .add T.e (.tmp 9) (.const (.int .i64 1)) d (.int .i64 1) w fun i w=>c i w)) (K (.bool true) w)
theorem Cm {a b:Value} {w:World} {K:Value→World→Prop} (h:Ve a b w K):Q1 P F.ar [a,b] w K:=Q9 Cq Tryz.func129 rfl (by decide) (by kernel_rfl) h
def Bb (c:Value) (w:World) (K:Value→World→Prop):Prop:= box P T.d c w fun a w=>fieldAddr P T.d a 0 w fun d w=>Q2 P T.c d w fun b w=>K b w
theorem Q2V {a:Value} {w:World} {K:Value→World→Prop} (h:Bb a w K):Q1 P F.cr [a] w K:=Q9 (List.replicate 2 none) Tryz.func130 rfl (by decide) (by kernel_rfl) h
def Ji (c d:Value) (w:World) (K:Value→World→Prop):Prop:= box P T.o c w fun a w=>Q2 P T.ag d w fun b w=>Q2 P T.o a w fun e w=>Z3 P b [e] w fun f w=>J8 P .not f w fun g w=>K g w
theorem Hx {a b:Value} {w:World} {K:Value→World→Prop} (h:Ji a b w K):Q1 P F.bZ [a,b] w K:=Q9 (List.replicate 2 none) Tryz.func169 rfl (by decide) (by kernel_rfl) h
def Vb (b c:Value) (w:World) (K:Value→World→Prop):Prop:= box P T.ag c w fun a w=>H3 P (.func F.bZ) [] [a] w fun e w=>Q1 P F.f [b,e] w fun f w=>J8 P .not f w fun d w=>K d w
theorem Cp {a b:Value} {w:World} {K:Value→World→Prop} (h:Vb a b w K):Q1 P F.au [a,b] w K:=Q9 (List.replicate 2 none) Tryz.func131 rfl (by decide) (by kernel_rfl) h
def Q13 (c:Value) (w:World) (K:Value→World→Prop):Prop:= Q3 P .eql T.c (.tmp 3) (.const (.string ⟨#[105,110,116]⟩)) c (.string ⟨#[105,110,116]⟩) w fun a w=>Q0 a false w (fun w J=>J c w) fun g w=>Q0 a false w (Q3 P .eql T.c (.tmp 6) (.const (.string ⟨#[98,111,111,108]⟩)) g (.string ⟨#[98,111,111,108]⟩)) fun h w=>pick P a (.bool true) h w fun e w=>Q0 e false w (fun w J=>J c w) fun d w=>Q0 e false w (Q3 P .eql T.c (.tmp 10) (.const (.string ⟨#[116,101,120,116]⟩)) d (.string ⟨#[116,101,120,116]⟩)) fun b w=>pick P e (.bool true) b w fun f w=>K f w
theorem Q5M {a:Value} {w:World} {K:Value→World→Prop} (h:Q13 a w K):Q1 P F.aP [a] w K:=Q9 (List.replicate 2 none) Tryz.func109 rfl (by decide) (by kernel_rfl) h
def Vf (e f:Value) (w:World) (K:Value→World→Prop):Prop:= X2 P .len [T.c] T.e [false] [e] w fun o w=>X2 P .len [T.c] T.e [false] [f] w fun n w=>Q3 P .geq T.e (.tmp 6) (.tmp 8) o n w fun a w=>Q0 a true w (fun w J=>J e w) fun b w=>Q0 a true w (fun w J=>J e w) fun m w=>Q0 a true w (X2 P .len [T.c] T.e [false] [m]) fun k w=>Q0 a true w (fun w J=>J f w) fun j w=>Q0 a true w (X2 P .len [T.c] T.e [false] [j]) fun d w=>Q0 a true w (Q3 P .sub T.e (.tmp 13) (.tmp 15) k d) fun c w=>Q0 a true w (S1 P T.c b (some c) none none) fun h w=>Q0 a true w (fun w J=>J f w) fun l w=>Q0 a true w (Q3 P .eql T.c (.tmp 17) (.tmp 18) h l) fun i w=>pick P a i (.bool false) w fun g w=>K g w
theorem Cl {a b:Value} {w:World} {K:Value→World→Prop} (h:Vf a b w K):Q1 P F.ac [a,b] w K:=Q9 (List.replicate 2 none) Tryz.func202 rfl (by decide) (by kernel_rfl) h
def Oq (a b:Value) (w:World) (K:Value→World→Prop):Prop:= Q1 P F.ac [a,b] w fun c w=>K c w
theorem Ay {a b:Value} {w:World} {K:Value→World→Prop} (h:Oq a b w K):Q1 P F.bM [a,b] w K:=Q9 (List.replicate 2 none) Tryz.func185 rfl (by decide) (by kernel_rfl) h
def Jx (a f:Value) (w:World) (K:Value→World→Prop):Prop:= Q1 P F.ac [a,f] w fun g w=>X1 g (X2 P .len [T.c] T.e [false] [a] w fun b w=>X2 P .len [T.c] T.e [false] [f] w fun e w=>Q3 P .sub T.e (.tmp 10) (.tmp 12) b e w fun d w=>S1 P T.c a none (some d) none w fun c w=>K c w) (K a w)
theorem Rq {a b:Value} {w:World} {K:Value→World→Prop} (h:Jx a b w K):Q1 P F.cc [a,b] w K:=Q9 (List.replicate 5 none) Tryz.func204 rfl (by decide) (by kernel_rfl) h
def Nz (a b:Value) (w:World) (K:Value→World→Prop):Prop:= Q1 P F.cc [a,b] w fun c w=>K c w
theorem Iz {a b:Value} {w:World} {K:Value→World→Prop} (h:Nz a b w K):Q1 P F.bv [a,b] w K:=Q9 (List.replicate 2 none) Tryz.func186 rfl (by decide) (by kernel_rfl) h
def Q77:V5:=[none,none,none,some ([0,4],[0,4,5,6,7,8,9,10]),none,none,none]
def Q2j (d:Value) (w:World) (K:Value→World→Prop):Prop:= lp (α:=Value×Value) (d,(.int .i64 0)) w fun a b g w=>Q1 P F.bM [b.1,(.string ⟨#[91,93]⟩)] w fun f w=>X1 f (Q1 P F.bv [b.1,(.string ⟨#[91,93]⟩)] w fun e w=>Q3 P .add T.e (.tmp 9) (.const (.int .i64 1)) b.2 (.int .i64 1) w fun c w=>a (e,c) w) (K (.tuple #[b.1,b.2]) w)
theorem Q6w {a:Value} {w:World} {K:Value→World→Prop} (h:Q2j a w K):Q1 P F.cx [a] w K:=Q9 Q77 Tryz.func155 rfl (by decide) (by kernel_rfl) h
def Q1f (k:Value) (w:World) (K:Value→World→Prop):Prop:= Q1 P F.cx [k] w fun j w=>ext P j 0 w fun i w=>ext P j 1 w fun l w=>Q3 P .leq T.e (.tmp 10) (.const (.int .i64 3)) l (.int .i64 3) w fun a w=>Q0 a true w (fun w J=>J i w) fun g w=>Q0 a true w (Q1 P F.aP [g]) fun f w=>Q0 a true w (fun w J=>J f w) fun b w=>Q0 b false w (fun w J=>J i w) fun c w=>Q0 b false w (Q1 P F.am [c]) fun d w=>Q0 a true w (pick P b (.bool true) d) fun h w=>pick P a h (.bool false) w fun e w=>K e w
theorem Q5Z {a:Value} {w:World} {K:Value→World→Prop} (h:Q1f a w K):Q1 P F.a1 [a] w K:=Q9 (List.replicate 3 none) Tryz.func114 rfl (by decide) (by kernel_rfl) h
def Gu (b:Value) (w:World) (K:Value→World→Prop):Prop:= Q1 P F.c6 [b] w fun a w=>Q0 a true w (fun w J=>J b w) fun d w=>Q0 a true w (Q1 P F.am [d]) fun f w=>Q0 a true w (J8 P .not f) fun c w=>pick P a c (.bool false) w fun e w=>K e w
theorem Q3E {a:Value} {w:World} {K:Value→World→Prop} (h:Gu a w K):Q1 P F.bV [a] w K:=Q9 (List.replicate 2 none) Tryz.func133 rfl (by decide) (by kernel_rfl) h
def Bk (e:Value) (w:World) (K:Value→World→Prop):Prop:= box P T.o e w fun a w=>fieldAddr P T.o a 0 w fun i w=>Q2 P T.c i w fun d w=>Q1 P F.bV [d] w fun b w=>Q0 b true w (fieldAddr P T.o a 1) fun h w=>Q0 b true w (Q2 P T.c h) fun f w=>Q0 b true w (Q1 P F.a1 [f]) fun g w=>pick P b g (.bool false) w fun c w=>K c w
theorem Q2S {a:Value} {w:World} {K:Value→World→Prop} (h:Bk a w K):Q1 P F.bA [a] w K:=Q9 (List.replicate 2 none) Tryz.func132 rfl (by decide) (by kernel_rfl) h
def Zj (c d:Value) (w:World) (K:Value→World→Prop):Prop:= box P T.d c w fun a w=>Q2 P T.ae d w fun b w=>Q2 P T.d a w fun e w=>Z3 P b [e] w fun f w=>J8 P .not f w fun g w=>K g w
theorem Hi {a b:Value} {w:World} {K:Value→World→Prop} (h:Zj a b w K):Q1 P F.bW [a,b] w K:=Q9 (List.replicate 2 none) Tryz.func170 rfl (by decide) (by kernel_rfl) h
def Uc (b c:Value) (w:World) (K:Value→World→Prop):Prop:= box P T.ae c w fun a w=>H3 P (.func F.bW) [] [a] w fun e w=>Q1 P F.a [b,e] w fun f w=>J8 P .not f w fun d w=>K d w
theorem Cf {a b:Value} {w:World} {K:Value→World→Prop} (h:Uc a b w K):Q1 P F.ap [a,b] w K:=Q9 (List.replicate 2 none) Tryz.func134 rfl (by decide) (by kernel_rfl) h
def Ru (D A:Value) (w:World) (K:Value→World→Prop):Prop:= box P T.u D w fun a w=>fieldAddr P T.u a 0 w fun C w=>Q2 P T.e C w fun B w=>Q3 P .geq T.e (.tmp 5) (.const (.int .i64 0)) B (.int .i64 0) w fun f w=>Q0 f true w (fieldAddr P T.u a 1) fun H w=>Q0 f true w (Q2 P T.e H) fun E w=>Q0 f true w (fieldAddr P T.u a 0) fun o w=>Q0 f true w (Q2 P T.e o) fun h w=>Q0 f true w (Q3 P .gtr T.e (.tmp 9) (.tmp 11) E h) fun l w=>pick P f l (.bool false) w fun b w=>Q0 b true w (fieldAddr P T.u a 1) fun p w=>Q0 b true w (Q2 P T.e p) fun q w=>Q0 b true w (Q2 P T.e A) fun u w=>Q0 b true w (Q3 P .leq T.e (.tmp 16) (.tmp 17) q u) fun k w=>pick P b k (.bool false) w fun d w=>Q0 d true w (fieldAddr P T.u a 2) fun t w=>Q0 d true w (Q2 P T.e t) fun i w=>Q0 d true w (Q3 P .geq T.e (.tmp 22) (.const (.int .i64 0)) i (.int .i64 0)) fun g w=>pick P d g (.bool false) w fun c w=>Q0 c true w (fieldAddr P T.u a 2) fun z w=>Q0 c true w (Q2 P T.e z) fun n w=>Q0 c true w (Q2 P T.e A) fun m w=>Q0 c true w (Q3 P .lss T.e (.tmp 27) (.tmp 28) n m) fun j w=>pick P c j (.bool false) w fun e w=>Q0 e true w (fieldAddr P T.u a 3) fun v w=>Q0 e true w (Q2 P T.c v) fun r w=>Q0 e true w (Q1 P F.am [r]) fun y w=>pick P e y (.bool false) w fun s w=>K s w
theorem Q2H {a b:Value} {w:World} {K:Value→World→Prop} (h:Ru a b w K):Q1 P F.bj [a,b] w K:=Q9 (List.replicate 2 none) Tryz.func171 rfl (by decide) (by kernel_rfl) h
def Ys:V5:=[none,none,none,some ([8],[4,5,8,9,10,11,12,13,14,15,16,17,18]),none,none,none,none,none,none,none]
def F8 (g h:Value) (w:World) (K:Value→World→Prop):Prop:= X2 P .len [T.r] T.e [false] [g] w fun j w=>lp (α:=Value) (.int .i64 0) w fun a b k w=>Q3 P .lss T.e (.tmp 8) (.tmp 7) b j w fun i w=>X1 i (indexAddr P T.r g b w fun e w=>Q2 P T.w e w fun f w=>Z3 P h [f] w fun c w=>X1 c (K b w) (Q3 P .add T.e (.tmp 8) (.const (.int .i64 1)) b (.int .i64 1) w fun d w=>a d w)) (K (.int .i64 (-1)) w)
theorem Za {a b:Value} {w:World} {K:Value→World→Prop} (h:F8 a b w K):Q1 P F.a7 [a,b] w K:=Q9 Ys Tryz.func208 rfl (by decide) (by kernel_rfl) h
def B4 (a b:Value) (w:World) (K:Value→World→Prop):Prop:= Q1 P F.a7 [a,b] w fun d w=>Q3 P .geq T.e (.tmp 7) (.const (.int .i64 0)) d (.int .i64 0) w fun c w=>K c w
theorem Xg {a b:Value} {w:World} {K:Value→World→Prop} (h:B4 a b w K):Q1 P F.l [a,b] w K:=Q9 (List.replicate 2 none) Tryz.func194 rfl (by decide) (by kernel_rfl) h
def Jb (c d:Value) (w:World) (K:Value→World→Prop):Prop:= box P T.w c w fun a w=>Q2 P T.ai d w fun b w=>Q2 P T.w a w fun e w=>Z3 P b [e] w fun f w=>J8 P .not f w fun g w=>K g w
theorem Rc {a b:Value} {w:World} {K:Value→World→Prop} (h:Jb a b w K):Q1 P F.c0 [a,b] w K:=Q9 (List.replicate 2 none) Tryz.func195 rfl (by decide) (by kernel_rfl) h
def Uy (b c:Value) (w:World) (K:Value→World→Prop):Prop:= box P T.ai c w fun a w=>H3 P (.func F.c0) [] [a] w fun e w=>Q1 P F.l [b,e] w fun f w=>J8 P .not f w fun d w=>K d w
theorem Co {a b:Value} {w:World} {K:Value→World→Prop} (h:Uy a b w K):Q1 P F.aw [a,b] w K:=Q9 (List.replicate 2 none) Tryz.func172 rfl (by decide) (by kernel_rfl) h
def Ul:V5:=[none,none,none,some ([8],[4,5,8,9,10,11,12,13,14,15,16,17,18]),none,none,none,none,none,none,none]
def P2 (g h:Value) (w:World) (K:Value→World→Prop):Prop:= X2 P .len [T.ap] T.e [false] [g] w fun j w=>lp (α:=Value) (.int .i64 0) w fun a b k w=>Q3 P .lss T.e (.tmp 8) (.tmp 7) b j w fun i w=>X1 i (indexAddr P T.ap g b w fun e w=>Q2 P T.ad e w fun f w=>Z3 P h [f] w fun c w=>X1 c (K b w) (Q3 P .add T.e (.tmp 8) (.const (.int .i64 1)) b (.int .i64 1) w fun d w=>a d w)) (K (.int .i64 (-1)) w)
theorem Jt {a b:Value} {w:World} {K:Value→World→Prop} (h:P2 a b w K):Q1 P F.u [a,b] w K:=Q9 Ul Tryz.func221 rfl (by decide) (by kernel_rfl) h
def Tn (c d:Value) (w:World) (K:Value→World→Prop):Prop:= box P T.ad c w fun a w=>fieldAddr P T.ad a 0 w fun b w=>Q2 P T.c b w fun e w=>Q2 P T.c d w fun f w=>Q3 P .eql T.c (.tmp 5) (.tmp 6) e f w fun g w=>K g w
theorem Q4S {a b:Value} {w:World} {K:Value→World→Prop} (h:Tn a b w K):Q1 P F.cR [a,b] w K:=Q9 (List.replicate 2 none) Tryz.func222 rfl (by decide) (by kernel_rfl) h
def Q2m (c:Value) (w:World) (K:Value→World→Prop):Prop:= box P T.c c w fun a w=>S1 P T.af (.pointer (some ⟨G.a,0,none⟩)) none none none w fun e w=>H3 P (.func F.cR) [] [a] w fun b w=>Q1 P F.u [e,b] w fun d w=>K d w
theorem Q6M {a:Value} {w:World} {K:Value→World→Prop} (h:Q2m a w K):Q1 P F.cM [a] w K:=Q9 (List.replicate 2 none) Tryz.func209 rfl (by decide) (by kernel_rfl) h
def Q0z (p:Value) (w:World) (K:Value→World→Prop):Prop:= Q1 P F.cM [p] w fun o w=>Q3 P .lss T.e (.tmp 8) (.const (.int .i64 0)) o (.int .i64 0) w fun q w=>X1 q (K (.tuple #[(.bool false),(.bool false),(.bool false)]) w) (dr w fun a j=>Q5 a (fun e=> ∀w,j w→indexAddr P T.af (.pointer (some ⟨G.a,0,none⟩)) o w (dk a e w)) fun e=>Q5 a (fun c=> ∀d w,j w→e d w→fieldAddr P T.ad d 1 w (dk a c w)) fun c=>Q5 a (fun b=> ∀w,j w→indexAddr P T.af (.pointer (some ⟨G.a,0,none⟩)) o w (dk a b w)) fun b=>Q5 a (fun g=> ∀h w,j w→b h w→fieldAddr P T.ad h 2 w (dk a g w)) fun g=>Q5 a (fun k=> ∀f w,j w→c f w→Q2 P T.v f w (dk a k w)) fun k=>Q5 a (fun l=> ∀i w,j w→g i w→Q2 P T.v i w (dk a l w)) fun l=>∀d f h i m n w,j w→e d w→c f w→b h w→g i w→k m w→l n w→ K (.tuple #[m,n,(.bool true)]) w)
theorem Q5N {a:Value} {w:World} {K:Value→World→Prop} (h:Q0z a w K):Q1 P F.cm [a] w K:=Q9 (List.replicate 6 none) Tryz.func196 rfl (by decide) (by kernel_rfl) h
def Q2q (c:Value) (w:World) (K:Value→World→Prop):Prop:= Q1 P F.cx [c] w fun d w=>ext P d 0 w fun f w=>ext P d 1 w fun e w=>Q1 P F.a1 [c] w fun a w=>J8 P .not a w fun b w=>X1 b (K (.int .i64 0) w) (K e w)
theorem Q73 {a:Value} {w:World} {K:Value→World→Prop} (h:Q2q a w K):Q1 P F.cw [a] w K:=Q9 (List.replicate 6 none) Tryz.func115 rfl (by decide) (by kernel_rfl) h
def Vc (a b:Value) (w:World) (K:Value→World→Prop):Prop:= Q1 P F.c2 [a,b] w fun c w=>K c w
theorem Cu {a b:Value} {w:World} {K:Value→World→Prop} (h:Vc a b w K):Q1 P F.ay [a,b] w K:=Q9 (List.replicate 2 none) Tryz.func227 rfl (by decide) (by kernel_rfl) h
def Az:V5:=[none,none,none,none,none,none,none,none,none,none,none,none,none,none,none,none,none,some ([8,10],[4,8,10,11,12,13,57,58,59,60,61,62,63,64,65,66,67,68,69,70,71,72,73,74,75,76,77,78,79,80,81,82,83,84,85,86,87,88,89,90,91,92,93,94,95,96,97,98,99,100,101,102,103,104,105,106,107,108,109,110,111,112,113,114,115,116,117,118,119,120,121,122,123,124,125,126,127,128,129,130,131,132,133,134,135,136,137,138,139,140,141,142]),none,none,some ([8],[4,8,11,60,61,62,63,64,65,66,67,68,69,70,71,72,73,74,75,76,77]),none,none,none,none,none,none,none,none,none,none,none,none,none,none,none,none,none,none,none,none,none,none,none]
def Dg (h l:Value) (w:World) (K:Value→World→Prop):Prop:= X2 P .len [T.c] T.e [false] [l] w fun e w=>Q3 P .eql T.e (.tmp 17) (.const (.int .i64 0)) e (.int .i64 0) w fun m w=>Q0 m false w (fun w J=>J l w) fun ab w=>Q0 m false w (fun w J=>J h w) fun bd w=>Q0 m false w (Q3 P .eql T.c (.tmp 20) (.tmp 21) ab bd) fun a9 w=>pick P m (.bool true) a9 w fun aa w=>X1 aa (K (.int .i64 0) w) (Q3 P .eql T.e (.tmp 25) (.const (.int .i64 1)) e (.int .i64 1) w fun ay w=>X1 ay (C4 P T.c l (.int .i64 0) w fun ak w=>Q1 P F.ay [h,ak] w fun bf w=>K bf w) (X2 P .len [T.c] T.e [false] [h] w fun av w=>Q3 P .geq T.e (.tmp 32) (.tmp 34) e av w fun ap w=>X1 ap (K (.int .i64 (-1)) w) (Q2 P T.e (.pointer (some ⟨G.c,0,none⟩)) w fun a6 w=>Q3 P .leq T.e (.tmp 37) (.tmp 38) e a6 w fun k w=>Q0 k true w (fun w J=>J h w) fun bc w=>Q0 k true w (X2 P .len [T.c] T.e [false] [bc]) fun ag w=>Q0 k true w (Q3 P .leq T.e (.tmp 42) (.const (.int .i64 64)) ag (.int .i64 64)) fun al w=>pick P k al (.bool false) w fun ao w=>X1 ao (Q1 P F.cu [h,l] w fun a2 w=>K a2 w) (C4 P T.c l (.int .i64 0) w fun X w=>C4 P T.c l (.int .i64 1) w fun bb w=>X2 P .len [T.c] T.e [false] [h] w fun a5 w=>Q3 P .sub T.e (.tmp 53) (.tmp 54) a5 e w fun a3 w=>Q3 P .add T.e (.tmp 55) (.const (.int .i64 1)) a3 (.int .i64 1) w fun q w=>lp (α:=Value×Value) ((.int .i64 0),(.int .i64 0)) w fun i g d_ w=>Q3 P .lss T.e (.tmp 57) (.tmp 58) g.1 q w fun am w=>X1 am (jn (α:=Value) w (fun A w=>C4 P T.c h g.1 w fun be w=>Q3 P .neq T.a3 (.tmp 62) (.tmp 63) be X w fun an w=>X1 an (Q3 P .add T.e (.tmp 66) (.const (.int .i64 1)) g.1 (.int .i64 1) w fun ae w=>S1 P T.c h (some ae) (some q) none w fun ad w=>Q1 P F.ay [ad,X] w fun V w=>Q3 P .lss T.e (.tmp 72) (.const (.int .i64 0)) V (.int .i64 0) w fun ah w=>X1 ah (K (.int .i64 (-1)) w) (Q3 P .add T.e (.tmp 75) (.const (.int .i64 1)) V (.int .i64 1) w fun ai w=>Q3 P .add T.e (.tmp 74) (.tmp 76) g.1 ai w fun a4 w=>A a4 w)) (A g.1 w)) fun j d_ w=>Q3 P .add T.e (.tmp 79) (.const (.int .i64 1)) j (.int .i64 1) w fun a7 w=>C4 P T.c h a7 w fun aq w=>Q3 P .eql T.a3 (.tmp 81) (.tmp 82) aq bb w fun b w=>Q0 b true w (fun w J=>J h w) fun az w=>Q0 b true w (fun w J=>J j w) fun af w=>Q0 b true w (fun w J=>J j w) fun ac w=>Q0 b true w (fun w J=>J e w) fun ba w=>Q0 b true w (Q3 P .add T.e (.tmp 87) (.tmp 88) ac ba) fun aw w=>Q0 b true w (S1 P T.c az (some af) (some aw) none) fun ar w=>Q0 b true w (fun w J=>J l w) fun ax w=>Q0 b true w (Q3 P .eql T.c (.tmp 90) (.tmp 91) ar ax) fun aj w=>pick P b aj (.bool false) w fun a8 w=>X1 a8 (K j w) (Q3 P .add T.e (.tmp 95) (.const (.int .i64 1)) j (.int .i64 1) w fun c w=>Q3 P .add T.e (.tmp 97) (.const (.int .i64 1)) g.2 (.int .i64 1) w fun p w=>Q2 P T.e (.pointer (some ⟨G.c,0,none⟩)) w fun t w=>Q3 P .leq T.e (.tmp 99) (.tmp 100) e t w fun d w=>Q0 d true w (fun w J=>J p w) fun U w=>Q0 d true w (fun w J=>J c w) fun B w=>Q0 d true w (Q1 P F.cV [B]) fun R w=>Q0 d true w (Q3 P .gtr T.e (.tmp 103) (.tmp 105) U R) fun z w=>pick P d z (.bool false) w fun Q w=>X1 Q (S1 P T.c h (some c) none none w fun C w=>Q1 P F.cu [C,l] w fun n w=>Q3 P .geq T.e (.tmp 113) (.const (.int .i64 0)) n (.int .i64 0) w fun Y w=>X1 Y (Q3 P .add T.e (.tmp 115) (.tmp 116) n c w fun L w=>K L w) (K (.int .i64 (-1)) w)) (Q2 P T.e (.pointer (some ⟨G.c,0,none⟩)) w fun u w=>Q3 P .gtr T.e (.tmp 118) (.tmp 119) e u w fun a w=>Q0 a true w (fun w J=>J p w) fun r w=>Q0 a true w (fun w J=>J c w) fun M w=>Q0 a true w (Q3 P .shr T.e (.tmp 123) (.const (.int .u64 4)) M (.int .u64 4)) fun v w=>Q0 a true w (Q3 P .add T.e (.const (.int .i64 4)) (.tmp 124) (.int .i64 4) v) fun E w=>Q0 a true w (Q3 P .geq T.e (.tmp 122) (.tmp 125) r E) fun N w=>pick P a N (.bool false) w fun f w=>Q0 f true w (fun w J=>J c w) fun W w=>Q0 f true w (fun w J=>J q w) fun H w=>Q0 f true w (Q3 P .lss T.e (.tmp 129) (.tmp 130) W H) fun Z w=>pick P f Z (.bool false) w fun s w=>X1 s (S1 P T.c h (some c) none none w fun y w=>Q1 P F.cK [y,l] w fun o w=>Q3 P .lss T.e (.tmp 138) (.const (.int .i64 0)) o (.int .i64 0) w fun O w=>X1 O (K (.int .i64 (-1)) w) (Q3 P .add T.e (.tmp 140) (.tmp 141) c o w fun D w=>K D w)) (i (c,p) w)))) (K (.int .i64 (-1)) w)))))
theorem Ai {a b:Value} {w:World} {K:Value→World→Prop} (h:Dg a b w K):Q1 P F.bN [a,b] w K:=Q9 Az Tryz.func228 rfl (by decide) (by kernel_rfl) h
def Hp (l n:Value) (w:World) (K:Value→World→Prop):Prop:= Q1 P F.bN [l,n] w fun h w=>Q3 P .geq T.e (.tmp 11) (.const (.int .i64 0)) h (.int .i64 0) w fun m w=>X1 m (dr w fun e j=>Q5 e (fun g=> ∀w,j w→S1 P T.c l none (some h) none w (dk e g w)) fun g=>Q5 e (fun a=> ∀w,j w→X2 P .len [T.c] T.e [false] [n] w (dk e a w)) fun a=>Q5 e (fun d=> ∀c w,j w→a c w→Q3 P .add T.e (.tmp 17) (.tmp 19) h c w (dk e d w)) fun d=>Q5 e (fun f=> ∀b w,j w→d b w→S1 P T.c l (some b) none none w (dk e f w)) fun f=>∀k c b i w,j w→g k w→a c w→d b w→f i w→ K (.tuple #[k,i,(.bool true)]) w) (K (.tuple #[l,(.string ⟨#[]⟩),(.bool false)]) w)
theorem Q20 {a b:Value} {w:World} {K:Value→World→Prop} (h:Hp a b w K):Q1 P F.cJ [a,b] w K:=Q9 (List.replicate 6 none) Tryz.func229 rfl (by decide) (by kernel_rfl) h
def Tf (e f:Value) (w:World) (K:Value→World→Prop):Prop:= Q1 P F.cJ [e,f] w fun c w=>ext P c 0 w fun b w=>ext P c 1 w fun a w=>ext P c 2 w fun d w=>K (.tuple #[b,a,d]) w
theorem Q4T {a b:Value} {w:World} {K:Value→World→Prop} (h:Tf a b w K):Q1 P F.cB [a,b] w K:=Q9 (List.replicate 2 none) Tryz.func224 rfl (by decide) (by kernel_rfl) h
end Go.Proofs.YtjdiakhipmggjaaGreatDoor

set_option maxRecDepth 100000
namespace Go.Proofs.YtjdiakhipmggjaaGreatDoor
open Go.Emb
def Q1k (t:Value) (w:World) (K:Value→World→Prop):Prop:= Q1 P F.cB [t,(.string ⟨#[46]⟩)] w fun e w=>ext P e 0 w fun f w=>ext P e 1 w fun d w=>ext P e 2 w fun h w=>J8 P .not h w fun c w=>Q0 c false w (fun w J=>J f w) fun q w=>Q0 c false w (Q1 P F.am [q]) fun m w=>Q0 c false w (J8 P .not m) fun i w=>pick P c (.bool true) i w fun b w=>Q0 b false w (fun w J=>J d w) fun j w=>Q0 b false w (Q1 P F.c6 [j]) fun g w=>Q0 b false w (J8 P .not g) fun k w=>pick P b (.bool true) k w fun a w=>Q0 a false w (fun w J=>J d w) fun o w=>Q0 a false w (C4 P T.c o (.int .i64 0)) fun n w=>Q0 a false w (conv P T.a3 T.an n) fun l w=>Q0 a false w (Q1 P F.cl [l]) fun p w=>Q0 a false w (J8 P .not p) fun s w=>pick P a (.bool true) s w fun r w=>X1 r (K (.tuple #[(.string ⟨#[]⟩),(.string ⟨#[]⟩),(.int .i64 30)]) w) (K (.tuple #[f,d,(.int .i64 0)]) w)
theorem Q66 {a:Value} {w:World} {K:Value→World→Prop} (h:Q1k a w K):Q1 P F.cI [a] w K:=Q9 (List.replicate 6 none) Tryz.func211 rfl (by decide) (by kernel_rfl) h
def Q6B:V5:=[none,none,none,none,none,none,none,some ([27],[27,28,29]),none,none,none,none,none,none]
def Q2a (h a:Value) (w:World) (K:Value→World→Prop):Prop:= Q3 P .eql T.c (.tmp 8) (.const (.string ⟨#[119,111,114,100]⟩)) h (.string ⟨#[119,111,114,100]⟩) w fun v w=>X1 v (X2 P .len [T.c] T.e [false] [a] w fun s w=>Q3 P .leq T.e (.tmp 12) (.const (.int .i64 64)) s (.int .i64 64) w fun e w=>Q0 e true w (fun w J=>J a w) fun z w=>Q0 e true w (Q1 P F.b2 [z]) fun A w=>pick P e A (.bool false) w fun c w=>Q0 c true w (fun w J=>J a w) fun m w=>Q0 c true w (Q1 P F.cE [m,(.string ⟨#[10]⟩)]) fun i w=>Q0 c true w (J8 P .not i) fun C w=>pick P c C (.bool false) w fun n w=>K n w) (Q3 P .eql T.c (.tmp 8) (.const (.string ⟨#[110,101,119]⟩)) h (.string ⟨#[110,101,119]⟩) w fun o w=>X1 o (Q1 P F.am [a] w fun H w=>K H w) (jn (α:=Value) w (fun L w=>Q3 P .eql T.c (.tmp 8) (.const (.string ⟨#[105,115]⟩)) h (.string ⟨#[105,115]⟩) w fun g w=>X1 g (L g w) (Q3 P .eql T.c (.tmp 8) (.const (.string ⟨#[99,97,115,116]⟩)) h (.string ⟨#[99,97,115,116]⟩) w fun q w=>L q w)) fun M Q w=>X1 M (Q1 P F.a1 [a] w fun d w=>Q0 d true w (fun w J=>J a w) fun B w=>Q0 d true w (Q1 P F.aP [B]) fun E w=>Q0 d true w (J8 P .not E) fun D w=>pick P d D (.bool false) w fun p w=>K p w) (Q3 P .eql T.c (.tmp 8) (.const (.string ⟨#[97,114,114,97,121]⟩)) h (.string ⟨#[97,114,114,97,121]⟩) w fun k w=>X1 k (Q1 P F.a1 [a] w fun b w=>Q0 b true w (fun w J=>J a w) fun l w=>Q0 b true w (Q1 P F.cw [l]) fun r w=>Q0 b true w (Q3 P .lss T.e (.tmp 43) (.const (.int .i64 3)) r (.int .i64 3)) fun y w=>pick P b y (.bool false) w fun t w=>K t w) (Q1 P F.cI [a] w fun f w=>ext P f 0 w fun O w=>ext P f 1 w fun N w=>ext P f 2 w fun u w=>Q3 P .eql T.z (.tmp 52) (.const (.int .i64 0)) u (.int .i64 0) w fun j w=>K j w))))
theorem Q6v {a b:Value} {w:World} {K:Value→World→Prop} (h:Q2a a b w K):Q1 P F.cL [a,b] w K:=Q9 Q6B Tryz.func197 rfl (by decide) (by kernel_rfl) h
def Q5t:V5:=[none,none,none,none,none,some ([16],[16,17,18,19,20,21,22,23,24,25,26,27,28,29,30,31,32,33,34,35,36,37,38,39]),none,none,none,none]
def Q0E (B:Value) (w:World) (K:Value→World→Prop):Prop:= box P T.w B w fun a w=>fieldAddr P T.w a 0 w fun D w=>Q2 P T.c D w fun C w=>Q1 P F.cm [C] w fun s w=>ext P s 0 w fun r w=>ext P s 1 w fun b w=>ext P s 2 w fun o w=>J8 P .not o w fun t w=>X1 t (K (.int .i64 40) w) (jn (α:=Value) w (fun g w=>J8 P .not r w fun d w=>Q0 d true w (fieldAddr P T.w a 1) fun h w=>Q0 d true w (Q2 P T.a1 h) fun y w=>Q0 d true w (Q3 P .neq T.a1 (.tmp 21) (.const (.int .i64 0)) y (.int .i64 0)) fun k w=>pick P d k (.bool false) w fun e w=>X1 e (g e w) (J8 P .not b w fun c w=>Q0 c true w (fieldAddr P T.w a 2) fun q w=>Q0 c true w (Q2 P T.c q) fun p w=>Q0 c true w (Q3 P .neq T.c (.tmp 28) (.const (.string ⟨#[]⟩)) p (.string ⟨#[]⟩)) fun n w=>pick P c n (.bool false) w fun f w=>X1 f (g f w) (Q0 b true w (fieldAddr P T.w a 0) fun u w=>Q0 b true w (Q2 P T.c u) fun z w=>Q0 b true w (fieldAddr P T.w a 2) fun v w=>Q0 b true w (Q2 P T.c v) fun l w=>Q0 b true w (Q1 P F.cL [z,l]) fun m w=>Q0 b true w (J8 P .not m) fun j w=>pick P b j (.bool false) w fun i w=>g i w))) fun A E w=>X1 A (K (.int .i64 41) w) (K (.int .i64 0) w))
theorem Q5c {a:Value} {w:World} {K:Value→World→Prop} (h:Q0E a w K):Q1 P F.cH [a] w K:=Q9 Q5t Tryz.func174 rfl (by decide) (by kernel_rfl) h
def Sz (c:Value) (w:World) (K:Value→World→Prop):Prop:= box P T.w c w fun a w=>Q2 P T.w a w fun e w=>Q1 P F.cH [e] w fun b w=>Q3 P .eql T.z (.tmp 4) (.const (.int .i64 0)) b (.int .i64 0) w fun d w=>K d w
theorem Q2M {a:Value} {w:World} {K:Value→World→Prop} (h:Sz a w K):Q1 P F.bk [a] w K:=Q9 (List.replicate 2 none) Tryz.func173 rfl (by decide) (by kernel_rfl) h
def Yz:V5:=[none,none,none,some ([8],[4,5,8,9,10,11,12,13,14,15,16,17,18]),none,none,none,none,none,none,none]
def G9 (g h:Value) (w:World) (K:Value→World→Prop):Prop:= X2 P .len [T.t] T.e [false] [g] w fun j w=>lp (α:=Value) (.int .i64 0) w fun a b k w=>Q3 P .lss T.e (.tmp 8) (.tmp 7) b j w fun i w=>X1 i (indexAddr P T.t g b w fun e w=>Q2 P T.u e w fun f w=>Z3 P h [f] w fun c w=>X1 c (K b w) (Q3 P .add T.e (.tmp 8) (.const (.int .i64 1)) b (.int .i64 1) w fun d w=>a d w)) (K (.int .i64 (-1)) w)
theorem Ym {a b:Value} {w:World} {K:Value→World→Prop} (h:G9 a b w K):Q1 P F.a8 [a,b] w K:=Q9 Yz Tryz.func212 rfl (by decide) (by kernel_rfl) h
def B6 (a b:Value) (w:World) (K:Value→World→Prop):Prop:= Q1 P F.a8 [a,b] w fun d w=>Q3 P .geq T.e (.tmp 7) (.const (.int .i64 0)) d (.int .i64 0) w fun c w=>K c w
theorem Xd {a b:Value} {w:World} {K:Value→World→Prop} (h:B6 a b w K):Q1 P F.m [a,b] w K:=Q9 (List.replicate 2 none) Tryz.func198 rfl (by decide) (by kernel_rfl) h
def Je (c d:Value) (w:World) (K:Value→World→Prop):Prop:= box P T.u c w fun a w=>Q2 P T.ah d w fun b w=>Q2 P T.u a w fun e w=>Z3 P b [e] w fun f w=>J8 P .not f w fun g w=>K g w
theorem Hz {a b:Value} {w:World} {K:Value→World→Prop} (h:Je a b w K):Q1 P F.c1 [a,b] w K:=Q9 (List.replicate 2 none) Tryz.func199 rfl (by decide) (by kernel_rfl) h
def Vh (b c:Value) (w:World) (K:Value→World→Prop):Prop:= box P T.ah c w fun a w=>H3 P (.func F.c1) [] [a] w fun e w=>Q1 P F.m [b,e] w fun f w=>J8 P .not f w fun d w=>K d w
theorem Ct {a b:Value} {w:World} {K:Value→World→Prop} (h:Vh a b w K):Q1 P F.ax [a,b] w K:=Q9 (List.replicate 2 none) Tryz.func175 rfl (by decide) (by kernel_rfl) h
def Gt (a0:Value) (w:World) (K:Value→World→Prop):Prop:= box P T.d a0 w fun b w=>fieldAddr P T.d b 0 w fun t5 w=>Q2 P T.c t5 w fun t6 w=>Q1 P F.bV [t6] w fun t7 w=>J8 P .not t7 w fun i w=>Q0 i false w (fieldAddr P T.d b 1) fun V w=>Q0 i false w (Q2 P T.h V) fun t w=>Q0 i false w (Q1 P F.ab [t,(.func (.func F.a1) #[] #[])]) fun L w=>Q0 i false w (J8 P .not L) fun p w=>pick P i (.bool true) p w fun c w=>Q0 c false w (fieldAddr P T.d b 2) fun ac w=>Q0 c false w (Q2 P T.c ac) fun ah w=>Q0 c false w (Q3 P .neq T.c (.tmp 17) (.const (.string ⟨#[]⟩)) ah (.string ⟨#[]⟩)) fun H w=>Q0 c false w (fun w J=>J H w) fun d w=>Q0 d true w (fieldAddr P T.d b 2) fun l w=>Q0 d true w (Q2 P T.c l) fun ae w=>Q0 d true w (Q1 P F.a1 [ae]) fun B w=>Q0 d true w (J8 P .not B) fun k w=>Q0 c false w (pick P d k (.bool false)) fun C w=>pick P c (.bool true) C w fun u w=>X1 u (K (.bool false) w) (fieldAddr P T.d b 3 w fun al w=>Q2 P T.v al w fun R w=>X1 R (fieldAddr P T.d b 4 w fun M w=>Q2 P T.e M w fun D w=>Q3 P .eql T.e (.tmp 29) (.const (.int .i64 0)) D (.int .i64 0) w fun g w=>Q0 g true w (fieldAddr P T.d b 5) fun ai w=>Q0 g true w (Q2 P T.r ai) fun ad w=>Q0 g true w (X2 P .len [T.r] T.e [false] [ad]) fun aj w=>Q0 g true w (Q3 P .eql T.e (.tmp 34) (.const (.int .i64 0)) aj (.int .i64 0)) fun af w=>pick P g af (.bool false) w fun e w=>Q0 e true w (fieldAddr P T.d b 6) fun q w=>Q0 e true w (Q2 P T.t q) fun o w=>Q0 e true w (X2 P .len [T.t] T.e [false] [o]) fun W w=>Q0 e true w (Q3 P .eql T.e (.tmp 40) (.const (.int .i64 0)) W (.int .i64 0)) fun aa w=>pick P e aa (.bool false) w fun z w=>K z w) (fieldAddr P T.d b 5 w fun E w=>Q2 P T.r E w fun Z w=>X2 P .len [T.r] T.e [false] [Z] w fun N w=>W0 P T.e w fun t3 w=>Y1 P T.e t3 N w fun _u w=>H3 P (.func F.bj) [] [t3] w fun A w=>Q2 P T.e t3 w fun j w=>Q3 P .gtr T.e (.tmp 47) (.const (.int .i64 0)) j (.int .i64 0) w fun a w=>Q0 a true w (fieldAddr P T.d b 4) fun s w=>Q0 a true w (Q2 P T.e s) fun Q w=>Q0 a true w (fieldAddr P T.d b 1) fun ag w=>Q0 a true w (Q2 P T.h ag) fun n w=>Q0 a true w (X2 P .len [T.h] T.e [false] [n]) fun ak w=>Q0 a true w (Q3 P .gtr T.e (.tmp 51) (.tmp 54) Q ak) fun m w=>pick P a m (.bool false) w fun h w=>Q0 h true w (fieldAddr P T.d b 5) fun y w=>Q0 h true w (Q2 P T.r y) fun X w=>Q0 h true w (Q1 P F.aw [X,(.func (.func F.bk) #[] #[])]) fun O w=>pick P h O (.bool false) w fun f w=>Q0 f true w (fieldAddr P T.d b 6) fun v w=>Q0 f true w (Q2 P T.t v) fun Y w=>Q0 f true w (fun w J=>J A w) fun U w=>Q0 f true w (Q1 P F.ax [Y,U]) fun ab w=>pick P f ab (.bool false) w fun r w=>K r w))
theorem Q3Z {a:Value} {w:World} {K:Value→World→Prop} (h:Gt a w K):Q1 P F.bc [a] w K:=Q9 (List.replicate 10 none) Tryz.func135 rfl (by decide) (by kernel_rfl) h
def Th (a0:Value) (w:World) (K:Value→World→Prop):Prop:= box P T.b a0 w fun b w=>fieldAddr P T.b b 0 w fun t7 w=>Q2 P T.c t7 w fun t8 w=>fieldAddr P T.b b 1 w fun t9 w=>Q2 P T.c t9 w fun Z w=>buildSlice P T.h 2 [(0,t8),(1,Z)] w fun L w=>fieldAddr P T.b b 2 w fun a1 w=>Q2 P T.h a1 w fun A w=>X2 P .append [T.h,T.h] T.h [false,false] [L,A] w fun t w=>dr w fun o u=>Q5 o (fun n=> ∀w,u w→S1 P T.h t (some (.int .i64 1)) none none w (dk o n w)) fun n=>Q5 o (fun j=> ∀w,u w→fieldAddr P T.b b 0 w (dk o j w)) fun j=>Q5 o (fun l=> ∀k w,u w→j k w→Q2 P T.c k w (dk o l w)) fun l=>∀r k s w,u w→n r w→j k w→l s w→ Q1 P F.ai [r,s] w fun Q w=>fieldAddr P T.b b 7 w fun z w=>Q2 P T.j z w fun a9 w=>Q1 P F.a [a9,(.func (.func F.cn) #[] #[])] w fun aw w=>fieldAddr P T.b b 7 w fun y w=>Q2 P T.j y w fun ay w=>Q1 P F.a [ay,(.func (.func F.co) #[] #[])] w fun M w=>Q1 P F.ab [t,(.func (.func F.am) #[] #[])] w fun a2 w=>J8 P .not a2 w fun p w=>Q0 p false w (fun w J=>J Q w) fun ai w=>pick P p (.bool true) ai w fun c w=>Q0 c false w (fieldAddr P T.b b 2) fun ae w=>Q0 c false w (Q2 P T.h ae) fun ad w=>Q0 c false w (Q1 P F.aW [ad,(.func (.func F.cp) #[] #[])]) fun ax w=>Q0 c false w (J8 P .not ax) fun U w=>pick P c (.bool true) U w fun aq w=>X1 aq (K (.bool false) w) (fieldAddr P T.b b 3 w fun a6 w=>Q2 P T.v a6 w fun a w=>Q0 a true w (fieldAddr P T.b b 4) fun V w=>Q0 a true w (Q2 P T.v V) fun ab w=>Q0 a true w (J8 P .not ab) fun W w=>Q0 a true w (fun w J=>J W w) fun i w=>Q0 i false w (fieldAddr P T.b b 1) fun al w=>Q0 i false w (Q2 P T.c al) fun C w=>Q0 i false w (Q3 P .neq T.c (.tmp 48) (.const (.string ⟨#[79,98,106,101,99,116]⟩)) C (.string ⟨#[79,98,106,101,99,116]⟩)) fun bc w=>Q0 a true w (pick P i (.bool true) bc) fun ar w=>Q0 a true w (fun w J=>J ar w) fun e w=>Q0 e false w (fieldAddr P T.b b 6) fun ba w=>Q0 e false w (Q2 P T.k ba) fun ao w=>Q0 e false w (X2 P .len [T.k] T.e [false] [ao]) fun bd w=>Q0 e false w (Q3 P .gtr T.e (.tmp 54) (.const (.int .i64 0)) bd (.int .i64 0)) fun am w=>Q0 a true w (pick P e (.bool true) am) fun az w=>Q0 a true w (fun w J=>J az w) fun q w=>Q0 q false w (fun w J=>J M w) fun N w=>Q0 a true w (pick P q (.bool true) N) fun aa w=>pick P a aa (.bool false) w fun X w=>X1 X (K (.bool false) w) (fieldAddr P T.b b 4 w fun bb w=>Q2 P T.v bb w fun m w=>Q0 m true w (fieldAddr P T.b b 5) fun a4 w=>Q0 m true w (Q2 P T.v a4) fun a7 w=>pick P m a7 (.bool false) w fun f w=>Q0 f false w (fun w J=>J aw w) fun E w=>Q0 f false w (fun w J=>J E w) fun g w=>Q0 g true w (fieldAddr P T.b b 4) fun a8 w=>Q0 g true w (Q2 P T.v a8) fun aj w=>Q0 g true w (J8 P .not aj) fun O w=>Q0 f false w (pick P g O (.bool false)) fun ac w=>pick P f (.bool true) ac w fun a5 w=>X1 a5 (K (.bool false) w) (fieldAddr P T.b b 6 w fun an w=>Q2 P T.k an w fun ag w=>Q1 P F.aF [ag,(.func (.func F.cq) #[] #[])] w fun ah w=>J8 P .not ah w fun d w=>Q0 d false w (fieldAddr P T.b b 7) fun D w=>Q0 d false w (Q2 P T.j D) fun ap w=>Q0 d false w (Q1 P F.ar [ap,(.func (.func F.cr) #[] #[])]) fun v w=>Q0 d false w (J8 P .not v) fun ak w=>pick P d (.bool true) ak w fun H w=>X1 H (K (.bool false) w) (fieldAddr P T.b b 6 w fun B w=>Q2 P T.k B w fun a3 w=>Q1 P F.au [a3,(.func (.func F.bA) #[] #[])] w fun h w=>Q0 h true w (fieldAddr P T.b b 7) fun af w=>Q0 h true w (Q2 P T.j af) fun R w=>Q0 h true w (Q1 P F.ap [R,(.func (.func F.bc) #[] #[])]) fun av w=>pick P h av (.bool false) w fun Y w=>K Y w))))
theorem Q4I {a:Value} {w:World} {K:Value→World→Prop} (h:Th a w K):Q1 P F.cA [a] w K:=Q9 (List.replicate 15 none) Tryz.func78 rfl (by decide) (by kernel_rfl) h
def Tm (c:Value) (w:World) (K:Value→World→Prop):Prop:= box P T.b c w fun a w=>Q2 P T.b a w fun b w=>Q1 P F.cG [b] w fun d w=>X1 d (K (.int .i64 51) w) (Q2 P T.b a w fun g w=>Q1 P F.cA [g] w fun e w=>J8 P .not e w fun f w=>X1 f (K (.int .i64 50) w) (K (.int .i64 0) w))
theorem Q4N {a:Value} {w:World} {K:Value→World→Prop} (h:Tm a w K):Q1 P F.cy [a] w K:=Q9 (List.replicate 7 none) Tryz.func42 rfl (by decide) (by kernel_rfl) h
def Qp (a:Value) (w:World) (K:Value→World→Prop):Prop:= Q3 P .eql T.h (.tmp 3) (.const (.slice none 0 0)) a (.slice none 0 0) w fun b w=>X1 b (K (.slice none 0 0) w) (buildSlice P T.h 0 [] w fun c w=>X2 P .append [T.h,T.h] T.h [false,false] [c,a] w fun d w=>K d w)
theorem Nl {a:Value} {w:World} {K:Value→World→Prop} (h:Qp a w K):Q1 P F.a9 [a] w K:=Q9 (List.replicate 5 none) Tryz.func79 rfl (by decide) (by kernel_rfl) h
def P4 (a:Value) (w:World) (K:Value→World→Prop):Prop:= Q3 P .eql T.k (.tmp 3) (.const (.slice none 0 0)) a (.slice none 0 0) w fun b w=>X1 b (K (.slice none 0 0) w) (buildSlice P T.k 0 [] w fun c w=>X2 P .append [T.k,T.k] T.k [false,false] [c,a] w fun d w=>K d w)
theorem Up {a:Value} {w:World} {K:Value→World→Prop} (h:P4 a w K):Q1 P F.ae [a] w K:=Q9 (List.replicate 5 none) Tryz.func80 rfl (by decide) (by kernel_rfl) h
def P5 (a:Value) (w:World) (K:Value→World→Prop):Prop:= Q3 P .eql T.r (.tmp 3) (.const (.slice none 0 0)) a (.slice none 0 0) w fun b w=>X1 b (K (.slice none 0 0) w) (buildSlice P T.r 0 [] w fun c w=>X2 P .append [T.r,T.r] T.r [false,false] [c,a] w fun d w=>K d w)
theorem Un {a:Value} {w:World} {K:Value→World→Prop} (h:P5 a w K):Q1 P F.af [a] w K:=Q9 (List.replicate 5 none) Tryz.func136 rfl (by decide) (by kernel_rfl) h
def P3 (a:Value) (w:World) (K:Value→World→Prop):Prop:= Q3 P .eql T.t (.tmp 3) (.const (.slice none 0 0)) a (.slice none 0 0) w fun b w=>X1 b (K (.slice none 0 0) w) (buildSlice P T.t 0 [] w fun c w=>X2 P .append [T.t,T.t] T.t [false,false] [c,a] w fun d w=>K d w)
theorem Jr {a:Value} {w:World} {K:Value→World→Prop} (h:P3 a w K):Q1 P F.ag [a] w K:=Q9 (List.replicate 5 none) Tryz.func137 rfl (by decide) (by kernel_rfl) h
def Ti (E:Value) (w:World) (K:Value→World→Prop):Prop:= box P T.d E w fun a w=>W0 P T.d w fun C w=>dr w fun b c=>Q5 b (fun n=> ∀w,c w→fieldAddr P T.d a 1 w (dk b n w)) fun n=>Q5 b (fun l=> ∀w,c w→fieldAddr P T.d a 5 w (dk b l w)) fun l=>Q5 b (fun j=> ∀w,c w→fieldAddr P T.d a 6 w (dk b j w)) fun j=>Q5 b (fun m=> ∀s w,c w→n s w→Q2 P T.h s w (dk b m w)) fun m=>Q5 b (fun t=> ∀p w,c w→m p w→Q1 P F.a9 [p] w (dk b t w)) fun t=>Q5 b (fun k=> ∀o w,c w→l o w→Q2 P T.r o w (dk b k w)) fun k=>Q5 b (fun y=> ∀r w,c w→k r w→Q1 P F.af [r] w (dk b y w)) fun y=>Q5 b (fun d=> ∀q w,c w→j q w→Q2 P T.t q w (dk b d w)) fun d=>Q5 b (fun f=> ∀w,c w→fieldAddr P T.d a 1 w (dk b f w)) fun f=>Q5 b (fun g=> ∀e w,c w→d e w→Q1 P F.ag [e] w (dk b g w)) fun g=>∀s o q p A r B e i h w,c w→n s w→l o w→j q w→m p w→t A w→k r w→y B w→d e w→f i w→g h w→ Y1 P T.h i A w fun _u w=>fieldAddr P T.d a 5 w fun u w=>Y1 P T.r u B w fun _u w=>fieldAddr P T.d a 6 w fun z w=>Y1 P T.t z h w fun _u w=>Q2 P T.d a w fun v w=>Y1 P T.d C v w fun _u w=>Y7 P T.d C w fun D=>K D w
theorem Q4U {a:Value} {w:World} {K:Value→World→Prop} (h:Ti a w K):Q1 P F.c7 [a] w K:=Q9 (List.replicate 3 none) Tryz.func81 rfl (by decide) (by kernel_rfl) h
def Q4J:V5:=[none,none,none,none,none,some ([3,17],[3,5,17,18,19,20,21,22,23,24,25,26]),none,none,none,none,none,none]
def Tj (R:Value) (w:World) (K:Value→World→Prop):Prop:= box P T.b R w fun a w=>W0 P T.b w fun O w=>dr w fun b g=>Q5 b (fun p=> ∀w,g w→fieldAddr P T.b a 2 w (dk b p w)) fun p=>Q5 b (fun n=> ∀w,g w→fieldAddr P T.b a 6 w (dk b n w)) fun n=>Q5 b (fun o=> ∀q w,g w→p q w→Q2 P T.h q w (dk b o w)) fun o=>Q5 b (fun J=> ∀s w,g w→o s w→Q1 P F.a9 [s] w (dk b J w)) fun J=>Q5 b (fun e=> ∀r w,g w→n r w→Q2 P T.k r w (dk b e w)) fun e=>Q5 b (fun h=> ∀w,g w→fieldAddr P T.b a 2 w (dk b h w)) fun h=>Q5 b (fun i=> ∀f w,g w→e f w→Q1 P F.ae [f] w (dk b i w)) fun i=>∀q r s N f k j w,g w→p q w→n r w→o s w→J N w→e f w→h k w→i j w→ Y1 P T.h k N w fun _u w=>fieldAddr P T.b a 6 w fun v w=>Y1 P T.k v j w fun _u w=>fieldAddr P T.b a 7 w fun L w=>Q2 P T.j L w fun m w=>X2 P .len [T.j] T.e [false] [m] w fun H w=>lp (α:=Value×Value) ((.slice none 0 0),(.int .i64 0)) w fun d l U w=>Q3 P .lss T.e (.tmp 17) (.tmp 16) l.2 H w fun D w=>X1 D (indexAddr P T.j m l.2 w fun z w=>Q2 P T.d z w fun u w=>W0 P T.d w fun c w=>Y1 P T.d c u w fun _u w=>Q2 P T.d c w fun A w=>Q1 P F.c7 [A] w fun t w=>buildSlice P T.j 1 [(0,t)] w fun B w=>X2 P .append [T.j,T.j] T.j [false,false] [l.1,B] w fun y w=>Q3 P .add T.e (.tmp 17) (.const (.int .i64 1)) l.2 (.int .i64 1) w fun M w=>d (y,M) w) (fieldAddr P T.b a 7 w fun E w=>Y1 P T.j E l.1 w fun _u w=>Q2 P T.b a w fun C w=>Y1 P T.b O C w fun _u w=>Y7 P T.b O w fun Q=>K Q w)
theorem Q4W {a:Value} {w:World} {K:Value→World→Prop} (h:Tj a w K):Q1 P F.cz [a] w K:=Q9 Q4J Tryz.func43 rfl (by decide) (by kernel_rfl) h
def Uh (e f:Value) (w:World) (K:Value→World→Prop):Prop:= nilCheck P e w fun g w=>fieldAddr P T.a0 g 1 w fun c w=>Q2 P T.a2 c w fun b w=>lookup P T.a2 b f true w fun a w=>ext P a 0 w fun h w=>ext P a 1 w fun d w=>K d w
theorem He {a b:Value} {w:World} {K:Value→World→Prop} (h:Uh a b w K):Q1 P F.j [a,b] w K:=Q9 (List.replicate 3 none) Tryz.func44 rfl (by decide) (by kernel_rfl) h
def Ma (s v:Value) (w:World) (K:Value→World→Prop):Prop:= W0 P T.b w fun r w=>dr w fun a h=>Q5 a (fun l=> ∀w,h w→nilCheck P s w (dk a l w)) fun l=>Q5 a (fun k=> ∀m w,h w→l m w→fieldAddr P T.a0 m 0 w (dk a k w)) fun k=>Q5 a (fun f=> ∀w,h w→nilCheck P s w (dk a f w)) fun f=>Q5 a (fun d=> ∀g w,h w→f g w→fieldAddr P T.a0 g 1 w (dk a d w)) fun d=>Q5 a (fun q=> ∀n w,h w→k n w→Q2 P T.i n w (dk a q w)) fun q=>Q5 a (fun b=> ∀c w,h w→d c w→Q2 P T.a2 c w (dk a b w)) fun b=>Q5 a (fun i=> ∀e w,h w→b e w→lookup P T.a2 e v false w (dk a i w)) fun i=>∀m n g c t e j w,h w→l m w→k n w→f g w→d c w→q t w→b e w→i j w→ indexAddr P T.i t j w fun o w=>Q2 P T.b o w fun p w=>Y1 P T.b r p w fun _u w=>Y7 P T.b r w fun u=>K u w
theorem Kp {a b:Value} {w:World} {K:Value→World→Prop} (h:Ma a b w K):Q1 P F.h [a,b] w K:=Q9 (List.replicate 2 none) Tryz.func82 rfl (by decide) (by kernel_rfl) h
def Fw:V5:=[none,none,none,none,none,none,some ([29],[4,6,29,30,31,32,33,34,35,36,37,38,39,40,41,42,43,44]),none,none,none,none,none,none,none]
def Lf (g O:Value) (w:World) (K:Value→World→Prop):Prop:= box P T.b O w fun a w=>fieldAddr P T.b a 1 w fun R w=>Q2 P T.c R w fun Q w=>Q1 P F.j [g,Q] w fun t w=>J8 P .not t w fun b w=>Q0 b false w (fun w J=>J g w) fun l w=>Q0 b false w (fieldAddr P T.b a 1) fun H w=>Q0 b false w (Q2 P T.c H) fun y w=>Q0 b false w (Q1 P F.h [l,y]) fun A w=>Q0 b false w (F5 P T.b A 3) fun E w=>pick P b (.bool true) E w fun d w=>Q0 d false w (fun w J=>J g w) fun j w=>Q0 d false w (fieldAddr P T.b a 1) fun C w=>Q0 d false w (Q2 P T.c C) fun p w=>Q0 d false w (Q1 P F.h [j,p]) fun i w=>Q0 d false w (F5 P T.b i 5) fun q w=>pick P d (.bool true) q w fun n w=>X1 n (K (.int .i64 61) w) (fieldAddr P T.b a 2 w fun N w=>Q2 P T.h N w fun f w=>X2 P .len [T.h] T.e [false] [f] w fun s w=>lp (α:=Value) (.int .i64 0) w fun e L U w=>Q3 P .lss T.e (.tmp 29) (.tmp 28) L s w fun D w=>X1 D (indexAddr P T.h f L w fun M w=>Q2 P T.c M w fun h w=>Q1 P F.j [g,h] w fun B w=>J8 P .not B w fun c w=>Q0 c false w (fun w J=>J g w) fun m w=>Q0 c false w (fun w J=>J h w) fun k w=>Q0 c false w (Q1 P F.h [m,k]) fun u w=>Q0 c false w (F5 P T.b u 3) fun z w=>Q0 c false w (J8 P .not z) fun o w=>pick P c (.bool true) o w fun r w=>X1 r (K (.int .i64 62) w) (Q3 P .add T.e (.tmp 29) (.const (.int .i64 1)) L (.int .i64 1) w fun v w=>e v w)) (K (.int .i64 0) w))
theorem Gn {a b:Value} {w:World} {K:Value→World→Prop} (h:Lf a b w K):Q1 P F.bd [a,b] w K:=Q9 Fw Tryz.func45 rfl (by decide) (by kernel_rfl) h
def Yj:V5:=[none,none,none,some ([8],[4,5,8,9,10,11,12,13,14,15,16,17,18]),none,none,none,none,none,none,none]
def G3 (g h:Value) (w:World) (K:Value→World→Prop):Prop:= X2 P .len [T.i] T.e [false] [g] w fun j w=>lp (α:=Value) (.int .i64 0) w fun a b k w=>Q3 P .lss T.e (.tmp 8) (.tmp 7) b j w fun i w=>X1 i (indexAddr P T.i g b w fun e w=>Q2 P T.b e w fun f w=>Z3 P h [f] w fun c w=>X1 c (K b w) (Q3 P .add T.e (.tmp 8) (.const (.int .i64 1)) b (.int .i64 1) w fun d w=>a d w)) (K (.int .i64 (-1)) w)
theorem Yn {a b:Value} {w:World} {K:Value→World→Prop} (h:G3 a b w K):Q1 P F.o [a,b] w K:=Q9 Yj Tryz.func46 rfl (by decide) (by kernel_rfl) h
def Tb:V5:=[none,none,none,some ([7],[6,7,9,10,11,12,16,17,18,19,20,21,22,23,24,25,26,27,28,29,30,31,32,33,34,35,36,37,38,39,40,41,42,43,44,45,46,47,48,49,50,51,52]),none,none,none,none,none,none,none,none,none,none,none,none,none]
def Ng (R W U:Value) (w:World) (K:Value→World→Prop):Prop:= buildSlice P T.h 1 [(0,W)] w fun Q w=>Ko P T.a2 none w fun t w=>lp (α:=Value) Q w fun b v X w=>X2 P .len [T.h] T.e [false] [v] w fun N w=>Q3 P .gtr T.e (.tmp 17) (.const (.int .i64 0)) N (.int .i64 0) w fun B w=>X1 B (indexAddr P T.h v (.int .i64 0) w fun y w=>Q2 P T.c y w fun l w=>S1 P T.h v (some (.int .i64 1)) none none w fun q w=>lookup P T.a2 t l true w fun s w=>ext P s 0 w fun V w=>ext P s 1 w fun d w=>Q0 d false w (fun w J=>J R w) fun M w=>Q0 d false w (fun w J=>J l w) fun E w=>Q0 d false w (Q1 P F.j [M,E]) fun O w=>Q0 d false w (J8 P .not O) fun H w=>pick P d (.bool true) H w fun z w=>X1 z (b q w) (mapUpdate P T.a2 t l (.int .i64 1) w fun _u w=>Q1 P F.h [R,l] w fun D w=>W0 P T.b w fun a w=>Y1 P T.b a D w fun _u w=>Q2 P T.b a w fun A w=>Z3 P U [A] w fun C w=>X1 C (K (.bool true) w) (dr w fun c n=>Q5 c (fun k=> ∀w,n w→fieldAddr P T.b a 1 w (dk c k w)) fun k=>Q5 c (fun h=> ∀w,n w→fieldAddr P T.b a 2 w (dk c h w)) fun h=>Q5 c (fun m=> ∀j w,n w→k j w→Q2 P T.c j w (dk c m w)) fun m=>Q5 c (fun i=> ∀e w,n w→m e w→buildSlice P T.h 1 [(0,e)] w (dk c i w)) fun i=>Q5 c (fun p=> ∀f w,n w→i f w→X2 P .append [T.h,T.h] T.h [false,false] [q,f] w (dk c p w)) fun p=>Q5 c (fun o=> ∀g w,n w→h g w→Q2 P T.h g w (dk c o w)) fun o=>∀j g e f u r w,n w→k j w→h g w→m e w→i f w→p u w→o r w→ X2 P .append [T.h,T.h] T.h [false,false] [u,r] w fun L w=>b L w))) (K (.bool false) w)
theorem Ig {b c a:Value} {w:World} {K:Value→World→Prop} (h:Ng b c a w K):Q1 P F.x [b,c,a] w K:=Q9 Tb Tryz.func84 rfl (by decide) (by kernel_rfl) h
def Jp (c d:Value) (w:World) (K:Value→World→Prop):Prop:= box P T.b c w fun a w=>fieldAddr P T.b a 0 w fun b w=>Q2 P T.c b w fun e w=>fieldAddr P T.b d 0 w fun g w=>Q2 P T.c g w fun h w=>Q3 P .eql T.c (.tmp 5) (.tmp 7) e h w fun f w=>K f w
theorem Cc {a b:Value} {w:World} {K:Value→World→Prop} (h:Jp a b w K):Q1 P F.c8 [a,b] w K:=Q9 (List.replicate 2 none) Tryz.func85 rfl (by decide) (by kernel_rfl) h
def Wa (b d a:Value) (w:World) (K:Value→World→Prop):Prop:= Q2 P T.s d w fun c w=>H3 P (.func F.c8) [] [a] w fun f w=>Q1 P F.x [c,b,f] w fun e w=>K e w
theorem Fe {b c a:Value} {w:World} {K:Value→World→Prop} (h:Wa b c a w K):Q1 P F.ba [b,c,a] w K:=Q9 (List.replicate 2 none) Tryz.func83 rfl (by decide) (by kernel_rfl) h
def Nk (j k:Value) (w:World) (K:Value→World→Prop):Prop:= box P T.s j w fun c w=>box P T.b k w fun a w=>H3 P (.func F.ba) [] [c,a] w fun i w=>fieldAddr P T.b a 1 w fun l w=>Q2 P T.c l w fun m w=>Z3 P i [m] w fun b w=>Q0 b false w (fieldAddr P T.b a 2) fun h w=>Q0 b false w (Q2 P T.h h) fun f w=>Q0 b false w (fun w J=>J i w) fun e w=>Q0 b false w (Q1 P F.c [f,e]) fun g w=>pick P b (.bool true) g w fun d w=>K d w
theorem Ta {a b:Value} {w:World} {K:Value→World→Prop} (h:Nk a b w K):Q1 P F.bl [a,b] w K:=Q9 (List.replicate 3 none) Tryz.func47 rfl (by decide) (by kernel_rfl) h
def Rr:V5:=[none,none,none,some ([8],[4,5,8,9,10,11,12,13,14,15,16,17,18]),none,none,none,none,none,none,none]
def Ub (g h:Value) (w:World) (K:Value→World→Prop):Prop:= X2 P .len [T.a7] T.e [false] [g] w fun j w=>lp (α:=Value) (.int .i64 0) w fun a b k w=>Q3 P .lss T.e (.tmp 8) (.tmp 7) b j w fun i w=>X1 i (indexAddr P T.a7 g b w fun e w=>Q2 P T.e e w fun f w=>Q3 P .eql T.e (.tmp 11) (.tmp 15) h f w fun c w=>X1 c (K b w) (Q3 P .add T.e (.tmp 8) (.const (.int .i64 1)) b (.int .i64 1) w fun d w=>a d w)) (K (.int .i64 (-1)) w)
theorem Sm {a b:Value} {w:World} {K:Value→World→Prop} (h:Ub a b w K):Q1 P F.c9 [a,b] w K:=Q9 Rr Tryz.func139 rfl (by decide) (by kernel_rfl) h
def Yi (a b:Value) (w:World) (K:Value→World→Prop):Prop:= Q1 P F.c9 [a,b] w fun d w=>Q3 P .geq T.e (.tmp 7) (.const (.int .i64 0)) d (.int .i64 0) w fun c w=>K c w
theorem Eu {a b:Value} {w:World} {K:Value→World→Prop} (h:Yi a b w K):Q1 P F.aI [a,b] w K:=Q9 (List.replicate 2 none) Tryz.func88 rfl (by decide) (by kernel_rfl) h
def Fi:V5:=[none,none,none,none,some ([35],[7,35,36,37,38,39,40,41,42,43,44,45,46,47]),none,none,none,none]
def Qz (a0 a1 a2 a3 a4:Value) (w:World) (K:Value→World→Prop):Prop:= Q2 P T.e a1 w fun t9 w=>Q3 P .lss T.e (.tmp 8) (.tmp 9) a0 t9 w fun z w=>Q0 z false w (Q2 P T.a7 a2) fun ap w=>Q0 z false w (fun w J=>J a0 w) fun ah w=>Q0 z false w (Q1 P F.aI [ap,ah]) fun ax w=>pick P z (.bool true) ax w fun av w=>X1 av (K (.tuple #[]) w) (dr w fun a b=>Q5 a (fun v=> ∀w,b w→Q2 P T.s a3 w (dk a v w)) fun v=>Q5 a (fun B=> ∀M w,b w→v M w→nilCheck P M w (dk a B w)) fun B=>Q5 a (fun e=> ∀Q w,b w→B Q w→fieldAddr P T.a0 Q 0 w (dk a e w)) fun e=>Q5 a (fun c=> ∀q w,b w→e q w→Q2 P T.i q w (dk a c w)) fun c=>Q5 a (fun L=> ∀k w,b w→c k w→indexAddr P T.i k a0 w (dk a L w)) fun L=>Q5 a (fun m=> ∀N w,b w→L N w→fieldAddr P T.b N 1 w (dk a m w)) fun m=>Q5 a (fun D=> ∀l w,b w→m l w→Q2 P T.c l w (dk a D w)) fun D=>Q5 a (fun W=> ∀d w,b w→D d w→buildSlice P T.h 1 [(0,d)] w (dk a W w)) fun W=>Q5 a (fun n=> ∀w,b w→Q2 P T.s a3 w (dk a n w)) fun n=>Q5 a (fun p=> ∀h w,b w→n h w→nilCheck P h w (dk a p w)) fun p=>Q5 a (fun f=> ∀V w,b w→p V w→fieldAddr P T.a0 V 0 w (dk a f w)) fun f=>Q5 a (fun o=> ∀y w,b w→f y w→Q2 P T.i y w (dk a o w)) fun o=>Q5 a (fun s=> ∀r w,b w→o r w→indexAddr P T.i r a0 w (dk a s w)) fun s=>Q5 a (fun E=> ∀O w,b w→s O w→fieldAddr P T.b O 2 w (dk a E w)) fun E=>Q5 a (fun X=> ∀U w,b w→E U w→Q2 P T.h U w (dk a X w)) fun X=>∀M Q q k N l d ab h V y r O U af w,b w→v M w→B Q w→e q w→c k w→L N w→m l w→D d w→W ab w→n h w→p V w→f y w→o r w→s O w→E U w→X af w→ X2 P .append [T.h,T.h] T.h [false,false] [ab,af] w fun ae w=>X2 P .len [T.h] T.e [false] [ae] w fun aw w=>lp (α:=Value) (.int .i64 0) w fun j x4 d_ w=>Q3 P .lss T.e (.tmp 35) (.tmp 34) x4 aw w fun an w=>X1 an (indexAddr P T.h ae x4 w fun ao w=>Q2 P T.c ao w fun aj w=>dr w fun a b=>Q5 a (fun Z=> ∀w,b w→Q2 P T.ak a4 w (dk a Z w)) fun Z=>Q5 a (fun t=> ∀w,b w→Q2 P T.s a3 w (dk a t w)) fun t=>Q5 a (fun R=> ∀C w,b w→t C w→nilCheck P C w (dk a R w)) fun R=>Q5 a (fun u=> ∀H w,b w→R H w→fieldAddr P T.a0 H 1 w (dk a u w)) fun u=>Q5 a (fun g=> ∀i w,b w→u i w→Q2 P T.a2 i w (dk a g w)) fun g=>Q5 a (fun Y=> ∀A w,b w→g A w→lookup P T.a2 A aj false w (dk a Y w)) fun Y=>∀aa C H i A ac w,b w→Z aa w→t C w→R H w→u i w→g A w→Y ac w→ Z3 P aa [ac] w fun az w=>Q3 P .add T.e (.tmp 35) (.const (.int .i64 1)) x4 (.int .i64 1) w fun ag w=>j ag w) (Q2 P T.a7 a2 w fun ai w=>buildSlice P T.a7 1 [(0,a0)] w fun ak w=>X2 P .append [T.a7,T.a7] T.a7 [false,false] [ai,ak] w fun ar w=>Y1 P T.a7 a2 ar w fun _u w=>K (.tuple #[]) w))
theorem Vm {d e b c a:Value} {w:World} {K:Value→World→Prop} (h:Qz d e b c a w K):Q1 P F.a0 [d,e,b,c,a] w K:=Q9 Fi Tryz.func87 rfl (by decide) (by kernel_rfl) h
def Pi:V5:=[none,none,none,none,none,none,some ([7],[7,10,11,12,13,14,15,16,17,18,19,20,21]),none,none,none,none]
def Nx (p q:Value) (w:World) (K:Value→World→Prop):Prop:= box P T.s p w fun d w=>box P T.e q w fun b w=>W0 P T.a7 w fun c w=>W0 P T.ak w fun a w=>H3 P (.func F.a0) [] [b,c,d,a] w fun t w=>Y1 P T.ak a t w fun _u w=>Q2 P T.e b w fun r w=>lp (α:=Value) r w fun e o u w=>Q2 P T.s d w fun g w=>nilCheck P g w fun k w=>fieldAddr P T.a0 k 0 w fun f w=>Q2 P T.i f w fun n w=>X2 P .len [T.i] T.e [false] [n] w fun l w=>Q3 P .lss T.e (.tmp 10) (.tmp 15) o l w fun m w=>X1 m (Q2 P T.ak a w fun h w=>Z3 P h [o] w fun s w=>Q3 P .add T.e (.tmp 17) (.const (.int .i64 1)) o (.int .i64 1) w fun j w=>e j w) (Q2 P T.a7 c w fun i w=>K i w)
theorem Ix {a b:Value} {w:World} {K:Value→World→Prop} (h:Nx a b w K):Q1 P F.bm [a,b] w K:=Q9 Pi Tryz.func48 rfl (by decide) (by kernel_rfl) h
def Zw:V5:=[none,some ([2,3],[2,3,7,8,9,10,11,12,13,14,15,16,17,18,19,20,21,22,23,24,25,26,27]),none,none,none]
def I5 (l:Value) (w:World) (K:Value→World→Prop):Prop:= X2 P .len [T.i] T.e [false] [l] w fun r w=>Q3 P .sub T.e (.tmp 5) (.const (.int .i64 1)) r (.int .i64 1) w fun s w=>lp (α:=Value×Value) ((.int .i64 0),s) w fun d g u w=>Q3 P .lss T.e (.tmp 7) (.tmp 8) g.1 g.2 w fun t w=>X1 t (dr w fun f k=>Q5 f (fun e=> ∀w,k w→indexAddr P T.i l g.2 w (dk f e w)) fun e=>Q5 f (fun b=> ∀w,k w→indexAddr P T.i l g.1 w (dk f b w)) fun b=>Q5 f (fun i=> ∀a w,k w→e a w→Q2 P T.b a w (dk f i w)) fun i=>Q5 f (fun h=> ∀c w,k w→b c w→Q2 P T.b c w (dk f h w)) fun h=>∀a c m j w,k w→e a w→b c w→i m w→h j w→ indexAddr P T.i l g.1 w fun q w=>Y1 P T.b q m w fun _u w=>indexAddr P T.i l g.2 w fun p w=>Y1 P T.b p j w fun _u w=>Q3 P .add T.e (.tmp 10) (.const (.int .i64 1)) g.1 (.int .i64 1) w fun o w=>Q3 P .sub T.e (.tmp 12) (.const (.int .i64 1)) g.2 (.int .i64 1) w fun n w=>d (o,n) w) (K (.tuple #[]) w)
theorem Zu {a:Value} {w:World} {K:Value→World→Prop} (h:I5 a w K):Q1 P F.r [a] w K:=Q9 Zw Tryz.func117 rfl (by decide) (by kernel_rfl) h
def To:V5:=[none,none,none,none,some ([5,6],[5,6,8,9,10,11,12,13,14,15,16,17,18,19,20]),none,none,none,none,none]
def Ou (c j:Value) (w:World) (K:Value→World→Prop):Prop:= lp (α:=Value×Value) ((.slice none 0 0),j) w fun a b l w=>Q1 P F.j [c,b.2] w fun e w=>X1 e (Q1 P F.h [c,b.2] w fun i w=>buildSlice P T.i 1 [(0,i)] w fun f w=>X2 P .append [T.i,T.i] T.i [false,false] [b.1,f] w fun d w=>Q1 P F.h [c,b.2] w fun h w=>F5 P T.b h 1 w fun g w=>a (d,g) w) (Q1 P F.r [b.1] w fun k w=>K b.1 w)
theorem Af {a b:Value} {w:World} {K:Value→World→Prop} (h:Ou a b w K):Q1 P F.aV [a,b] w K:=Q9 To Tryz.func70 rfl (by decide) (by kernel_rfl) h
def Gp:V5:=[none,none,none,none,some ([5,12],[5,7,12,13,14,15,16,17,18,19,20]),none,none,none,none,none]
def Lw (m n:Value) (w:World) (K:Value→World→Prop):Prop:= Q1 P F.aV [m,n] w fun c w=>X2 P .len [T.i] T.e [false] [c] w fun e w=>lp (α:=Value×Value) ((.slice none 0 0),(.int .i64 0)) w fun b d o w=>Q3 P .lss T.e (.tmp 12) (.tmp 11) d.2 e w fun k w=>X1 k (indexAddr P T.i c d.2 w fun j w=>Q2 P T.b j w fun f w=>W0 P T.b w fun a w=>Y1 P T.b a f w fun _u w=>fieldAddr P T.b a 6 w fun h w=>Q2 P T.k h w fun l w=>X2 P .append [T.k,T.k] T.k [false,false] [d.1,l] w fun i w=>Q3 P .add T.e (.tmp 12) (.const (.int .i64 1)) d.2 (.int .i64 1) w fun g w=>b (i,g) w) (K d.1 w)
theorem Fx {a b:Value} {w:World} {K:Value→World→Prop} (h:Lw a b w K):Q1 P F.a4 [a,b] w K:=Q9 Gp Tryz.func36 rfl (by decide) (by kernel_rfl) h
def Vq (c d:Value) (w:World) (K:Value→World→Prop):Prop:= box P T.o c w fun a w=>fieldAddr P T.o a 0 w fun b w=>Q2 P T.c b w fun e w=>Q2 P T.c d w fun f w=>Q3 P .eql T.c (.tmp 5) (.tmp 6) e f w fun g w=>K g w
theorem Bx {a b:Value} {w:World} {K:Value→World→Prop} (h:Vq a b w K):Q1 P F.ch [a,b] w K:=Q9 (List.replicate 2 none) Tryz.func141 rfl (by decide) (by kernel_rfl) h
def Mt (e f d:Value) (w:World) (K:Value→World→Prop):Prop:= box P T.c d w fun a w=>Q1 P F.a4 [e,f] w fun g w=>H3 P (.func F.ch) [] [a] w fun c w=>Q1 P F.i [g,c] w fun b w=>K b w
theorem Is {b c a:Value} {w:World} {K:Value→World→Prop} (h:Mt b c a w K):Q1 P F.bo [b,c,a] w K:=Q9 (List.replicate 2 none) Tryz.func89 rfl (by decide) (by kernel_rfl) h
def Xa (a b:Value) (w:World) (K:Value→World→Prop):Prop:= nilCheck P a w fun e w=>indexAddr P T.ab e b w fun c w=>Q2 P T.v c w fun d w=>K d w
theorem Oc {a b:Value} {w:World} {K:Value→World→Prop} (h:Xa a b w K):Q1 P F.az [a,b] w K:=Q9 (List.replicate 2 none) Tryz.func187 rfl (by decide) (by kernel_rfl) h
def St:V5:=[none,some ([0],[0,5,6,7,8,9,10,11,12,13,14,15,16,17,18,19,20]),some ([0],[0,5,6,7,8,9,10,11,12,13,14,15,16,17,18,19,20]),none,none,none,none,none]
def Uo (m n:Value) (w:World) (K:Value→World→Prop):Prop:= jn (α:=Value) w (fun k w=>lp (α:=Value) m w fun a b q w=>X2 P .len [T.c] T.e [false] [b] w fun l w=>Q3 P .gtr T.e (.tmp 6) (.const (.int .i64 0)) l (.int .i64 0) w fun p w=>X1 p (X2 P .len [T.c] T.e [false] [b] w fun e w=>Q3 P .sub T.e (.tmp 11) (.const (.int .i64 1)) e (.int .i64 1) w fun h w=>C4 P T.c b h w fun d w=>Q1 P F.az [n,d] w fun j w=>J8 P .not j w fun i w=>X1 i (k b w) (X2 P .len [T.c] T.e [false] [b] w fun g w=>Q3 P .sub T.e (.tmp 18) (.const (.int .i64 1)) g (.int .i64 1) w fun f w=>S1 P T.c b none (some f) none w fun c w=>a c w)) (k b w)) fun o q w=>K o w
theorem Rx {a b:Value} {w:World} {K:Value→World→Prop} (h:Uo a b w K):Q1 P F.aq [a,b] w K:=Q9 St Tryz.func158 rfl (by decide) (by kernel_rfl) h
end Go.Proofs.YtjdiakhipmggjaaGreatDoor

set_option maxRecDepth 100000
namespace Go.Proofs.YtjdiakhipmggjaaGreatDoor
open Go.Emb
def Oi (e c:Value) (w:World) (K:Value→World→Prop):Prop:= Q3 P .eql T.c (.tmp 7) (.const (.string ⟨#[]⟩)) e (.string ⟨#[]⟩) w fun t w=>Q0 t false w (fun w J=>J c w) fun o w=>Q0 t false w (Q3 P .eql T.c (.tmp 10) (.const (.string ⟨#[]⟩)) o (.string ⟨#[]⟩)) fun g w=>pick P t (.bool true) g w fun n w=>X1 n (K e w) (X2 P .len [T.c] T.e [false] [c] w fun p w=>Q3 P .eql T.e (.tmp 15) (.const (.int .i64 1)) p (.int .i64 1) w fun b w=>Q0 b true w (fun w J=>J c w) fun m w=>Q0 b true w (C4 P T.c m (.int .i64 0)) fun i w=>Q0 b true w (Q3 P .lss T.a3 (.tmp 19) (.const (.int .u8 128)) i (.int .u8 128)) fun f w=>pick P b f (.bool false) w fun r w=>X1 r (C4 P T.c c (.int .i64 0) w fun j w=>Q1 P F.cT [e,j] w fun h w=>K h w) (Q1 P F.ci [c] w fun d w=>ext P d 0 w fun l w=>ext P d 1 w fun s w=>W0 P T.ab w fun a w=>Y1 P T.ab a l w fun _u w=>X1 s (Q1 P F.aq [e,a] w fun q w=>K q w) (Q1 P F.cQ [e,c] w fun k w=>K k w)))
theorem Ar {a b:Value} {w:World} {K:Value→World→Prop} (h:Oi a b w K):Q1 P F.bJ [a,b] w K:=Q9 (List.replicate 12 none) Tryz.func116 rfl (by decide) (by kernel_rfl) h
def Dj (l d:Value) (w:World) (K:Value→World→Prop):Prop:= Q3 P .eql T.c (.tmp 6) (.const (.string ⟨#[110,117,108,108]⟩)) d (.string ⟨#[110,117,108,108]⟩) w fun m w=>X1 m (K (.bool true) w) (Q1 P F.bJ [d,(.string ⟨#[91,93]⟩)] w fun k w=>Q1 P F.a1 [d] w fun a w=>Q0 a true w (fun w J=>J k w) fun i w=>Q0 a true w (Q1 P F.aP [i]) fun h w=>Q0 a true w (fun w J=>J h w) fun b w=>Q0 b false w (fun w J=>J l w) fun c w=>Q0 b false w (fun w J=>J k w) fun f w=>Q0 b false w (Q1 P F.j [c,f]) fun j w=>Q0 a true w (pick P b (.bool true) j) fun g w=>pick P a g (.bool false) w fun e w=>K e w)
theorem Ag {a b:Value} {w:World} {K:Value→World→Prop} (h:Dj a b w K):Q1 P F.t [a,b] w K:=Q9 (List.replicate 6 none) Tryz.func69 rfl (by decide) (by kernel_rfl) h
def Ua (c d:Value) (w:World) (K:Value→World→Prop):Prop:= Q3 P .neq T.c (.tmp 4) (.const (.string ⟨#[110,117,108,108]⟩)) c (.string ⟨#[110,117,108,108]⟩) w fun a w=>Q0 a true w (Q2 P T.s d) fun g w=>Q0 a true w (fun w J=>J c w) fun e w=>Q0 a true w (Q1 P F.t [g,e]) fun f w=>pick P a f (.bool false) w fun b w=>K b w
theorem Rp {a b:Value} {w:World} {K:Value→World→Prop} (h:Ua a b w K):Q1 P F.an [a,b] w K:=Q9 (List.replicate 2 none) Tryz.func90 rfl (by decide) (by kernel_rfl) h
def Ue (b c:Value) (w:World) (K:Value→World→Prop):Prop:= Q2 P T.a4 c w fun a w=>Z3 P a [b] w fun d w=>J8 P .not d w fun e w=>K e w
theorem Sd {a b:Value} {w:World} {K:Value→World→Prop} (h:Ue a b w K):Q1 P F.ao [a,b] w K:=Q9 (List.replicate 2 none) Tryz.func91 rfl (by decide) (by kernel_rfl) h
def Q17 (s:Value) (w:World) (K:Value→World→Prop):Prop:= box P T.d s w fun b w=>dr w fun a c=>Q5 a (fun h=> ∀w,c w→fieldAddr P T.d b 1 w (dk a h w)) fun h=>Q5 a (fun k=> ∀w,c w→fieldAddr P T.d b 2 w (dk a k w)) fun k=>Q5 a (fun e=> ∀m w,c w→h m w→Q2 P T.h m w (dk a e w)) fun e=>Q5 a (fun f=> ∀j w,c w→e j w→Q1 P F.cP [j,(.string ⟨#[44]⟩)] w (dk a f w)) fun f=>Q5 a (fun d=> ∀g w,c w→f g w→Q3 P .add T.c (.const (.string ⟨#[40]⟩)) (.tmp 5) (.string ⟨#[40]⟩) g w (dk a d w)) fun d=>Q5 a (fun o=> ∀i w,c w→d i w→Q3 P .add T.c (.tmp 6) (.const (.string ⟨#[41]⟩)) i (.string ⟨#[41]⟩) w (dk a o w)) fun o=>Q5 a (fun n=> ∀l w,c w→k l w→Q2 P T.c l w (dk a n w)) fun n=>∀m l j g i r q w,c w→h m w→k l w→e j w→f g w→d i w→o r w→n q w→ Q3 P .add T.c (.tmp 7) (.tmp 9) r q w fun p w=>K p w
theorem Q5J {a:Value} {w:World} {K:Value→World→Prop} (h:Q17 a w K):Q1 P F.cg [a] w K:=Q9 (List.replicate 2 none) Tryz.func95 rfl (by decide) (by kernel_rfl) h
def Zi (a0 X Y Z:Value) (w:World) (K:Value→World→Prop):Prop:= box P T.d a0 w fun b w=>Q2 P T.y X w fun t9 w=>fieldAddr P T.d b 0 w fun Q w=>Q2 P T.c Q w fun M w=>lookup P T.y t9 M true w fun H w=>ext P H 0 w fun L w=>ext P H 1 w fun f w=>dr w fun a d=>Q5 a (fun p=> ∀w,d w→fieldAddr P T.d b 0 w (dk a p w)) fun p=>Q5 a (fun h=> ∀w,d w→fieldAddr P T.d b 0 w (dk a h w)) fun h=>Q5 a (fun r=> ∀w,d w→fieldAddr P T.b Y 0 w (dk a r w)) fun r=>Q5 a (fun e=> ∀w,d w→Q2 P T.y X w (dk a e w)) fun e=>Q5 a (fun q=> ∀t w,d w→p t w→Q2 P T.c t w (dk a q w)) fun q=>Q5 a (fun z=> ∀w,d w→Q2 P T.y Z w (dk a z w)) fun z=>Q5 a (fun B=> ∀k w,d w→h k w→Q2 P T.c k w (dk a B w)) fun B=>Q5 a (fun s=> ∀w,d w→Q2 P T.d b w (dk a s w)) fun s=>Q5 a (fun m=> ∀u w,d w→s u w→Q1 P F.cg [u] w (dk a m w)) fun m=>Q5 a (fun A=> ∀i w,d w→r i w→Q2 P T.c i w (dk a A w)) fun A=>Q5 a (fun n=> ∀c v w,d w→e c w→q v w→mapEntry P T.y c v w (dk a n w)) fun n=>Q5 a (fun o=> ∀j w,d w→n j w→ext P j 1 w (dk a o w)) fun o=>Q5 a (fun g=> ∀c y l w,d w→e c w→o y w→m l w→entryStore P T.y c y l w (dk a g w)) fun g=>∀t k i c v E C u l D j y N w,d w→p t w→h k w→r i w→e c w→q v w→z E w→B C w→s u w→m l w→A D w→n j w→o y w→g N w→ mapUpdate P T.y E C D w fun _u w=>Q0 f true w (fun w J=>J L w) fun O w=>Q0 f true w (Q2 P T.d b) fun U w=>Q0 f true w (Q1 P F.cg [U]) fun W w=>Q0 f true w (Q3 P .neq T.c (.tmp 29) (.tmp 31) O W) fun V w=>pick P f V (.bool false) w fun R w=>K R w
theorem Hk {c d a b:Value} {w:World} {K:Value→World→Prop} (h:Zi c d a b w K):Q1 P F.aM [c,d,a,b] w K:=Q9 (List.replicate 4 none) Tryz.func94 rfl (by decide) (by kernel_rfl) h
def Ud (c e b:Value) (w:World) (K:Value→World→Prop):Prop:= box P T.b c w fun a w=>fieldAddr P T.b a 7 w fun d w=>Q2 P T.j d w fun g w=>H3 P (.func F.aM) [] [e,a,b] w fun h w=>Q1 P F.a [g,h] w fun f w=>K f w
theorem Se {b c a:Value} {w:World} {K:Value→World→Prop} (h:Ud b c a w K):Q1 P F.b1 [b,c,a] w K:=Q9 (List.replicate 2 none) Tryz.func92 rfl (by decide) (by kernel_rfl) h
def Q0S (c d:Value) (w:World) (K:Value→World→Prop):Prop:= box P T.d c w fun a w=>fieldAddr P T.d a 0 w fun b w=>Q2 P T.c b w fun e w=>Q2 P T.c d w fun f w=>Q3 P .eql T.c (.tmp 5) (.tmp 6) e f w fun g w=>K g w
theorem Q5W {a b:Value} {w:World} {K:Value→World→Prop} (h:Q0S a b w K):Q1 P F.cU [a,b] w K:=Q9 (List.replicate 2 none) Tryz.func179 rfl (by decide) (by kernel_rfl) h
def Q3d (m n:Value) (w:World) (K:Value→World→Prop):Prop:= box P T.b m w fun b w=>box P T.c n w fun a w=>W0 P T.d w fun d w=>fieldAddr P T.b b 7 w fun q w=>Q2 P T.j q w fun p w=>H3 P (.func F.cU) [] [a] w fun o w=>Q1 P F.g [p,o] w fun c w=>Q3 P .lss T.e (.tmp 11) (.const (.int .i64 0)) c (.int .i64 0) w fun i w=>X1 i (H1 P T.d [] w fun f w=>Y1 P T.d d f w fun _u w=>Y7 P T.d d w fun e=>K (.tuple #[e,(.bool false)]) w) (fieldAddr P T.b b 7 w fun l w=>Q2 P T.j l w fun j w=>indexAddr P T.j j c w fun k w=>Q2 P T.d k w fun h w=>Q1 P F.c7 [h] w fun g w=>Y1 P T.d d g w fun _u w=>Y7 P T.d d w fun e=>K (.tuple #[e,(.bool true)]) w)
theorem Q7X {a b:Value} {w:World} {K:Value→World→Prop} (h:Q3d a b w K):Q1 P F.cC [a,b] w K:=Q9 (List.replicate 6 none) Tryz.func144 rfl (by decide) (by kernel_rfl) h
def Al:V5:=[none,none,none,some ([19],[6,8,10,11,12,13,14,15,19,20,21,22,23,24,25,26,27,28,29,30,31,32,33,34,35,36,37,38,39,40,41,42,43,44,45,46,47]),none,none,none,none,none,none,none,none,none,none,none,none]
def Oj (B M L:Value) (w:World) (K:Value→World→Prop):Prop:= box P T.b M w fun f w=>W0 P T.d w fun i w=>fieldAddr P T.b f 2 w fun D w=>Q2 P T.h D w fun p w=>X2 P .len [T.h] T.e [false] [p] w fun A w=>lp (α:=Value) (.int .i64 0) w fun c q N w=>Q3 P .lss T.e (.tmp 19) (.tmp 18) q A w fun s w=>X1 s (indexAddr P T.h p q w fun E w=>Q2 P T.c E w fun d w=>Q1 P F.h [B,d] w fun J w=>Q1 P F.cC [J,L] w fun n w=>ext P n 0 w fun y w=>ext P n 1 w fun H w=>W0 P T.d w fun a w=>Y1 P T.d a y w fun _u w=>X1 H (dr w fun k m=>Q5 k (fun g=> ∀w,m w→Q2 P T.d a w (dk k g w)) fun g=>∀o w,m w→g o w→ Y1 P T.d i o w fun _u w=>Y7 P T.d i w fun j=>K (.tuple #[d,j,(.bool true)]) w) (Q1 P F.h [B,d] w fun u w=>Q1 P F.aX [B,u,L] w fun h w=>ext P h 0 w fun C w=>ext P h 1 w fun v w=>ext P h 2 w fun z w=>W0 P T.d w fun b w=>Y1 P T.d b v w fun _u w=>X1 z (dr w fun k m=>Q5 k (fun e=> ∀w,m w→Q2 P T.d b w (dk k e w)) fun e=>∀l w,m w→e l w→ Y1 P T.d i l w fun _u w=>Y7 P T.d i w fun j=>K (.tuple #[C,j,(.bool true)]) w) (Q3 P .add T.e (.tmp 19) (.const (.int .i64 1)) q (.int .i64 1) w fun r w=>c r w))) (H1 P T.d [] w fun t w=>Y1 P T.d i t w fun _u w=>Y7 P T.d i w fun j=>K (.tuple #[(.string ⟨#[]⟩),j,(.bool false)]) w)
theorem Ao {b c a:Value} {w:World} {K:Value→World→Prop} (h:Oj b c a w K):Q1 P F.aX [b,c,a] w K:=Q9 Al Tryz.func145 rfl (by decide) (by kernel_rfl) h
def Gm:V5:=[none,none,none,none,none,some ([26],[6,8,11,12,13,26,27,28,29,30,31,32,33,34,35,36,37,38,39,40]),none,none,none,none,none,none,none,none,none,some ([43],[6,8,15,16,17,18,43,44,45,46,47,48,49,50,51,52,53,54,55,56,57,58]),none,none,none,none,none,none,none,none]
def Lk (Z a1 Y:Value) (w:World) (K:Value→World→Prop):Prop:= W0 P T.d w fun q w=>Q1 P F.aV [Z,a1] w fun f w=>Q1 P F.r [f] w fun aa w=>X2 P .len [T.i] T.e [false] [f] w fun z w=>lp (α:=Value) (.int .i64 0) w fun i M d_ w=>Q3 P .lss T.e (.tmp 26) (.tmp 25) M z w fun J w=>X1 J (indexAddr P T.i f M w fun E w=>Q2 P T.b E w fun D w=>W0 P T.b w fun a w=>Y1 P T.b a D w fun _u w=>Q2 P T.b a w fun V w=>Q1 P F.cC [V,Y] w fun u w=>ext P u 0 w fun U w=>ext P u 1 w fun Q w=>W0 P T.d w fun c w=>Y1 P T.d c U w fun _u w=>X1 Q (dr w fun g n=>Q5 g (fun j=> ∀w,n w→fieldAddr P T.b a 0 w (dk g j w)) fun j=>Q5 g (fun m=> ∀h w,n w→j h w→Q2 P T.c h w (dk g m w)) fun m=>Q5 g (fun p=> ∀w,n w→Q2 P T.d c w (dk g p w)) fun p=>∀h t s w,n w→j h w→m t w→p s w→ Y1 P T.d q s w fun _u w=>Y7 P T.d q w fun r=>K (.tuple #[t,r,(.bool true)]) w) (Q3 P .add T.e (.tmp 26) (.const (.int .i64 1)) M (.int .i64 1) w fun L w=>i L w)) (X2 P .len [T.i] T.e [false] [f] w fun A w=>lp (α:=Value) (.int .i64 0) w fun e k d_ w=>Q3 P .lss T.e (.tmp 43) (.tmp 42) k A w fun O w=>X1 O (indexAddr P T.i f k w fun H w=>Q2 P T.b H w fun C w=>W0 P T.b w fun b w=>Y1 P T.b b C w fun _u w=>Q2 P T.b b w fun X w=>Q1 P F.aX [Z,X,Y] w fun o w=>ext P o 0 w fun R w=>ext P o 1 w fun y w=>ext P o 2 w fun W w=>W0 P T.d w fun d w=>Y1 P T.d d y w fun _u w=>X1 W (dr w fun g n=>Q5 g (fun l=> ∀w,n w→Q2 P T.d d w (dk g l w)) fun l=>∀v w,n w→l v w→ Y1 P T.d q v w fun _u w=>Y7 P T.d q w fun r=>K (.tuple #[R,r,(.bool true)]) w) (Q3 P .add T.e (.tmp 43) (.const (.int .i64 1)) k (.int .i64 1) w fun B w=>e B w)) (H1 P T.d [] w fun N w=>Y1 P T.d q N w fun _u w=>Y7 P T.d q w fun r=>K (.tuple #[(.string ⟨#[]⟩),r,(.bool false)]) w))
theorem Gk {b c a:Value} {w:World} {K:Value→World→Prop} (h:Lk b c a w K):Q1 P F.bf [b,c,a] w K:=Q9 Gm Tryz.func96 rfl (by decide) (by kernel_rfl) h
def Bz:V5:=[none,none,none,some ([21],[4,6,21,22,23,24,25,26,27,28,29,30,31,32]),none,none,none,none,none,none,none,none,none,some ([37],[4,9,37,38,39,40,41,42,43,44,45,46]),none,none,none,none,none,none,none,none,some ([50],[4,11,50,51,52,53,54,55,56,57,58,59,60,61,62,63,64,65,66,67,68,69,70]),none,none,none,none,none,none,none,none,none,none,none,none,none,none,none,some ([],[4,14,15,16,17,82,83,84,85,86,87,88,89,90,91,92,93,94,95,96,97,98,99,100]),none,none,none,none,none,none,none]
def Wc (a0 a1:Value) (w:World) (K:Value→World→Prop):Prop:= box P T.s a0 w fun u w=>box P T.b a1 w fun m w=>fieldAddr P T.b m 6 w fun a7 w=>Q2 P T.k a7 w fun o w=>X2 P .len [T.k] T.e [false] [o] w fun A w=>lp (α:=Value) (.int .i64 0) w fun g x3 d_ w=>Q3 P .lss T.e (.tmp 21) (.tmp 20) x3 A w fun a3 w=>X1 a3 (indexAddr P T.k o x3 w fun z w=>Q2 P T.o z w fun a5 w=>W0 P T.o w fun t6 w=>Y1 P T.o t6 a5 w fun _u w=>Q2 P T.s u w fun L w=>fieldAddr P T.b m 1 w fun ak w=>Q2 P T.c ak w fun bb w=>fieldAddr P T.o t6 0 w fun a8 w=>Q2 P T.c a8 w fun R w=>Q1 P F.bo [L,bb,R] w fun bk w=>Q3 P .geq T.e (.tmp 30) (.const (.int .i64 0)) bk (.int .i64 0) w fun aj w=>X1 aj (K (.int .i64 64) w) (Q3 P .add T.e (.tmp 21) (.const (.int .i64 1)) x3 (.int .i64 1) w fun ad w=>g ad w)) (H3 P (.func F.an) [] [u] w fun ab w=>W0 P T.a4 w fun v w=>Y1 P T.a4 v ab w fun _u w=>fieldAddr P T.b m 6 w fun ae w=>Q2 P T.k ae w fun q w=>X2 P .len [T.k] T.e [false] [q] w fun a4 w=>lp (α:=Value) (.int .i64 0) w fun c k d_ w=>Q3 P .lss T.e (.tmp 37) (.tmp 36) k a4 w fun ax w=>X1 ax (indexAddr P T.k q k w fun C w=>Q2 P T.o C w fun be w=>W0 P T.o w fun t9 w=>Y1 P T.o t9 be w fun _u w=>Q2 P T.a4 v w fun bf w=>fieldAddr P T.o t9 1 w fun M w=>Q2 P T.c M w fun U w=>Z3 P bf [U] w fun Z w=>J8 P .not Z w fun V w=>X1 V (K (.int .i64 65) w) (Q3 P .add T.e (.tmp 37) (.const (.int .i64 1)) k (.int .i64 1) w fun a2 w=>c a2 w)) (fieldAddr P T.b m 7 w fun ao w=>Q2 P T.j ao w fun n w=>X2 P .len [T.j] T.e [false] [n] w fun bl w=>lp (α:=Value) (.int .i64 0) w fun a l d_ w=>Q3 P .lss T.e (.tmp 50) (.tmp 49) l bl w fun ba w=>X1 ba (indexAddr P T.j n l w fun bi w=>Q2 P T.d bi w fun aw w=>W0 P T.d w fun e w=>Y1 P T.d e aw w fun _u w=>Q2 P T.a4 v w fun bm w=>fieldAddr P T.d e 2 w fun aq w=>Q2 P T.c aq w fun a6 w=>Z3 P bm [a6] w fun ac w=>J8 P .not ac w fun f w=>Q0 f true w (fieldAddr P T.d e 2) fun W w=>Q0 f true w (Q2 P T.c W) fun X w=>Q0 f true w (Q3 P .neq T.c (.tmp 61) (.const (.string ⟨#[]⟩)) X (.string ⟨#[]⟩)) fun bj w=>pick P f bj (.bool false) w fun b w=>Q0 b false w (fieldAddr P T.d e 1) fun bc w=>Q0 b false w (Q2 P T.h bc) fun bg w=>Q0 b false w (H3 P (.func F.ao) [] [v]) fun J w=>Q0 b false w (Q1 P F.c [bg,J]) fun ah w=>pick P b (.bool true) ah w fun H w=>X1 H (K (.int .i64 65) w) (Q3 P .add T.e (.tmp 50) (.const (.int .i64 1)) l (.int .i64 1) w fun Q w=>a Q w)) (Ko P T.y none w fun bh w=>Ko P T.y none w fun al w=>W0 P T.y w fun t w=>W0 P T.y w fun h w=>Y1 P T.y t bh w fun _u w=>Y1 P T.y h al w fun _u w=>Q2 P T.s u w fun N w=>fieldAddr P T.b m 0 w fun aa w=>Q2 P T.c aa w fun bd w=>H3 P (.func F.b1) [] [t,h] w fun O w=>Q1 P F.x [N,bd,O] w fun av w=>X1 av (K (.int .i64 66) w) (fieldAddr P T.b m 4 w fun ag w=>Q2 P T.v ag w fun ai w=>X1 ai (K (.int .i64 0) w) (Q2 P T.y h w fun ay w=>rng P T.y ay w fun s w=>lp (α:=Unit) () w fun d bq d_ w=>W4 P s false T.x w fun E w=>ext P E 0 w fun ar w=>X1 ar (Q8q P s w fun y w=>ext P y 0 w fun am w=>Q2 P T.s u w fun D w=>fieldAddr P T.b m 0 w fun a9 w=>Q2 P T.c a9 w fun af w=>Q1 P F.bf [D,af,am] w fun j w=>ext P j 0 w fun br w=>ext P j 1 w fun az w=>ext P j 2 w fun Y w=>W0 P T.d w fun r w=>Y1 P T.d r az w fun _u w=>J8 P .not Y w fun i w=>Q0 i false w (fieldAddr P T.d r 3) fun B w=>Q0 i false w (Q2 P T.v B) fun ap w=>pick P i (.bool true) ap w fun p w=>X1 p (K (.int .i64 67) w) (d () w)) (K (.int .i64 0) w))))))
theorem Fg {a b:Value} {w:World} {K:Value→World→Prop} (h:Wc a b w K):Q1 P F.b7 [a,b] w K:=Q9 Bz Tryz.func49 rfl (by decide) (by kernel_rfl) h
def Q89:V5:=[none,none,none,none,none,some ([30],[2,3,4,7,8,9,30,31,32,33,34,35,36,37,38,39,40,41,42,43,44,45,46,47,48,49,50,51,52]),none,none,none,none,none,none,none,none,none,none,some ([58],[2,3,4,10,11,58,59,60,61,62,63,64,65,66,67,68,69,70,71,72,73,74,75,76,77]),none,none,none,none,none,none,none,none,none,some ([85],[2,3,4,12,13,14,85,86,87,88,89,90,91,92,93,94,95,96,97]),none,none,none,none,none,none,none,none,none,none,none,none,none,some ([114],[2,3,4,17,18,114,115,116,117,118,119,120,121,122,123,124,125,126,127,128,129,130,131,132,133]),none,none,none,none,none,none,none,none]
def Q2P (a0:Value) (w:World) (K:Value→World→Prop):Prop:= Q1 P F.cF [] w fun az w=>Ko P T.a2 none w fun av w=>H1 P T.a0 [(0,az),(1,av)] w fun bs w=>box P T.a0 bs w fun a w=>nilCheck P a w fun bn w=>fieldAddr P T.a0 bn 0 w fun ay w=>Q2 P T.i ay w fun bf w=>X2 P .len [T.i] T.e [false] [bf] w fun h w=>X2 P .len [T.i] T.e [false] [a0] w fun a1 w=>lp (α:=Value) (.int .i64 0) w fun k x5 d_ w=>Q3 P .lss T.e (.tmp 30) (.tmp 29) x5 a1 w fun be w=>X1 be (indexAddr P T.i a0 x5 w fun a6 w=>Q2 P T.b a6 w fun ba w=>W0 P T.b w fun t8 w=>Y1 P T.b t8 ba w fun _u w=>Q2 P T.b t8 w fun a7 w=>Q1 P F.cy [a7] w fun aj w=>Q3 P .neq T.z (.tmp 37) (.const (.int .i64 0)) aj (.int .i64 0) w fun bk w=>X1 bk (K (.tuple #[(.pointer none),x5,aj]) w) (dr w fun b c=>Q5 b (fun j=> ∀w,c w→nilCheck P a w (dk b j w)) fun j=>Q5 b (fun u=> ∀l w,c w→j l w→fieldAddr P T.a0 l 0 w (dk b u w)) fun u=>Q5 b (fun M=> ∀n w,c w→u n w→Q2 P T.i n w (dk b M w)) fun M=>Q5 b (fun y=> ∀w,c w→Q2 P T.b t8 w (dk b y w)) fun y=>Q5 b (fun r=> ∀v w,c w→y v w→Q1 P F.cz [v] w (dk b r w)) fun r=>Q5 b (fun L=> ∀t w,c w→r t w→buildSlice P T.i 1 [(0,t)] w (dk b L w)) fun L=>∀l n aa v t U w,c w→j l w→u n w→M aa w→y v w→r t w→L U w→ X2 P .append [T.i,T.i] T.i [false,false] [aa,U] w fun bx w=>nilCheck P a w fun bl w=>fieldAddr P T.a0 bl 0 w fun bp w=>Y1 P T.i bp bx w fun _u w=>Q3 P .add T.e (.tmp 30) (.const (.int .i64 1)) x5 (.int .i64 1) w fun bu w=>k bu w)) (nilCheck P a w fun bz w=>fieldAddr P T.a0 bz 0 w fun bh w=>Q2 P T.i bh w fun ak w=>X2 P .len [T.i] T.e [false] [ak] w fun a8 w=>lp (α:=Value) (.int .i64 0) w fun e f d_ w=>Q3 P .lss T.e (.tmp 58) (.tmp 57) f a8 w fun a4 w=>X1 a4 (indexAddr P T.i ak f w fun a2 w=>Q2 P T.b a2 w fun bv w=>W0 P T.b w fun H w=>Y1 P T.b H bv w fun _u w=>fieldAddr P T.b H 0 w fun a5 w=>Q2 P T.c a5 w fun bq w=>Q1 P F.j [a,bq] w fun br w=>X1 br (Q3 P .sub T.e (.tmp 67) (.tmp 68) f h w fun aw w=>K (.tuple #[(.pointer none),aw,(.int .i64 60)]) w) (dr w fun b c=>Q5 b (fun o=> ∀w,c w→nilCheck P a w (dk b o w)) fun o=>Q5 b (fun m=> ∀z w,c w→o z w→fieldAddr P T.a0 z 1 w (dk b m w)) fun m=>Q5 b (fun i=> ∀w,c w→fieldAddr P T.b H 0 w (dk b i w)) fun i=>Q5 b (fun J=> ∀s w,c w→m s w→Q2 P T.a2 s w (dk b J w)) fun J=>Q5 b (fun N=> ∀p w,c w→i p w→Q2 P T.c p w (dk b N w)) fun N=>∀z s p Y an w,c w→o z w→m s w→i p w→J Y w→N an w→ mapUpdate P T.a2 Y an f w fun _u w=>Q3 P .add T.e (.tmp 58) (.const (.int .i64 1)) f (.int .i64 1) w fun bi w=>e bi w)) (nilCheck P a w fun bd w=>fieldAddr P T.a0 bd 0 w fun bm w=>Q2 P T.i bm w fun a9 w=>S1 P T.i a9 (some h) none none w fun ag w=>X2 P .len [T.i] T.e [false] [ag] w fun ar w=>lp (α:=Value) (.int .i64 0) w fun g q d_ w=>Q3 P .lss T.e (.tmp 85) (.tmp 84) q ar w fun ax w=>X1 ax (indexAddr P T.i ag q w fun bo w=>Q2 P T.b bo w fun bb w=>W0 P T.b w fun R w=>Y1 P T.b R bb w fun _u w=>Q2 P T.b R w fun bc w=>Q1 P F.bd [a,bc] w fun Z w=>Q3 P .neq T.z (.tmp 93) (.const (.int .i64 0)) Z (.int .i64 0) w fun a3 w=>X1 a3 (K (.tuple #[(.pointer none),q,Z]) w) (Q3 P .add T.e (.tmp 85) (.const (.int .i64 1)) q (.int .i64 1) w fun bj w=>g bj w)) (nilCheck P a w fun bg w=>fieldAddr P T.a0 bg 0 w fun ab w=>Q2 P T.i ab w fun al w=>S1 P T.i al (some h) none none w fun ao w=>H3 P (.func F.bl) [a] [] w fun am w=>Q1 P F.o [ao,am] w fun A w=>Q3 P .geq T.e (.tmp 107) (.const (.int .i64 0)) A (.int .i64 0) w fun af w=>X1 af (K (.tuple #[(.pointer none),A,(.int .i64 63)]) w) (Q1 P F.bm [a,h] w fun B w=>X2 P .len [T.a7] T.e [false] [B] w fun ad w=>lp (α:=Value) (.int .i64 0) w fun d E d_ w=>Q3 P .lss T.e (.tmp 114) (.tmp 113) E ad w fun O w=>X1 O (indexAddr P T.a7 B E w fun Q w=>Q2 P T.e Q w fun C w=>nilCheck P a w fun V w=>fieldAddr P T.a0 V 0 w fun ae w=>Q2 P T.i ae w fun X w=>indexAddr P T.i X C w fun ac w=>Q2 P T.b ac w fun ai w=>Q1 P F.b7 [a,ai] w fun D w=>Q3 P .neq T.z (.tmp 127) (.const (.int .i64 0)) D (.int .i64 0) w fun W w=>X1 W (Q3 P .sub T.e (.tmp 129) (.tmp 130) C h w fun ap w=>K (.tuple #[(.pointer none),ap,D]) w) (Q3 P .add T.e (.tmp 114) (.const (.int .i64 1)) E (.int .i64 1) w fun ah w=>d ah w)) (K (.tuple #[a,(.int .i64 0),(.int .i64 0)]) w)))))
theorem Q7O {a:Value} {w:World} {K:Value→World→Prop} (h:Q2P a w K):Q1 P F.cN [a] w K:=Q9 Q89 Tryz.func12 rfl (by decide) (by kernel_rfl) h
def Vu (w:World) (K:Value→World→Prop):Prop:= H1 P T.w [(0,(.string ⟨#[105,110,116]⟩)),(1,(.int .i64 1))] w fun r w=>H1 P T.w [(0,(.string ⟨#[114,101,116,117,114,110]⟩))] w fun t w=>buildSlice P T.r 2 [(0,r),(1,t)] w fun p w=>H1 P T.o [(0,(.string ⟨#[120]⟩)),(1,(.string ⟨#[105,110,116]⟩))] w fun n w=>H1 P T.o [(0,(.string ⟨#[110,101,120,116]⟩)),(1,(.string ⟨#[65]⟩))] w fun o w=>buildSlice P T.k 2 [(0,n),(1,o)] w fun s w=>buildSlice P T.h 2 [(0,(.string ⟨#[105,110,116]⟩)),(1,(.string ⟨#[65]⟩))] w fun q w=>H1 P T.d [(0,(.string ⟨#[102]⟩)),(1,q),(2,(.string ⟨#[105,110,116]⟩)),(4,(.int .i64 3)),(5,p)] w fun h w=>H1 P T.w [(0,(.string ⟨#[114,101,116,117,114,110]⟩))] w fun c w=>buildSlice P T.r 1 [(0,c)] w fun g w=>H1 P T.d [(0,(.string ⟨#[103]⟩)),(4,(.int .i64 1)),(5,g)] w fun b w=>buildSlice P T.j 2 [(0,h),(1,b)] w fun m w=>H1 P T.b [(0,(.string ⟨#[65]⟩)),(1,(.string ⟨#[79,98,106,101,99,116]⟩)),(6,s),(7,m)] w fun i w=>buildSlice P T.h 1 [(0,(.string ⟨#[73]⟩))] w fun j w=>H1 P T.o [(0,(.string ⟨#[108]⟩)),(1,(.string ⟨#[65,91,93]⟩))] w fun l w=>buildSlice P T.k 1 [(0,l)] w fun f w=>H1 P T.b [(0,(.string ⟨#[66]⟩)),(1,(.string ⟨#[65]⟩)),(2,j),(6,f)] w fun d w=>H1 P T.b [(0,(.string ⟨#[73]⟩)),(1,(.string ⟨#[79,98,106,101,99,116]⟩)),(3,(.bool true)),(4,(.bool true))] w fun a w=>H1 P T.b [(0,(.string ⟨#[68]⟩)),(1,(.string ⟨#[79,98,106,101,99,116]⟩)),(4,(.bool true))] w fun k w=>buildSlice P T.i 4 [(0,i),(1,d),(2,a),(3,k)] w fun e w=>K e w
theorem Fb {w:World} {K:Value→World→Prop} (h:Vu w K):Q1 P F.aA [] w K:=Q9 (List.replicate 3 none) Tryz.func13 rfl (by decide) (by kernel_rfl) h
def Ht (b:Value) (w:World) (K:Value→World→Prop):Prop:= nilCheck P b w fun a w=>fieldAddr P T.p a 3 w fun c w=>Q2 P T.f c w fun d w=>X2 P .len [T.f] T.e [false] [d] w fun e w=>K e w
theorem Q1Q {a:Value} {w:World} {K:Value→World→Prop} (h:Ht a w K):Q1 P F.aj [a] w K:=Q9 (List.replicate 2 none) Tryz.func17 rfl (by decide) (by kernel_rfl) h
def Hc (o:Value) (w:World) (K:Value→World→Prop):Prop:= dr w fun a c=>Q5 a (fun k=> ∀w,c w→nilCheck P o w (dk a k w)) fun k=>Q5 a (fun l=> ∀e w,c w→k e w→fieldAddr P T.p e 1 w (dk a l w)) fun l=>Q5 a (fun g=> ∀w,c w→nilCheck P o w (dk a g w)) fun g=>Q5 a (fun f=> ∀i w,c w→g i w→fieldAddr P T.p i 2 w (dk a f w)) fun f=>Q5 a (fun n=> ∀h w,c w→l h w→Q2 P T.e h w (dk a n w)) fun n=>Q5 a (fun b=> ∀j w,c w→f j w→Q2 P T.e j w (dk a b w)) fun b=>∀e h i j p d w,c w→k e w→l h w→g i w→f j w→n p w→b d w→ Q3 P .sub T.e (.tmp 6) (.tmp 10) p d w fun m w=>K m w
theorem Q0Y {a:Value} {w:World} {K:Value→World→Prop} (h:Hc a w K):Q1 P F.q [a] w K:=Q9 (List.replicate 2 none) Tryz.func18 rfl (by decide) (by kernel_rfl) h
def Hn (i h:Value) (w:World) (K:Value→World→Prop):Prop:= Q3 P .geq T.e (.tmp 5) (.const (.int .i64 0)) h (.int .i64 0) w fun a w=>Q0 a true w (fun w J=>J h w) fun j w=>Q0 a true w (fun w J=>J i w) fun k w=>Q0 a true w (nilCheck P k) fun c w=>Q0 a true w (fieldAddr P T.p c 3) fun b w=>Q0 a true w (Q2 P T.f b) fun g w=>Q0 a true w (X2 P .len [T.f] T.e [false] [g]) fun e w=>Q0 a true w (Q3 P .lss T.e (.tmp 8) (.tmp 13) j e) fun d w=>pick P a d (.bool false) w fun f w=>K f w
theorem Q1P {a b:Value} {w:World} {K:Value→World→Prop} (h:Hn a b w K):Q1 P F.aH [a,b] w K:=Q9 (List.replicate 2 none) Tryz.func51 rfl (by decide) (by kernel_rfl) h
def Ha (g h:Value) (w:World) (K:Value→World→Prop):Prop:= Q1 P F.aH [g,h] w fun j w=>J8 P .not j w fun i w=>X1 i (K (.string ⟨#[]⟩) w) (nilCheck P g w fun c w=>fieldAddr P T.p c 3 w fun a w=>Q2 P T.f a w fun f w=>indexAddr P T.f f h w fun d w=>fieldAddr P T.n d 0 w fun e w=>Q2 P T.c e w fun b w=>K b w)
theorem Q0l {a b:Value} {w:World} {K:Value→World→Prop} (h:Ha a b w K):Q1 P F.aB [a,b] w K:=Q9 (List.replicate 5 none) Tryz.func20 rfl (by decide) (by kernel_rfl) h
def Dz (h i:Value) (w:World) (K:Value→World→Prop):Prop:= Q1 P F.aH [h,i] w fun k w=>J8 P .not k w fun j w=>X1 j (K (.int .i64 0) w) (nilCheck P h w fun d w=>fieldAddr P T.p d 3 w fun a w=>Q2 P T.f a w fun g w=>indexAddr P T.f g i w fun e w=>fieldAddr P T.n e 1 w fun f w=>Q2 P T.l f w fun b w=>X2 P .len [T.l] T.e [false] [b] w fun c w=>K c w)
theorem Q0k {a b:Value} {w:World} {K:Value→World→Prop} (h:Dz a b w K):Q1 P F.bO [a,b] w K:=Q9 (List.replicate 5 none) Tryz.func21 rfl (by decide) (by kernel_rfl) h
def Zt:V5:=[none,none,none,some ([8],[4,5,8,9,10,11,12,13,14,15,16,17,18]),none,none,none,none,none,none,none]
def I4 (g h:Value) (w:World) (K:Value→World→Prop):Prop:= X2 P .len [T.f] T.e [false] [g] w fun j w=>lp (α:=Value) (.int .i64 0) w fun a b k w=>Q3 P .lss T.e (.tmp 8) (.tmp 7) b j w fun i w=>X1 i (indexAddr P T.f g b w fun e w=>Q2 P T.n e w fun f w=>Z3 P h [f] w fun c w=>X1 c (K b w) (Q3 P .add T.e (.tmp 8) (.const (.int .i64 1)) b (.int .i64 1) w fun d w=>a d w)) (K (.int .i64 (-1)) w)
theorem Zx {a b:Value} {w:World} {K:Value→World→Prop} (h:I4 a b w K):Q1 P F.aa [a,b] w K:=Q9 Zt Tryz.func98 rfl (by decide) (by kernel_rfl) h
def F6 (a b:Value) (w:World) (K:Value→World→Prop):Prop:= Q1 P F.aa [a,b] w fun d w=>Q3 P .geq T.e (.tmp 7) (.const (.int .i64 0)) d (.int .i64 0) w fun c w=>K c w
theorem Yd {a b:Value} {w:World} {K:Value→World→Prop} (h:F6 a b w K):Q1 P F.n [a,b] w K:=Q9 (List.replicate 2 none) Tryz.func53 rfl (by decide) (by kernel_rfl) h
def Rn (Q R:Value) (w:World) (K:Value→World→Prop):Prop:= box P T.g R w fun a w=>Q2 P T.g a w fun O w=>H1 P T.g [] w fun V w=>Q3 P .eql T.g (.tmp 6) (.tmp 7) O V w fun U w=>X1 U (K (.string ⟨#[110,117,108,108]⟩) w) (Q2 P T.g a w fun v w=>fieldAddr P T.g a 1 w fun j w=>Q2 P T.a1 j w fun u w=>H1 P T.g [(0,(.int .i64 1)),(1,u)] w fun g w=>Q3 P .eql T.g (.tmp 10) (.tmp 13) v g w fun L w=>X1 L (K (.string ⟨#[105,110,116]⟩) w) (Q2 P T.g a w fun B w=>fieldAddr P T.g a 1 w fun H w=>Q2 P T.a1 H w fun t w=>Q3 P .and T.a1 (.tmp 18) (.const (.int .i64 1)) t (.int .i64 1) w fun m w=>H1 P T.g [(0,(.int .i64 2)),(1,m)] w fun f w=>Q3 P .eql T.g (.tmp 16) (.tmp 20) B f w fun D w=>X1 D (K (.string ⟨#[98,111,111,108]⟩) w) (Q2 P T.g a w fun e w=>fieldAddr P T.g a 2 w fun o w=>Q2 P T.c o w fun k w=>H1 P T.g [(0,(.int .i64 3)),(2,k)] w fun N w=>Q3 P .eql T.g (.tmp 23) (.tmp 26) e N w fun b w=>Q0 b true w (fieldAddr P T.g a 2) fun r w=>Q0 b true w (Q2 P T.c r) fun E w=>Q0 b true w (X2 P .len [T.c] T.e [false] [E]) fun M w=>Q0 b true w (Q3 P .leq T.e (.tmp 31) (.const (.int .i64 4096)) M (.int .i64 4096)) fun J w=>pick P b J (.bool false) w fun c w=>Q0 c true w (fieldAddr P T.g a 2) fun C w=>Q0 c true w (Q2 P T.c C) fun p w=>Q0 c true w (Q1 P F.b2 [p]) fun q w=>pick P c q (.bool false) w fun i w=>X1 i (K (.string ⟨#[116,101,120,116]⟩) w) (Q2 P T.g a w fun y w=>fieldAddr P T.g a 3 w fun A w=>Q2 P T.e A w fun l w=>H1 P T.g [(0,(.int .i64 4)),(3,l)] w fun s w=>Q3 P .eql T.g (.tmp 40) (.tmp 43) y s w fun z w=>X1 z (fieldAddr P T.g a 3 w fun n w=>Q2 P T.e n w fun d w=>Q1 P F.aB [Q,d] w fun h w=>K h w) (K (.string ⟨#[]⟩) w)))))
theorem Q2z {a b:Value} {w:World} {K:Value→World→Prop} (h:Rn a b w K):Q1 P F.ce [a,b] w K:=Q9 (List.replicate 13 none) Tryz.func31 rfl (by decide) (by kernel_rfl) h
def Uz (a f:Value) (w:World) (K:Value→World→Prop):Prop:= Q1 P F.ac [a,f] w fun g w=>J8 P .not g w fun h w=>X1 h (K (.tuple #[a,(.bool false)]) w) (X2 P .len [T.c] T.e [false] [a] w fun d w=>X2 P .len [T.c] T.e [false] [f] w fun e w=>Q3 P .sub T.e (.tmp 13) (.tmp 15) d e w fun b w=>S1 P T.c a none (some b) none w fun c w=>K (.tuple #[c,(.bool true)]) w)
theorem Ck {a b:Value} {w:World} {K:Value→World→Prop} (h:Uz a b w K):Q1 P F.cf [a,b] w K:=Q9 (List.replicate 5 none) Tryz.func180 rfl (by decide) (by kernel_rfl) h
def Of (c d:Value) (w:World) (K:Value→World→Prop):Prop:= Q1 P F.cf [c,d] w fun b w=>ext P b 0 w fun e w=>ext P b 1 w fun a w=>K (.tuple #[e,a]) w
theorem Q04 {a b:Value} {w:World} {K:Value→World→Prop} (h:Of a b w K):Q1 P F.bK [a,b] w K:=Q9 (List.replicate 2 none) Tryz.func146 rfl (by decide) (by kernel_rfl) h
def Q2h (f:Value) (w:World) (K:Value→World→Prop):Prop:= Q1 P F.bK [f,(.string ⟨#[91,93]⟩)] w fun g w=>ext P g 0 w fun h w=>ext P g 1 w fun i w=>J8 P .not i w fun a w=>Q0 a false w (fun w J=>J f w) fun d w=>Q0 a false w (Q1 P F.a1 [d]) fun c w=>Q0 a false w (J8 P .not c) fun e w=>pick P a (.bool true) e w fun b w=>X1 b (K (.string ⟨#[]⟩) w) (K h w)
theorem Q6S {a:Value} {w:World} {K:Value→World→Prop} (h:Q2h a w K):Q1 P F.c5 [a] w K:=Q9 (List.replicate 6 none) Tryz.func97 rfl (by decide) (by kernel_rfl) h
def Mi (c d:Value) (w:World) (K:Value→World→Prop):Prop:= box P T.b c w fun a w=>fieldAddr P T.b a 0 w fun b w=>Q2 P T.c b w fun e w=>Q2 P T.c d w fun f w=>Q3 P .eql T.c (.tmp 5) (.tmp 6) e f w fun g w=>K g w
theorem Kq {a b:Value} {w:World} {K:Value→World→Prop} (h:Mi a b w K):Q1 P F.br [a,b] w K:=Q9 (List.replicate 2 none) Tryz.func110 rfl (by decide) (by kernel_rfl) h
def Es (k d z:Value) (w:World) (K:Value→World→Prop):Prop:= box P T.c z w fun a w=>Q1 P F.t [k,d] w fun l w=>J8 P .not l w fun b w=>Q0 b false w (fun w J=>J k w) fun f w=>Q0 b false w (Q2 P T.c a) fun u w=>Q0 b false w (Q1 P F.t [f,u]) fun o w=>Q0 b false w (J8 P .not o) fun p w=>pick P b (.bool true) p w fun s w=>X1 s (K (.bool false) w) (Q2 P T.c a w fun e w=>Q3 P .eql T.c (.tmp 19) (.tmp 20) d e w fun r w=>X1 r (K (.bool true) w) (Q1 P F.aP [d] w fun c w=>Q0 c false w (Q2 P T.c a) fun y w=>Q0 c false w (Q1 P F.aP [y]) fun j w=>pick P c (.bool true) j w fun i w=>X1 i (K (.bool false) w) (Q3 P .eql T.c (.tmp 30) (.const (.string ⟨#[110,117,108,108]⟩)) d (.string ⟨#[110,117,108,108]⟩) w fun v w=>X1 v (K (.bool true) w) (Q1 P F.c5 [d] w fun t w=>Q3 P .neq T.c (.tmp 34) (.const (.string ⟨#[]⟩)) t (.string ⟨#[]⟩) w fun q w=>X1 q (Q2 P T.c a w fun g w=>Q3 P .eql T.c (.tmp 36) (.const (.string ⟨#[79,98,106,101,99,116]⟩)) g (.string ⟨#[79,98,106,101,99,116]⟩) w fun h w=>K h w) (H3 P (.func F.br) [] [a] w fun m w=>Q1 P F.x [k,d,m] w fun n w=>K n w)))))
theorem Q14 {b c a:Value} {w:World} {K:Value→World→Prop} (h:Es b c a w K):Q1 P F.bT [b,c,a] w K:=Q9 (List.replicate 13 none) Tryz.func62 rfl (by decide) (by kernel_rfl) h
def Ei (l n m:Value) (w:World) (K:Value→World→Prop):Prop:= box P T.g n w fun b w=>Q2 P T.g b w fun o w=>Q1 P F.ce [l,o] w fun c w=>Q3 P .neq T.c (.tmp 11) (.const (.string ⟨#[]⟩)) c (.string ⟨#[]⟩) w fun a w=>Q0 a true w (fun w J=>J l w) fun j w=>Q0 a true w (nilCheck P j) fun f w=>Q0 a true w (fieldAddr P T.p f 0) fun d w=>Q0 a true w (Q2 P T.s d) fun h w=>Q0 a true w (fun w J=>J c w) fun k w=>Q0 a true w (fun w J=>J m w) fun i w=>Q0 a true w (Q1 P F.bT [h,k,i]) fun g w=>pick P a g (.bool false) w fun e w=>K e w
theorem Q0B {b c a:Value} {w:World} {K:Value→World→Prop} (h:Ei b c a w K):Q1 P F.aC [b,c,a] w K:=Q9 (List.replicate 3 none) Tryz.func27 rfl (by decide) (by kernel_rfl) h
def Er (u v t:Value) (w:World) (K:Value→World→Prop):Prop:= box P T.n v w fun a w=>fieldAddr P T.n a 0 w fun z w=>Q2 P T.c z w fun y w=>Q1 P F.c5 [y] w fun m w=>Q3 P .neq T.c (.tmp 11) (.const (.string ⟨#[]⟩)) m (.string ⟨#[]⟩) w fun s w=>X1 s (K m w) (dr w fun b k=>Q5 b (fun c=> ∀w,k w→nilCheck P u w (dk b c w)) fun c=>Q5 b (fun f=> ∀g w,k w→c g w→fieldAddr P T.p g 0 w (dk b f w)) fun f=>Q5 b (fun d=> ∀w,k w→fieldAddr P T.n a 0 w (dk b d w)) fun d=>Q5 b (fun j=> ∀h w,k w→f h w→Q2 P T.s h w (dk b j w)) fun j=>Q5 b (fun i=> ∀e w,k w→d e w→Q2 P T.c e w (dk b i w)) fun i=>∀g h e n l w,k w→c g w→f h w→d e w→j n w→i l w→ Q1 P F.a4 [n,l] w fun p w=>indexAddr P T.k p t w fun q w=>fieldAddr P T.o q 1 w fun o w=>Q2 P T.c o w fun r w=>K r w)
theorem Q0X {b c a:Value} {w:World} {K:Value→World→Prop} (h:Er b c a w K):Q1 P F.aD [b,c,a] w K:=Q9 (List.replicate 6 none) Tryz.func52 rfl (by decide) (by kernel_rfl) h
def Vw (g h:Value) (w:World) (K:Value→World→Prop):Prop:= Q1 P F.j [g,h] w fun a w=>Q0 a true w (fun w J=>J g w) fun i w=>Q0 a true w (fun w J=>J h w) fun c w=>Q0 a true w (Q1 P F.h [i,c]) fun b w=>Q0 a true w (F5 P T.b b 4) fun f w=>Q0 a true w (J8 P .not f) fun e w=>pick P a e (.bool false) w fun d w=>K d w
theorem Bo {a b:Value} {w:World} {K:Value→World→Prop} (h:Vw a b w K):Q1 P F.aE [a,b] w K:=Q9 (List.replicate 2 none) Tryz.func66 rfl (by decide) (by kernel_rfl) h
end Go.Proofs.YtjdiakhipmggjaaGreatDoor
