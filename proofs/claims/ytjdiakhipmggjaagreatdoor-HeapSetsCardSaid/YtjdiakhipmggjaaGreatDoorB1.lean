/- Parts of a proof about the given program: its functions as texts of their own, what each computes, plain laws of that. The conditions of each stand in its statement. -/
import Derived.WalkKit
import Derived.Test.YtjdiakhipmggjaaGreatDoorProg
import Derived.KernelRfl
set_option linter.unnecessarySimpa false
set_option linter.defProp false
set_option linter.unusedSectionVars false
set_option linter.unusedVariables false
set_option linter.unusedSimpArgs false
namespace Go.Emb
def P5 (P:Program) (s:Sem Next) (w:World) (K:Value→World→Prop):Prop:=
 match s.run P w with
 | .ok (.value v) w'=>K v w'
 | .ok .skip w'=>K undef w'
 | .ok (.enter f a) w'=>Calls P f a w' fun e b=>match e with | .returned v=>K v b | _=>False
 | .ok (.row row a) w'=>Rows P row a w' K
 | _=>False
theorem X1l: ∃f:Program→Sem Next→World→(Value→World→Prop)→Prop,f=P5:=⟨_,rfl⟩
noncomputable def op:Program→Sem Next→World→(Value→World→Prop)→Prop:=Classical.choose X1l
theorem T9:op=P5:=Classical.choose_spec X1l
theorem X3J {P:Program} {o:Oper} {a:Act} {w:World} {next:Act→World→Prop} {Q:Exit→Act→World→Prop}
 (h:op P (execOp a.eval o) w (fun v w=>next (a.put o.dst v) w)):o.wp P a w next Q:=by
 unfold Oper.wp
 rw[T9] at h
 unfold P5 at h
 cases b:(execOp a.eval o).run P w with
 | halt x w'=>rw[b] at h;exact h.elim
 | ok n w'=>
  rw[b] at h
  cases n<;>simp only at h<;>try exact h.elim
  ·exact h
  ·exact h
  ·refine Calls.mono h fun e d c=>?_
   cases e<;>first | exact c | exact c.elim
  ·exact h
theorem Ro {P:Program} {s:Sem Next} {K d:Value→World→Prop} {w:World} (a: ∀v w,K v w→d v w) (h:op P s w K):op P s w d:=by
 rw[T9] at*
 unfold P5 at*
 cases b:s.run P w with
 | halt x w'=>rw[b] at h;exact h.elim
 | ok n w'=>
  rw[b] at h
  cases n<;>simp only at h⊢ <;>try exact h.elim
  ·exact a _ _ h
  ·exact a _ _ h
  ·refine Calls.mono h fun e f c=>?_
   cases e<;>first | exact a _ _ c | exact c.elim
  ·exact h.mono a
def sv (s:Sem Value):Sem Next:=do Pure.pure (.value (←s))
def su (s:Sem Unit):Sem Next:=do s;Pure.pure .skip
section
variable (P : Program)
noncomputable def pick (c a b:Value) (w:World) (K:Value→World→Prop):Prop:=op P (do Pure.pure (.value (if←asBool c then a else b))) w K
noncomputable def W0 (e:TypeId) (w:World) (K:Value→World→Prop):Prop:=op P (sv (Instr.alloc e true (.tuple #[]))) w K
noncomputable def box (e:TypeId) (x:Value) (w:World) (K:Value→World→Prop):Prop:=op P (sv (Instr.box e x)) w K
noncomputable def H3 (t:TypeId) (a:List (Nat×Value)) (w:World) (K:Value→World→Prop):Prop:=op P (sv (Instr.build t a.toArray)) w K
noncomputable def buildSlice (t:TypeId) (n:Nat) (a:List (Nat×Value)) (w:World) (K:Value→World→Prop):Prop:=op P (sv (Instr.buildSlice t n a.toArray)) w K
noncomputable def Q2 (t:TypeId) (a:Value) (w:World) (K:Value→World→Prop):Prop:=op P (sv (Instr.loadAt t a)) w K
noncomputable def Y0 (t:TypeId) (a x:Value) (w:World) (K:Value→World→Prop):Prop:=op P (su (Instr.storeAt t a x)) w K
noncomputable def nilCheck (x:Value) (w:World) (K:Value→World→Prop):Prop:=op P (execOp (fun _=>x) {dst:=none,op:= .nilCheck (.const x),type:=0,pos:= "",after:= #[],guard:=none}) w K
noncomputable def Q3 (o:BinOp) (t:TypeId) (b a:Operand) (x y:Value) (w:World) (K:Value→World→Prop):Prop:=op P (sv (do eqGuard o t b a x y;Go.binOp o t x y)) w K
noncomputable def J8 (o:UnOp) (x:Value) (w:World) (K:Value→World→Prop):Prop:=op P (sv (Op.unary o x)) w K
noncomputable def conv (s d:TypeId) (x:Value) (w:World) (K:Value→World→Prop):Prop:=op P (sv (Go.convert s d x)) w K
noncomputable def X1J (t:TypeId) (x:Value) (w:World) (K:Value→World→Prop):Prop:=op P (sv (Instr.makeInterface t x)) w K
noncomputable def H1 (f:Fn) (first caps:List Value) (w:World) (K:Value→World→Prop):Prop:=op P (sv (Instr.makeFunc f first.toArray caps.toArray)) w K
noncomputable def Pl (t:TypeId) (r:Option Value) (w:World) (K:Value→World→Prop):Prop:=op P (sv (Instr.makeMap t r)) w K
noncomputable def Li (t:TypeId) (n c:Value) (w:World) (K:Value→World→Prop):Prop:=op P (sv (Instr.makeSlice t n c)) w K
noncomputable def S1 (t:TypeId) (x:Value) (b a c:Option Value) (w:World) (K:Value→World→Prop):Prop:=op P (sv (Instr.sliceAt t x b a c)) w K
noncomputable def fieldAddr (t:TypeId) (x:Value) (f:Nat) (w:World) (K:Value→World→Prop):Prop:=op P (sv (Instr.fieldAt t x f)) w K
noncomputable def F2 (t:TypeId) (x:Value) (f:Nat) (w:World) (K:Value→World→Prop):Prop:=op P (sv (Instr.field t x f)) w K
noncomputable def indexAddr (t:TypeId) (x i:Value) (w:World) (K:Value→World→Prop):Prop:=op P (sv (Instr.indexAt t x i)) w K
noncomputable def C5 (t:TypeId) (x i:Value) (w:World) (K:Value→World→Prop):Prop:=op P (sv (Instr.index t x i)) w K
noncomputable def lookup (t:TypeId) (x i:Value) (ok:Bool) (w:World) (K:Value→World→Prop):Prop:=op P (sv (Instr.lookup t x i ok)) w K
noncomputable def mapUpdate (t:TypeId) (m k x:Value) (w:World) (K:Value→World→Prop):Prop:=op P (su (Instr.mapUpdate t m k x)) w K
noncomputable def mapEntry (t:TypeId) (m k:Value) (w:World) (K:Value→World→Prop):Prop:=op P (sv (Instr.mapEntry t m k)) w K
noncomputable def entryStore (t:TypeId) (m s x:Value) (w:World) (K:Value→World→Prop):Prop:=op P (su (Instr.entryStore t m s x)) w K
noncomputable def rng (t:TypeId) (x:Value) (w:World) (K:Value→World→Prop):Prop:=op P (sv (Instr.range t x)) w K
noncomputable def W6 (b:Value) (a:Bool) (t:TypeId) (w:World) (K:Value→World→Prop):Prop:=op P (sv (Instr.next b a t)) w K
noncomputable def Q81 (a:Value) (w:World) (K:Value→World→Prop):Prop:=op P (sv (Instr.entry a)) w K
noncomputable def pnc (x:Value) (w:World) (K:Value→World→Prop):Prop:=op P (sv (Instr.panic x)) w K
noncomputable def ext (x:Value) (i:Nat) (w:World) (K:Value→World→Prop):Prop:=op P (sv (Instr.extract x i)) w K
noncomputable def X2 (b:Builtin) (a:List TypeId) (t:TypeId) (cs:List Bool) (xs:List Value) (w:World) (K:Value→World→Prop):Prop:=op P (Go.builtin b a.toArray t cs.toArray xs.toArray) w K
noncomputable def Q1 (f:FuncId) (xs:List Value) (w:World) (K:Value→World→Prop):Prop:=op P (callFunc f xs.toArray) w K
noncomputable def Z3 (f:Value) (xs:List Value) (w:World) (K:Value→World→Prop):Prop:=op P (do let d←Deferred.ofValue f xs.toArray;invoke d.target d.args) w K
end
def get (l:List Value) (t:Nat):Value:=l.getD t undef
def ev (l:List Value):Operand→Value
 | .tmp t=>get l t
 | .const v=>v
 | .global g=> .pointer (some ⟨g,0,none⟩)
 | .func f=> .func (.func f) #[] #[]
def put (l:List Value) (d:Option Tmp) (v:Value):List Value:=
 match d with
 | some d=>l.set d v
 | none=>l
def evs (l:List Value) (xs:Array Operand):List Value:=xs.toList.map (ev l)
def evp (l:List Value) (xs:Array (Nat×Operand)):List (Nat×Value):=xs.toList.map fun p=>(p.1,ev l p.2)
def evo (l:List Value) (x:Option Operand):Option Value:=match x with | some x=>some (ev l x) | none=>none
def isC:Operand→Bool | .const _=>true | _=>false
noncomputable def Dy (P:Program) (l:List Value) (o:Oper) (c:Call) (w:World) (K:Value→World→Prop):Prop:=
 match c.callee with
 | .builtin b=>X2 P b c.argTypes.toList o.type (c.args.toList.map isC) (evs l c.args) w K
 | .value (.func f)=>Q1 P f (evs l c.args) w K
 | .value f=>Z3 P (ev l f) (evs l c.args) w K
 | _=>op P (execOp (ev l) o) w K
noncomputable def W8 (P:Program) (l:List Value) (o:Oper) (w:World) (K:Value→World→Prop):Prop:=
 match o.op with
 | .move x=>K (ev l x) w
 | .assign x=>K (ev l x) w
 | .pick c a b=>pick P (ev l c) (ev l a) (ev l b) w K
 | .alloc e=>W0 P e w K
 | .box e x=>box P e (ev l x) w K
 | .build t g=>H3 P t (evp l g) w K
 | .buildSlice t n g=>buildSlice P t n (evp l g) w K
 | .load t a=>Q2 P t (ev l a) w K
 | .store t a x=>Y0 P t (ev l a) (ev l x) w K
 | .nilCheck x=>nilCheck P (ev l x) w K
 | .binOp op t x y _=>Q3 P op t x y (ev l x) (ev l y) w K
 | .unOp op _ x=>J8 P op (ev l x) w K
 | .convert s d x=>conv P s d (ev l x) w K
 | .makeInterface t x=>X1J P t (ev l x) w K
 | .makeFunc f first caps=>H1 P f (evs l first) (evs l caps) w K
 | .makeMap t r=>Pl P t (evo l r) w K
 | .makeSlice t n c=>Li P t (ev l n) (ev l c) w K
 | .slice t x p q u=>S1 P t (ev l x) (evo l p) (evo l q) (evo l u) w K
 | .fieldAddr t x f=>fieldAddr P t (ev l x) f w K
 | .field t x f=>F2 P t (ev l x) f w K
 | .indexAddr t x i=>indexAddr P t (ev l x) (ev l i) w K
 | .index t x i=>C5 P t (ev l x) (ev l i) w K
 | .lookup t x i ok=>lookup P t (ev l x) (ev l i) ok w K
 | .mapUpdate t m k x=>mapUpdate P t (ev l m) (ev l k) (ev l x) w K
 | .insert t m k x=>mapUpdate P t (ev l m) (ev l k) (ev l x) w K
 | .mapEntry t m k=>mapEntry P t (ev l m) (ev l k) w K
 | .entryStore t m s x=>entryStore P t (ev l m) (ev l s) (ev l x) w K
 | .range t x=>rng P t (ev l x) w K
 | .next h j=>W6 P (ev l h) j o.type w K
 | .extract x i=>ext P (ev l x) i w K
 | .entry h=>Q81 P (ev l h) w K
 | .panic x=>pnc P (ev l x) w K
 | .call c=>Dy P l o c w K
 | _=>op P (execOp (ev l) o) w K
theorem Q80 {α β:Type} (f:α→β) (a:Array α):a.map f=(a.toList.map f).toArray:=by rw[←Array.toList_map,Array.toArray_toList]
theorem X1W (l:List Value) (x:Option Operand):x.map (ev l)=evo l x:=by cases x<;>rfl
theorem Q5E {P:Program} {l:List Value} {o:Oper} {c:Call} {K e:Value→World→Prop} {w:World} (d: ∀v w,K v w→e v w) (h:Dy P l o c w K):Dy P l o c w e:=by
 obtain ⟨a,g,i⟩:=c
 cases a with
 | builtin b=>exact Ro d h
 | invoke r m=>exact Ro d h
 | value f=>cases f<;>(simp only[Dy,Z3,Q1] at h⊢;exact Ro d h)
theorem K6 {P:Program} {l:List Value} {o:Oper} {K b:Value→World→Prop} {w:World} (a: ∀v w,K v w→b v w) (h:W8 P l o w K):W8 P l o w b:=by
 obtain ⟨d,p,c,pos,e,g⟩:=o
 cases p<;>first | exact a _ _ h | exact Q5E a h | exact Ro a h | (simp only[W8] at h⊢;exact Ro a h)
theorem Q6O {P:Program} {l:List Value} {o:Oper} {K:Value→World→Prop} {w:World} (h:W8 P l o w K):op P (execOp (ev l) o) w K:=by
 unfold W8 at h
 split at h<;>rename_i a
 all_goals first
  | exact h
  | (unfold execOp;rw[a];exact h)
  | (unfold execOp;rw[a];simp only[Q80,X1W];exact h)
  | (unfold execOp;rw[a,T9];exact h)
  | skip
 rename_i c
 unfold Dy at h
 split at h<;>rename_i b
 ·unfold execOp;rw[a];simp only[resolve,b,Q80]
  simp only[pure_bind,invoke]
  unfold X2 at h
  simp only[Array.toArray_toList] at h
  refine (congrArg (fun z=>op P (builtin _ c.argTypes o.type (List.toArray z) _) w K) (List.map_congr_left (fun x _=>?_))).mp h
  cases x<;>rfl
 ·unfold execOp;rw[a];simp only[resolve,b,Q80]
  simp only[ev,Deferred.ofValue,pure_bind,invoke]
  simpa [Q1,evs] using h
 ·unfold execOp;rw[a];simp only[resolve,b,Q80]
  exact h
 ·exact h
def Oa (v:Value) (b:Bool) (w:World) (a:World→(Value→World→Prop)→Prop) (J:Value→World→Prop):Prop:=
 match v with
 | .bool c=>if c=b then a w J else J undef w
 | _=>J undef w
theorem Q9H: ∃f:Value→Bool→World→(World→(Value→World→Prop)→Prop)→(Value→World→Prop)→Prop,f=Oa:=⟨_,rfl⟩
noncomputable def Q0:Value→Bool→World→(World→(Value→World→Prop)→Prop)→(Value→World→Prop)→Prop:=Classical.choose Q9H
theorem Eu:Q0=Oa:=Classical.choose_spec Q9H
def Q3s (v:Value) (t e:Prop):Prop:=
 match v with
 | .bool true=>t
 | .bool false=>e
 | _=>False
theorem Q90: ∃f:Value→Prop→Prop→Prop,f=Q3s:=⟨_,rfl⟩
noncomputable def X1:Value→Prop→Prop→Prop:=Classical.choose Q90
theorem Q5a:X1=Q3s:=Classical.choose_spec Q90
noncomputable def Z5 (P:Program) (ops:List Oper) (next:List Value→World→Prop):List Oper→List Value→World→Prop
 | [],l,w=>next l w
 | o::a,l,w=>
  match o.guard with
  | none=>W8 P l o w (fun v w=>Z5 P ops next a (put l o.dst v) w)
  | some (j,b)=>match (ops[j]?).bind (·.dst) with
   | some d=>Q0 (get l d) b w (W8 P l o) (fun v w=>Z5 P ops next a (put l o.dst v) w)
   | none=>Z5 P ops next a (put l o.dst undef) w
def Tj:Nat→Type
 | 0=>Unit
 | 1=>Value
 | n+2=>Value×Tj (n+1)
def Df (l:List Value):(a:List Nat)→Tj a.length
 | []=>()
 | [s]=>get l s
 | s::t::r=>(get l s,Df l (t::r))
def Rb (i:Nat) (e:Value):(a:List Nat)→Tj a.length→Value
 | [],_=>e
 | [s],x=>if s=i then x else e
 | s::t::r,x=>if s=i then x.1 else Rb i e (t::r) x.2
def H7 (a b:List Nat) (x:Tj a.length) (d:Nat→Value):Nat→List Value→List Value
 | _,[]=>[]
 | i,v::l=>Rb i (if b.contains i then d i else v) a x::H7 a b x d (i+1) l
def X18 (α:Type) (x0:α) (w:World) (a:(α→World→Prop)→α→(Nat→Value)→World→Prop):Prop:=
 ∃(I:α→World→Prop) (μ:α→World→Nat),I x0 w∧ ∀x d w,I x w→a (fun b w'=>I b w'∧μ b w'<μ x w) x d w
theorem X1r: ∃f:(α:Type)→α→World→((α→World→Prop)→α→(Nat→Value)→World→Prop)→Prop,f=X18:=⟨_,rfl⟩
noncomputable def lp {α:Type}:α→World→((α→World→Prop)→α→(Nat→Value)→World→Prop)→Prop:=Classical.choose X1r α
theorem X1w {α:Type} (x0:α) (w:World) (a:(α→World→Prop)→α→(Nat→Value)→World→Prop):lp x0 w a=X18 α x0 w a:=
 congrFun (congrFun (congrFun (congrFun (Classical.choose_spec X1r) α) x0) w) a
def X1i (α:Type) (w:World) (A:(α→World→Prop)→World→Prop) (B:α→(Nat→Value)→World→Prop):Prop:=
 ∃I:α→World→Prop,A I w∧ ∀x d w,I x w→B x d w
theorem X1p: ∃f:(α:Type)→World→((α→World→Prop)→World→Prop)→(α→(Nat→Value)→World→Prop)→Prop,f=X1i:=⟨_,rfl⟩
noncomputable def jn {α:Type}:World→((α→World→Prop)→World→Prop)→(α→(Nat→Value)→World→Prop)→Prop:=Classical.choose X1p α
theorem X1A {α:Type} (w:World) (A:(α→World→Prop)→World→Prop) (B:α→(Nat→Value)→World→Prop):jn w A B=X1i α w A B:=
 congrFun (congrFun (congrFun (congrFun (Classical.choose_spec X1p) α) w) A) B
theorem Jc {α:Type} {w:World} {A:(α→World→Prop)→World→Prop} {B:α→(Nat→Value)→World→Prop} (I:α→World→Prop) (h:A I w) (a: ∀x d w,I x w→B x d w):jn w A B:=by
 rw[X1A];exact ⟨I,h,a⟩
theorem Q5D {α:Type} {w:World} {A:(α→World→Prop)→World→Prop} {B:α→(Nat→Value)→World→Prop} (h:jn w A B): ∃I:α→World→Prop,A I w∧ ∀x d w,I x w→B x d w:=by
 rw[X1A] at h;exact h
theorem Wk {α:Type} {x0:α} {w:World} {a:(α→World→Prop)→α→(Nat→Value)→World→Prop} (I:α→World→Prop) (μ:α→World→Nat) (e:I x0 w)
 (c: ∀x d w,I x w→a (fun b w'=>I b w'∧μ b w'<μ x w) x d w):lp x0 w a:=by
 rw[X1w];exact ⟨I,μ,e,c⟩
theorem Q9w {α:Type} {x0:α} {w:World} {a:(α→World→Prop)→α→(Nat→Value)→World→Prop} (h:lp x0 w a):
 ∃(I:α→World→Prop) (μ:α→World→Nat),I x0 w∧ ∀x d w,I x w→a (fun b w'=>I b w'∧μ b w'<μ x w) x d w:=by
 rw[X1w] at h;exact h
def S3 (ops:List Oper):List Nat:=ops.filterMap (·.dst)
def Qp:Code→Nat
 | .seq a b=>Qp a+Qp b+1
 | .cond _ a b=>Qp a+Qp b
 | .block _ c=>Qp c
 | .loop c=>Qp c+1
 | .scope c=>Qp c
 | _=>0
def O6 (d:List (Option (List Nat))):Nat→Code→List Nat
 | _, .region _ ops _=>S3 ops.toList
 | k, .seq a b=>(d.getD k none).getD []++(O6 d (k+1) a++O6 d (k+1+Qp a) b)
 | k, .cond _ a b=>O6 d k a++O6 d (k+Qp a) b
 | k, .block _ c=>O6 d k c
 | k, .loop c=>(d.getD k none).getD []++O6 d (k+1) c
 | k, .scope c=>O6 d k c
 | _,_=>[]
abbrev Hl:=Exit→List Value→World→Prop
def thn (next:List Value→World→Prop) (Q:Hl):Hl
 | .normal,a,w=>next a w
 | e,a,w=>Q e a w
def Q2T (id:Nat) (Q:Hl):Hl
 | .exit b,a,w=>if b=id then Q .normal a w else Q (.exit b) a w
 | e,a,w=>Q e a w
noncomputable def Db (P:Program) (a:List (Option (List Nat))):Nat→Code→Hl→List Value→World→Prop
 | _, .skip,Q,l,w=>Q .normal l w
 | _, .label _,Q,l,w=>Q .normal l w
 | _, .exit id,Q,l,w=>Q (.exit id) l w
 | _, .ret,Q,l,w=>Q .ret l w
 | _, .region _ ops false,Q,l,w=>Z5 P ops.toList (fun l w=>Q .normal l w) ops.toList l w
 | _, .region _ ops true,Q,l,w=> ∀t,Z5 P ops.toList (fun l w=>Q .normal l w) ((Region.schedule (P.follows .mixedOrders) ops t).filterMap (ops[·]?)) l w.drew
 | k, .seq x y,Q,l,w=>match a.getD k none with
  | none=>Db P a (k+1) x (thn (fun l w=>Db P a (k+1+Qp x) y Q l w) Q) l w
  | some e=>jn w (fun J w=>Db P a (k+1) x (thn (fun l' w'=>J (Df l' e) w') Q) l w)
   (fun z d w=>Db P a (k+1+Qp x) y Q (H7 e (O6 a (k+1) x) z d 0 l) w)
 | k, .cond c x y,Q,l,w=>X1 (ev l c) (Db P a k x Q l w) (Db P a (k+Qp x) y Q l w)
 | k, .block id c,Q,l,w=>Db P a k c (Q2T id Q) l w
 | k, .loop c,Q,l,w=>
  lp (Df l ((a.getD k none).getD [])) w (fun b x d w=>Db P a (k+1) c (thn (fun l' w'=>b (Df l' ((a.getD k none).getD [])) w') Q) (H7 ((a.getD k none).getD []) (O6 a (k+1) c) x d 0 l) w)
 | _,_,_,_,_=>False
theorem Q8j {ops:List Oper} {l:List Value} {o:Oper} {j:Nat} {b:Bool} (a:o.guard=some (j,b)) {d:Nat} (e:(ops[j]?).bind (·.dst)=some d):
 Region.wanted o (yielded ops.toArray l.toArray)=true↔get l d= .bool b:=by
 unfold Region.wanted yielded
 rw[a]
 simp only[List.getElem?_toArray]
 rw[e]
 simp only[Option.bind_some,get,List.getD_eq_getElem?_getD]
 have key: ∀x:Option Value,((match x with | some (.bool c)=>some c | _=>none)==some b)=true↔x.getD undef= .bool b:=by
  intro x
  cases x with
  | none=>simp[undef]
  | some v=>cases v<;>simp
 exact key _
theorem Q6J {ops:List Oper} {l:List Value} {o:Oper} {j:Nat} {b:Bool} (a:o.guard=some (j,b)) (c:(ops[j]?).bind (·.dst)=none):
 Region.wanted o (yielded ops.toArray l.toArray)=false:=by
 unfold Region.wanted yielded
 rw[a]
 simp only[List.getElem?_toArray]
 rw[c]
 rfl
theorem Lj {v:Value} {b:Bool} {a:World→(Value→World→Prop)→Prop} {J:Value→World→Prop} {w:World} (h:Q0 v b w a J):
 (v= .bool b∧a w J)∨(v≠ .bool b∧J undef w):=by
 rw[Eu] at h
 unfold Oa at h
 split at h
 ·split at h
  ·rename_i c;subst c;exact .inl ⟨rfl,h⟩
  ·rename_i c;exact .inr ⟨by simp[c],h⟩
 ·rename_i d;exact .inr ⟨d b,h⟩
theorem Q0M {v:Value} {b:Bool} {a:World→(Value→World→Prop)→Prop} {J:Value→World→Prop} {w:World}
 (h:(v= .bool b∧a w J)∨(v≠ .bool b∧J undef w)):Q0 v b w a J:=by
 rw[Eu]
 unfold Oa
 split
 ·split
  ·rename_i c;subst c
   rcases h with h | h
   ·exact h.2
   ·exact absurd rfl h.1
  ·rename_i c
   rcases h with h | h
   ·exact absurd (Value.bool.inj h.1) c
   ·exact h.2
 ·rename_i d
  rcases h with h | h
  ·exact absurd h.1 (d b)
  ·exact h.2
theorem Q3M (a:Act):a.eval=ev a.tmps.toList:=by
 funext x
 cases x<;>simp[Act.eval,ev,get,List.getD_eq_getElem?_getD]
theorem Q83 (a:Act) (d:Option Tmp) (v:Value):(a.put d v).tmps.toList=put a.tmps.toList d v:=by
 cases d<;>simp[Act.put,put]
theorem Q8J (a:Act) (d:Option Tmp) (v:Value):(a.put d v).defers=a.defers:=by
 cases d<;>simp[Act.put]
def lift (Q:Hl):Exit→Act→World→Prop:=fun e a w=>a.defers=[]∧Q e a.tmps.toList w
theorem Q0d (P:Program) (ops:Array Oper) (Q:Exit→Act→World→Prop) (next:List Value→World→Prop)
 (t: ∀a w,a.defers=[]→next a.tmps.toList w→Q .normal a w) (is:List Nat) (r: ∀i∈is,i<ops.size):
 ∀(a:Act) (w:World),a.defers=[]→Z5 P ops.toList next (is.filterMap (ops[·]?)) a.tmps.toList w→wpOps P ops Q is a w:=by
 induction is with
 | nil=>intro a w o h;exact t a w o h
 | cons i is y=>
  intro a w o h
  have p:=r i (by simp)
  have m:ops[i]? =some ops[i]:=by simp[p]
  rw[List.filterMap_cons,m] at h
  simp only[Z5] at h
  simp only[wpOps,m]
  have q:ops.toList.toArray=ops:=by simp
  have s:a.tmps.toList.toArray=a.tmps:=by simp
  have f: ∀{v w},Z5 P ops.toList next (is.filterMap (ops[·]?)) (put a.tmps.toList ops[i].dst v) w→wpOps P ops Q is (a.put ops[i].dst v) w:=by
   intro v w e
   refine y (fun j u=>r j (by simp[u])) _ _ (by rw[Q8J];exact o) ?_
   rw[Q83];exact e
  have k:W8 P a.tmps.toList ops[i] w (fun v w=>Z5 P ops.toList next (is.filterMap (ops[·]?)) (put a.tmps.toList ops[i].dst v) w)→
   ops[i].wp P a w (wpOps P ops Q is) Q:=by
   intro h
   refine X3J ?_
   rw[Q3M]
   exact Ro (fun v w e=>f e) (Q6O h)
  split at h
  ·rename_i n
   rw[if_pos (by simp[Region.wanted,n])]
   exact .inl (k h)
  ·rename_i j b n
   split at h
   ·rename_i d c
    have g:=Q8j (ops:=ops.toList) (l:=a.tmps.toList) n c
    rw[q,s] at g
    rcases Lj h with ⟨e,h⟩ | ⟨e,h⟩
    ·rw[if_pos (g.2 e)];exact .inl (k h)
    ·rw[if_neg (fun h=>e (g.1 h))];exact f h
   ·rename_i c
    have g:=Q6J (ops:=ops.toList) (l:=a.tmps.toList) n c
    rw[q,s] at g
    rw[if_neg (by rw[g];simp)];exact f h
theorem Ar (ops:Array Oper):(List.range ops.size).filterMap (ops[·]?)=ops.toList:=by
 apply List.ext_getElem?
 intro i
 rw[←Array.length_toList]
 have: ∀l:List Oper,(List.range l.length).filterMap (l[·]?)=l:=by
  intro l
  induction l with
  | nil=>rfl
  | cons x l a=>
   rw[List.length_cons,List.range_succ_eq_map,List.filterMap_cons]
   simp only[List.getElem?_cons_zero,List.filterMap_map]
   congr 1
 have h:=this ops.toList
 simp only[Array.getElem?_toList] at h
 rw[h]
theorem Q2f (b:Bool) (ops:Array Oper) (t:Nat): ∀i∈Region.schedule b ops t,i<ops.size:=by
 have key: ∀m c t a e,(∀i∈e,i<ops.size)→ ∀i∈Region.linearise.go m ops c t a e,i<ops.size:=by
  intro m c
  induction c with
  | zero=>intro t a e h i d;simp[Region.linearise.go] at d;exact h i d
  | succ c g=>
   intro t a e h i d
   simp only[Region.linearise.go] at d
   split at d
   ·rename_i j f
    refine g _ _ _ ?_ i d
    intro k hk
    rcases List.mem_cons.1 hk with rfl | hk
    ·have:=List.mem_of_getElem? f
     simp only[List.mem_filter,List.mem_range] at this
     exact this.1
    ·exact h k hk
   ·simp at d;exact h i d
 intro i d
 unfold Region.schedule at d
 split at d
 ·exact key _ _ _ _ _ (by simp) i d
 ·exact key _ _ _ _ _ (by simp) i d
def Qs (W:List Nat) (l l':List Value):Prop:=l'.length=l.length∧ ∀i,W.contains i=false→l'[i]? =l[i]?
theorem Qs.refl (W:List Nat) (l:List Value):Qs W l l:=⟨rfl,fun _ _=>rfl⟩
theorem Qs.trans {W:List Nat} {a b c:List Value} (h:Qs W a b) (k:Qs W b c):Qs W a c:=
 ⟨k.1.trans h.1,fun i d=>(k.2 i d).trans (h.2 i d)⟩
theorem Ss (a b:List Nat) (x:Tj a.length) (d:Nat→Value) (l:List Value): ∀i,(H7 a b x d i l).length=l.length:=by
 induction l with
 | nil=>intro i;rfl
 | cons v l c=>intro i;simp[H7,c]
theorem Cx (a b:List Nat) (x:Tj a.length) (d:Nat→Value) (l:List Value): ∀i j,(H7 a b x d i l)[j]? =(l[j]?).map fun v=>Rb (i+j) (if b.contains (i+j) then d (i+j) else v) a x:=by
 induction l with
 | nil=>intro i j;simp[H7]
 | cons v l c=>
  intro i j
  cases j with
  | zero=>simp[H7]
  | succ j=>simp only[H7,List.getElem?_cons_succ,c];rw[show i+1+j=i+(j+1) from by omega]
theorem Wd (i:Nat) (e:Value): ∀(b:List Nat) (x:Tj b.length),b.contains i=false→Rb i e b x=e
 | [],_,_=>rfl
 | [s],x,h=>by
  have a: ¬s=i:=by intro a;subst a;simp at h
  exact if_neg a
 | s::t::r,x,h=>by
  simp only[Rb]
  split
  ·rename_i a;subst a;simp at h
  ·refine Wd i e (t::r) x.2 ?_
   simp only[List.contains_cons,Bool.or_eq_false_iff] at h⊢
   exact h.2
theorem Q5A (l:List Value) (i:Nat) (e c:Value): ∀(b:List Nat),b.contains i=true→Rb i e b (Df l b)=get l i
 | [],h=>by simp at h
 | [s],h=>by
  simp only[List.contains_cons,List.contains_nil,Bool.or_false,beq_iff_eq] at h
  subst h;simp[Rb,Df]
 | s::t::r,h=>by
  simp only[Rb,Df]
  split
  ·rename_i a;subst a;rfl
  ·rename_i a
   refine Q5A l i e c (t::r) ?_
   simp only[List.contains_cons,Bool.or_eq_true,beq_iff_eq] at h⊢
   rcases h with h | h
   ·exact absurd h.symm a
   ·exact h
theorem Iz (a c:List Nat) (l l':List Value) (j:l'.length=l.length)
 (h: ∀i,a.contains i=false→c.contains i=false→l'[i]? =l[i]?):l'=H7 a c (Df l' a) (get l') 0 l:=by
 apply List.ext_getElem?
 intro i
 rw[Cx]
 simp only[Nat.zero_add]
 cases d:l[i]? with
 | none=>
  have:=List.getElem?_eq_none_iff.1 d
  simp only[Option.map_none]
  exact List.getElem?_eq_none (by omega)
 | some v=>
  have m:i<l.length:=(List.getElem?_eq_some_iff.1 d).1
  have k:l'[i]? =some (get l' i):=by
   simp only[get,List.getD_eq_getElem?_getD]
   rw[List.getElem?_eq_getElem (by omega)];rfl
  rw[k]
  simp only[Option.map_some,Option.some.injEq]
  by_cases g:a.contains i=true
  ·rw[Q5A l' i _ undef a g]
  ·have b:a.contains i=false:=by simpa using g
   rw[Wd _ _ _ _ b]
   by_cases f:c.contains i=true
   ·rw[if_pos f]
   ·have e:c.contains i=false:=by simpa using f
    rw[if_neg f]
    have:=h i b e
    rw[k,d] at this
    exact Option.some.inj this
theorem Q4d {v:Value} {t e a b:Prop} (d:t→a) (c:e→b) (h:X1 v t e):X1 v a b:=by
 rw[Q5a] at*
 unfold Q3s at*
 split at h
 ·exact d h
 ·exact c h
 ·exact h.elim
theorem Uo (P:Program) (c:List Oper) (next a:List Value→World→Prop) (W:List Nat) (j:List Value): ∀(ops:List Oper) (l:List Value) (w:World),
 (∀o∈ops,∀d,o.dst=some d→W.contains d=true)→Qs W j l→(∀l w,next l w→Qs W j l→a l w)→Z5 P c next ops l w→Z5 P c a ops l w
 | [],l,w,_,k,m,h=>m l w h k
 | o::f,l,w,q,k,m,h=>by
  have g: ∀v,Qs W j (put l o.dst v):=by
   intro v
   cases u:o.dst with
   | none=>exact k
   | some d=>
    have t:=q o (by simp) d u
    refine k.trans ⟨by simp[put],fun i r=>?_⟩
    have:d≠i:=by intro e;subst e;rw[t] at r;cases r
    simp[put,this]
  have b: ∀v w,Z5 P c next f (put l o.dst v) w→Z5 P c a f (put l o.dst v) w:=fun v w s=>
   Uo P c next a W j f _ w (fun o y=>q o (by simp[y])) (g v) m s
  simp only[Z5] at h⊢
  split at h
  ·exact K6 b h
  ·split at h
   ·refine Q0M ((Lj h).imp (fun ⟨n,p⟩=>⟨n,K6 b p⟩) (fun ⟨n,p⟩=>⟨n,b _ _ p⟩))
   ·exact b _ _ h
theorem Q4n {α:Type} {x0:α} {c a:(α→World→Prop)→α→(Nat→Value)→World→Prop} {w:World}
 (f: ∀b x d w,c b x d w→a b x d w) (h:lp x0 w c):lp x0 w a:=by
 obtain ⟨I,μ,i,e⟩:=Q9w h
 exact Wk I μ i fun x d w g=>f _ _ _ _ (e x d w g)
theorem T8 {a b:List Nat} {i:Nat} (h:a.contains i=true):(a++b).contains i=true:=by simp at h⊢;exact .inl h
theorem R6 {a b:List Nat} {i:Nat} (h:b.contains i=true):(a++b).contains i=true:=by simp at h⊢;exact .inr h
theorem Q4E (P:Program) (q:List (Option (List Nat))) (c:Code): ∀(k:Nat) (Q A:Hl) (W:List Nat) (m l:List Value) (w:World),
 (∀i,(O6 q k c).contains i=true→W.contains i=true)→Qs W m l→
 (∀e l w,Q e l w→Qs W m l→A e l w)→Db P q k c Q l w→Db P q k c A l w:=by
 induction c with
 | skip=>intro k Q A W m l w _ g j h;exact j _ _ _ h g
 | label n=>intro k Q A W m l w _ g j h;exact j _ _ _ h g
 | exit id=>intro k Q A W m l w _ g j h;exact j _ _ _ h g
 | ret=>intro k Q A W m l w _ g j h;exact j _ _ _ h g
 | goto n=>intro k Q A W m l w _ g j h;exact h.elim
 | refuse s=>intro k Q A W m l w _ g j h;exact h.elim
 | scope c=>intro k Q A W m l w _ g j h;exact h.elim
 | rangeFunc f p a b=>intro k Q A W m l w _ g j h;exact h.elim
 | region id ops M=>
  intro k Q A W m l w B g j h
  have O: ∀o∈ops.toList,∀d,o.dst=some d→W.contains d=true:=by
   intro o R d hd
   refine B d ?_
   simp only[O6,S3,List.contains_eq_mem,List.mem_filterMap,decide_eq_true_eq]
   exact ⟨o,R,hd⟩
  cases M with
  | false=>exact Uo P _ _ _ W m _ _ _ O g (fun l w U g=>j _ _ _ U g) h
  | true=>
   intro t
   refine Uo P _ _ _ W m _ _ _ ?_ g (fun l w U g=>j _ _ _ U g) (h t)
   intro o R
   simp only[List.mem_filterMap] at R
   obtain ⟨i,_,r⟩:=R
   exact O o (by simpa using Array.mem_of_getElem? r)
 | seq x y D E=>
  intro k Q A W m l w B g j h
  have X: ∀i,(O6 q (k+1) x).contains i=true→W.contains i=true:=fun i r=>B i (R6 (T8 r))
  have hy: ∀i,(O6 q (k+1+Qp x) y).contains i=true→W.contains i=true:=fun i r=>B i (R6 (R6 r))
  simp only[Db] at h⊢
  split at h
  ·refine D _ _ _ W m l w X g ?_ h
   intro e l' w' C u
   cases e with
   | normal=>exact E _ _ _ W m l' w' hy u j C
   | _=>exact j _ _ _ C u
  ·rename_i sl aa
   obtain ⟨J,L,N⟩:=Q5D h
   refine Jc J (D _ _ _ W m l w X g ?_ L) fun z d w hz=>?_
   ·intro e l' w' C u
    cases e with
    | normal=>exact C
    | _=>exact j _ _ _ C u
   ·refine E _ _ _ W m _ w hy (g.trans ⟨Ss _ _ _ _ _ _,fun i r=>?_⟩) j (N z d w hz)
    rw[Cx]
    have L:sl.contains i=false:=by
     cases H:sl.contains i with
     | false=>rfl
     | true=>rw[B i (T8 (by rw[aa];exact H))] at r;cases r
    have N:(O6 q (k+1) x).contains i=false:=by
     cases H:(O6 q (k+1) x).contains i with
     | false=>rfl
     | true=>rw[X i H] at r;cases r
    simp only[Nat.zero_add]
    cases hl:l[i]? with
    | none=>rfl
    | some v=>simp only[Option.map_some,Wd _ _ _ _ L,N,Bool.false_eq_true,if_false]
 | cond c x y D E=>
  intro k Q A W m l w B g j h
  exact Q4d (D k _ _ W m l w (fun i r=>B i (T8 r)) g j) (E _ _ _ W m l w (fun i r=>B i (R6 r)) g j) h
 | block id c V=>
  intro k Q A W m l w B g j h
  refine V k _ _ W m l w B g ?_ h
  intro e l' w' C u
  cases e with
  | exit af=>simp only[Q2T] at C⊢;split<;>rename_i Y<;>simp only[Y,if_true,if_false] at C<;>exact j _ _ _ C u
  | _=>exact j _ _ _ C u
 | loop c V=>
  intro k Q A W m l w B g j h
  refine Q4n (fun Z x d w hb=>?_) h
  refine V _ _ _ W m _ _ (fun i r=>B i (R6 r)) ?_ ?_ hb
  ·refine g.trans ⟨Ss _ _ _ _ _ _,fun i r=>?_⟩
   rw[Cx]
   have L:((q.getD k none).getD []).contains i=false:=by
    cases H:((q.getD k none).getD []).contains i with
    | false=>rfl
    | true=>rw[B i (T8 H)] at r;cases r
   have N:(O6 q (k+1) c).contains i=false:=by
    cases H:(O6 q (k+1) c).contains i with
    | false=>rfl
    | true=>rw[B i (R6 H)] at r;cases r
   simp only[Nat.zero_add]
   cases hl:l[i]? with
   | none=>rfl
   | some v=>simp only[Option.map_some,Wd _ _ _ _ L,N,Bool.false_eq_true,if_false]
  ·intro e l' w' C u
   cases e with
   | normal=>exact C
   | _=>exact j _ _ _ C u
theorem Q9V (P:Program) (g:List (Option (List Nat))) (c:Code): ∀(k:Nat) (Q:Hl) (a:Act) (w:World),
 a.defers=[]→Db P g k c Q a.tmps.toList w→c.wp P (lift Q) a w:=by
 induction c with
 | skip=>intro k Q a w j h;exact wp_skip ⟨j,h⟩
 | label n=>intro k Q a w j h;exact wp_label ⟨j,h⟩
 | exit id=>intro k Q a w j h;exact wp_exit ⟨j,h⟩
 | ret=>intro k Q a w j h;exact wp_ret ⟨j,h⟩
 | goto n=>intro k Q a w j h;exact h.elim
 | refuse s=>intro k Q a w j h;exact h.elim
 | scope c=>intro k Q a w j h;exact h.elim
 | rangeFunc f p a b=>intro k Q a w j h;exact h.elim
 | region id ops C=>
  intro k Q a w j h
  cases C with
  | false=>
   refine wp_region (Q0d P ops _ _ (fun a w j h=>⟨j,h⟩) _ (by simp) a w j ?_)
   rw[Ar];exact h
  | true=>
   refine wp_region_draw fun t=>?_
   exact Q0d P ops _ _ (fun a w j h=>⟨j,h⟩) _ (Q2f _ _ _) a _ j (h t)
 | seq x y r u=>
  intro k Q a w j h
  simp only[Db] at h
  split at h
  ·refine wp_seq (wp_mono (r _ _ a w j h) ?_)
   intro e o w' ⟨m,q⟩
   cases e with
   | normal=>exact u _ _ o w' m q
   | _=>exact ⟨m,q⟩
  ·rename_i Y ad
   obtain ⟨J,N,D⟩:=Q5D h
   have H:=Q4E P g x (k+1) _ (fun e l' w'=>thn (fun l' w'=>J (Df l' Y) w') Q e l' w'∧Qs (O6 g (k+1) x) a.tmps.toList l') (O6 g (k+1) x) a.tmps.toList a.tmps.toList w (fun _ h=>h) (Qs.refl _ _) (fun e l w h M=>⟨h,M⟩) N
   refine wp_seq (wp_mono (r (k+1) _ a w j H) ?_)
   intro e o w' ⟨m,q,B⟩
   cases e with
   | normal=>
    refine u (k+1+Qp x) _ o w' m ?_
    rw[Iz Y (O6 g (k+1) x) a.tmps.toList o.tmps.toList B.1 (fun i _ h=>B.2 i h)]
    exact D _ _ _ q
   | _=>exact ⟨m,q⟩
 | cond c x y r u=>
  intro k Q a w j h
  simp only[Db,Q5a,Q3s] at h
  split at h
  ·rename_i O
   exact wp_cond_true (by rw[Q3M];exact O) (r _ _ _ _ j h)
  ·rename_i O
   exact wp_cond_false (by rw[Q3M];exact O) (u _ _ _ _ j h)
  ·exact h.elim
 | block id c R=>
  intro k Q a w j h
  refine wp_block (wp_mono (R k _ a w j h) ?_)
  intro e o w' ⟨m,q⟩
  cases e with
  | exit aa=>
   simp only[Q2T,Exit.inBlock] at q⊢
   split<;>rename_i W<;>simp only[W,if_true,if_false] at q<;>exact ⟨m,q⟩
  | _=>exact ⟨m,q⟩
 | loop c R=>
  intro k Q a w j h
  obtain ⟨I,μ,h0,Z⟩:=Q9w h
  refine wp_loop (fun o w'=>o.defers=[]∧(∃d,o.tmps.toList=H7 ((g.getD k none).getD []) (O6 g (k+1) c) (Df o.tmps.toList ((g.getD k none).getD [])) d 0 a.tmps.toList)∧I (Df o.tmps.toList ((g.getD k none).getD [])) w') (fun o w'=>μ (Df o.tmps.toList ((g.getD k none).getD [])) w') ⟨j,⟨get a.tmps.toList,Iz _ _ _ _ rfl (fun _ _ _=>rfl)⟩,h0⟩ ?_
  intro A w1 ⟨X,⟨d1,v⟩,L⟩
  have V:=Z _ d1 w1 L
  dsimp only at V
  rw[←v] at V
  have U:=Q4E P g c (k+1) _ (fun e l' w'=>thn (fun l' w'=>I (Df l' ((g.getD k none).getD [])) w'∧μ (Df l' ((g.getD k none).getD [])) w'<μ (Df A.tmps.toList ((g.getD k none).getD [])) w1) Q e l' w'∧Qs (O6 g (k+1) c) A.tmps.toList l') (O6 g (k+1) c) A.tmps.toList A.tmps.toList w1 (fun _ h=>h) (Qs.refl _ _) (fun e l w h M=>⟨h,M⟩) V
  refine wp_mono (R _ _ A w1 X U) ?_
  intro e a2 w2 ⟨z,D,E⟩
  cases e with
  | normal=>
   refine ⟨⟨z,⟨get a2.tmps.toList,Iz _ _ _ _ ?_ ?_⟩,D.1⟩,D.2⟩
   ·rw[E.1,v,Ss]
   ·intro i N H
    rw[E.2 i H,v,Cx]
    simp only[Nat.zero_add,Wd _ _ _ _ N,H,Bool.false_eq_true,if_false,Option.map_id']
  | _=>exact ⟨z,D⟩
def Q8w:List Value→Nat→Value→(List Value→Prop)→Prop
 | [],_,_,k=>k []
 | _::l,0,v,k=>k (v::l)
 | x::l,n+1,v,k=>Q8w l n v (fun l'=>k (x::l'))
def Q3I (l:List Value) (d:Option Tmp) (v:Value) (k:List Value→Prop):Prop:=
 match d with
 | some d=>Q8w l d v k
 | none=>k l
def Q8K:List Value→Nat→(Value→Prop)→Prop
 | [],_,k=>k undef
 | x::_,0,k=>k x
 | _::l,n+1,k=>Q8K l n k
def evK (l:List Value) (o:Operand) (k:Value→Prop):Prop:=
 match o with
 | .tmp t=>Q8K l t k
 | .const v=>k v
 | .global g=>k (.pointer (some ⟨g,0,none⟩))
 | .func f=>k (.func (.func f) #[] #[])
def Q3o (i:Nat) (e:Value):(a:List Nat)→Tj a.length→(Value→Prop)→Prop
 | [],_,k=>k e
 | [s],x,k=>if s=i then k x else k e
 | s::t::r,x,k=>if s=i then k x.1 else Q3o i e (t::r) x.2 k
def Gq (a b:List Nat) (x:Tj a.length) (d:Nat→Value):Nat→List Value→(List Value→Prop)→Prop
 | _,[],k=>k []
 | i,v::l,k=>match b.contains i with
  | true=>Q3o i (d i) a x (fun u=>Gq a b x d (i+1) l (fun l'=>k (u::l')))
  | false=>Q3o i v a x (fun u=>Gq a b x d (i+1) l (fun l'=>k (u::l')))
theorem X2g (l:List Value): ∀(n:Nat) (v:Value) (k:List Value→Prop),Q8w l n v k=k (l.set n v):=by
 induction l with
 | nil=>intro n v k;rfl
 | cons x l a=>intro n v k;cases n with
  | zero=>rfl
  | succ n=>simp only[Q8w,a,List.set_cons_succ]
theorem Q7b (l:List Value) (d:Option Tmp) (v:Value) (k:List Value→Prop):Q3I l d v k=k (put l d v):=by
 cases d with
 | none=>rfl
 | some d=>exact X2g l d v k
theorem X2a (l:List Value): ∀(n:Nat) (k:Value→Prop),Q8K l n k=k (get l n):=by
 induction l with
 | nil=>intro n k;rfl
 | cons x l a=>intro n k;cases n with
  | zero=>rfl
  | succ n=>simp only[Q8K,a];rfl
theorem X3s (l:List Value) (o:Operand) (k:Value→Prop):evK l o k=k (ev l o):=by
 cases o with
 | tmp t=>exact X2a l t k
 | _=>rfl
theorem Q0p (i:Nat) (e:Value) (k:Value→Prop): ∀(a:List Nat) (x:Tj a.length),Q3o i e a x k=k (Rb i e a x)
 | [],_=>rfl
 | [s],x=>by
  by_cases h:s=i
  ·exact (if_pos h).trans (congrArg k (if_pos h).symm)
  ·exact (if_neg h).trans (congrArg k (if_neg h).symm)
 | s::t::r,x=>by
  by_cases h:s=i
  ·exact (if_pos h).trans (congrArg k (if_pos h).symm)
  ·exact ((if_neg h).trans (Q0p i e k (t::r) x.2)).trans (congrArg k (if_neg h).symm)
theorem Q4F (a b:List Nat) (x:Tj a.length) (d:Nat→Value) (l:List Value): ∀(i:Nat) (k:List Value→Prop),Gq a b x d i l k=k (H7 a b x d i l):=by
 induction l with
 | nil=>intro i k;rfl
 | cons v l c=>
  intro i k
  simp only[Gq,H7]
  split
  ·rename_i h;rw[Q0p,c,if_pos h]
  ·rename_i h;rw[Q0p,c,if_neg (by rw[h];simp)]
theorem Cy (b c a:List Nat) (h: ∀i,c.contains i=a.contains i) (x:Tj b.length) (d:Nat→Value) (l:List Value): ∀i,H7 b c x d i l=H7 b a x d i l:=by
 induction l with
 | nil=>intro i;rfl
 | cons v l e=>intro i;simp only[H7,e,h]
noncomputable def Qj (P:Program) (ops:List Oper) (next:List Value→World→Prop):List Oper→List Value→World→Prop
 | [],l,w=>next l w
 | o::a,l,w=>
  match o.guard with
  | none=>match o.op with
   | .move x=>evK l x fun v=>Q3I l o.dst v fun l=>Qj P ops next a l w
   | .assign x=>evK l x fun v=>Q3I l o.dst v fun l=>Qj P ops next a l w
   | _=>W8 P l o w (fun v w=>Q3I l o.dst v fun l=>Qj P ops next a l w)
  | some (j,b)=>match (ops[j]?).bind (·.dst) with
   | some d=>Q0 (get l d) b w (W8 P l o) (fun v w=>Q3I l o.dst v fun l=>Qj P ops next a l w)
   | none=>Q3I l o.dst undef fun l=>Qj P ops next a l w
theorem Kh (P:Program) (ops:List Oper) (next:List Value→World→Prop) (os:List Oper): ∀(l:List Value) (w:World),Qj P ops next os l w=Z5 P ops next os l w:=by
 induction os with
 | nil=>intro l w;rfl
 | cons o c a=>
  intro l w
  obtain ⟨dst,p,d,pos,e,g⟩:=o
  cases g with
  | none=>cases p<;>simp only[Qj,Z5,Q7b,X3s,a,W8]
  | some q=>obtain ⟨j,b⟩:=q;simp only[Qj,Z5,Q7b,a]
def Sj (T:World→World→Prop) (φ:Value→World→Prop):Prop:= ∀v w w',φ v w→T w w'→φ v w'
def dk (T:World→World→Prop) (φ:Value→World→Prop) (w:World):Value→World→Prop:=fun v w'=>T w w'∧φ v w'
def Q5u (T:World→World→Prop) (A:(Value→World→Prop)→Prop) (a:(Value→World→Prop)→Prop):Prop:=
 ∃φ,Sj T φ∧A φ∧a φ
theorem Q9I: ∃f:(World→World→Prop)→((Value→World→Prop)→Prop)→((Value→World→Prop)→Prop)→Prop,f=Q5u:=⟨_,rfl⟩
noncomputable def Q4:(World→World→Prop)→((Value→World→Prop)→Prop)→((Value→World→Prop)→Prop)→Prop:=Classical.choose Q9I
theorem Q9Z:Q4=Q5u:=Classical.choose_spec Q9I
def Q7Y (w:World) (A:(World→World→Prop)→(World→Prop)→Prop):Prop:= ∃T B,B w.drew∧(∀w w',B w→T w w'→B w')∧A T B
theorem X1o: ∃f:World→((World→World→Prop)→(World→Prop)→Prop)→Prop,f=Q7Y:=⟨_,rfl⟩
noncomputable def dr:World→((World→World→Prop)→(World→Prop)→Prop)→Prop:=Classical.choose X1o
theorem X1v:dr=Q7Y:=Classical.choose_spec X1o
theorem Pv {w:World} {A:(World→World→Prop)→(World→Prop)→Prop} (T:World→World→Prop) (B:World→Prop) (h:B w.drew) (a: ∀w w',B w→T w w'→B w') (b:A T B):dr w A:=by
 rw[X1v];exact ⟨T,B,h,a,b⟩
theorem H2 {T:World→World→Prop} {A a:(Value→World→Prop)→Prop} (φ:Value→World→Prop) (c:Sj T φ) (h:A φ) (b:a φ):Q4 T A a:=by
 rw[Q9Z];exact ⟨φ,c,h,b⟩
def Q3B (T:World→World→Prop) (A a:(List Value→Value→World→Prop)→Prop):Prop:=
 ∃φ,(∀xs,Sj T (φ xs))∧A φ∧a φ
theorem Q7h: ∃f:(World→World→Prop)→((List Value→Value→World→Prop)→Prop)→((List Value→Value→World→Prop)→Prop)→Prop,f=Q3B:=⟨_,rfl⟩
noncomputable def Sr:(World→World→Prop)→((List Value→Value→World→Prop)→Prop)→((List Value→Value→World→Prop)→Prop)→Prop:=Classical.choose Q7h
theorem Q7j:Sr=Q3B:=Classical.choose_spec Q7h
theorem Q3C {T:World→World→Prop} {A a:(List Value→Value→World→Prop)→Prop} (φ:List Value→Value→World→Prop) (c: ∀xs,Sj T (φ xs)) (h:A φ) (b:a φ):Sr T A a:=by
 rw[Q7j];exact ⟨φ,c,h,b⟩
noncomputable def runOp (P:Program) (ops:List Oper) (l:List Value) (o:Oper) (w:World) (K:Value→World→Prop):Prop:=
 match o.guard with
 | none=>W8 P l o w K
 | some (j,b)=>match (ops[j]?).bind (·.dst) with
  | some d=>Q0 (get l d) b w (W8 P l o) K
  | none=>False
inductive Ent where
  | val (v : Value)
  | ref (j : Nat)
def Ent.at (u:Nat→Value):Ent→Value
 | .val v=>v
 | .ref j=>u j
def Qf (u:Nat→Value) (S:List Ent):List Value:=S.map (Ent.at u)
def getE:List Ent→Nat→Ent
 | [],_=> .val undef
 | x::_,0=>x
 | _::l,n+1=>getE l n
def entOf (S:List Ent):Operand→Ent
 | .tmp t=>getE S t
 | .const v=> .val v
 | .global g=> .val (.pointer (some ⟨g,0,none⟩))
 | .func f=> .val (.func (.func f) #[] #[])
def mv (o:Oper):Option Operand:=
 match o.guard with
 | some _=>none
 | none=>match o.op with
  | .move x=>some x
  | .assign x=>some x
  | _=>none
def Q2x:List Ent→Nat→Ent→List Ent
 | [],_,_=>[]
 | _::l,0,e=>e::l
 | x::l,n+1,e=>x::Q2x l n e
def putE (S:List Ent) (d:Option Nat) (e:Ent):List Ent:=
 match d with
 | some d=>Q2x S d e
 | none=>S
def B9 (o:Oper):List Nat:=o.op.operands.toList.filterMap fun | .tmp t=>some t | _=>none
def R5 (ops:List Oper) (o:Oper):List Nat:=
 match o.guard with
 | none=>[]
 | some (j,_)=>match (ops[j]?).bind (·.dst) with | some d=>[d] | none=>[]
def Q1q:List Nat→List Nat
 | []=>[]
 | x::l=>x::(Q1q l).filter (fun y=> !(y==x))
def Q53:Ent→List Nat
 | .ref j=>[j]
 | .val _=>[]
def Q1M (S:List Ent):List Nat→List Nat
 | []=>[]
 | s::l=>Q53 (getE S s)++Q1M S l
def refs (ops:List Oper) (S:List Ent) (o:Oper):List Nat:=Q1q (Q1M S (R5 ops o++B9 o))
def Pt:List Nat→(Nat→Value)→((Nat→Value)→Prop)→Prop
 | [],u,k=>k u
 | j::a,u,k=> ∀t:Value,Pt a (fun n=>if n=j then t else u n) k
abbrev Sc:=List (Nat×List Nat×(List Value→Value→World→Prop))
def Vf:Sc→Nat→Option (List Nat×(List Value→Value→World→Prop))
 | [],_=>none
 | (i,φ)::l,j=>if i=j then some φ else Vf l j
def Kp (b:Sc) (u:Nat→Value) (w:World) (a:Prop):List Nat→Prop
 | []=>a
 | j::c=>match Vf b j with
  | some ([],φ)=>φ [] (u j) w→Kp b u w a c
  | _=>Kp b u w a c
def Q1r (b:Sc) (u:Nat→Value) (w:World) (a:Prop):List Nat→Prop
 | []=>a
 | j::c=>match Vf b j with
  | some (R,φ)=>φ (R.map u) (u j) w→Q1r b u w a c
  | none=>Q1r b u w a c
def Q8o (o:Oper):Bool:=match o.op with | .store .. =>true | _=>false
noncomputable def chain (P:Program) (ops:List Oper) (T:World→World→Prop) (B:World→Prop) (W6:List Value→World→Prop) (tail:List Oper):Nat→List Oper→List Ent→Sc→List Nat→Prop
 | _,[],S,b,done=>Pt done (fun _=>undef) fun u=> ∀w,B w→Q1r b u w (Qj P ops W6 tail (Qf u S) w) done
 | i,o::a,S,b,done=>
  match mv o with
  | some x=>chain P ops T B W6 tail (i+1) a (putE S o.dst (entOf S x)) b done
  | none=>match Q8o o with
   | true=>Sr T (fun φ=>Pt (refs ops S o) (fun _=>undef) fun u=> ∀w,B w→Kp b u w (runOp P ops (Qf u S) o w (dk T (φ ((refs ops S o).map u)) w)) (refs ops S o))
    (fun φ=>chain P ops T B W6 tail (i+1) a (putE S o.dst (.ref i)) (b++[(i,refs ops S o,φ)]) (done++[i]))
   | false=>Q4 T (fun φ=>Pt (refs ops S o) (fun _=>undef) fun u=> ∀w,B w→Kp b u w (runOp P ops (Qf u S) o w (dk T φ w)) (refs ops S o))
    (fun φ=>chain P ops T B W6 tail (i+1) a (putE S o.dst (.ref i)) (b++[(i,[],fun _=>φ)]) (done++[i]))
def Xr:Op→Bool
 | .ready _ | .waits _ | .sliceToArrayPointer .. | .makeChan .. | .typeAssert .. | .go _ | .defer _ | .send .. | .recv .. | .select .. =>false
 | .call c=>match c.callee with | .invoke .. =>false | _=>true
 | _=>true
theorem Bj {l l':List Value} {x:Option Operand} (h: ∀y∈x.toArray,ev l y=ev l' y):evo l x=evo l' x:=by
 cases x with
 | none=>rfl
 | some y=>simp only[evo];rw[h y (by simp)]
theorem Q0E {l l':List Value} {xs:Array Operand} (h: ∀y∈xs,ev l y=ev l' y):evs l xs=evs l' xs:=by
 unfold evs;exact List.map_congr_left fun y a=>h y (by simpa using a)
theorem Q4m {l l':List Value} {xs:Array (Nat×Operand)} (h: ∀y∈(xs.toList.map (·.2)).toArray,ev l y=ev l' y):evp l xs=evp l' xs:=by
 unfold evp
 refine List.map_congr_left fun y a=>?_
 rw[h y.2 (by simp;exact ⟨y.1,by simpa using a⟩)]
theorem Ea {P:Program} {l l':List Value} {o:Oper} (k:Xr o.op=true) (h: ∀x∈o.op.operands,ev l x=ev l' x):W8 P l o=W8 P l' o:=by
 obtain ⟨d,p,B,pos,D,g⟩:=o
 funext w K
 cases p with
 | call c=>
  obtain ⟨j,i,C⟩:=c
  have q:evs l i=evs l' i:=Q0E fun y e=>h y (by simp[Op.operands,Call.operands];exact .inr e)
  cases j with
  | invoke r m=>simp[Xr] at k
  | builtin b=>simp only[W8,Dy,q]
  | value f=>
   have z:ev l f=ev l' f:=h f (by simp[Op.operands,Call.operands])
   cases f<;>simp only[W8,Dy,q,z]
 | build t s=>simp only[W8];rw[Q4m h]
 | buildSlice t n s=>simp only[W8];rw[Q4m h]
 | makeFunc f a b=>
  simp only[W8]
  rw[Q0E (xs:=a) fun y e=>h y (by simp[Op.operands];exact .inl e),Q0E (xs:=b) fun y e=>h y (by simp[Op.operands];exact .inr e)]
 | makeMap t r=>simp only[W8];rw[Bj h]
 | slice t x u v A=>
  simp only[W8]
  rw[h x (by simp[Op.operands]),Bj (x:=u) fun y e=>h y (by simp[Op.operands] at e⊢;simp[e]),Bj (x:=v) fun y e=>h y (by simp[Op.operands] at e⊢;simp[e]),Bj (x:=A) fun y e=>h y (by simp[Op.operands] at e⊢;simp[e])]
 | _=>first
  | (simp[Xr] at k;done)
  | (simp only[Op.operands,List.mem_toArray,List.mem_cons,List.not_mem_nil,or_false,forall_eq_or_imp,forall_eq] at h;simp only[W8,h];done)
  | rfl
def Q0D:List Oper→List Nat→List Nat
 | [],acc=>acc
 | o::a,acc=>Q0D a (acc++[(o.after.toList.filter (Region.binds .any)).foldl (fun s e=>s ||| 2 ^ e.on ||| acc.getD e.on 0) 0])
def Qv (a b:Oper):Bool:=
 match a.dst with
 | some d=>(B9 b).contains d||b.dst==some d
 | none=>false
def Q7q (a:List Nat) (ops:List Oper):Bool:=
 ops.zipIdx.all fun (o,j)=>ops.zipIdx.all fun (q,i)=> !(decide (i<j))|| !(Qv q o||Qv o q)||(a.getD j 0).testBit i
def Lu (ops:List Oper):Bool:=
 ops.zipIdx.all fun (o,i)=>Xr o.op&&(o.after.toList.filter (Region.binds .any)).all (fun e=>decide (e.on<i))&&
  match o.guard with | none=>true | some (j,_)=>(o.after.toList.filter (Region.binds .any)).any (fun e=>e.on==j)
def Q51 (m:Region.Mode) (ops:List Oper):List Nat→List Nat→Bool
 | [],_=>true
 | j::L,seen=>((ops[j]?.map fun o=>o.after.toList).getD []).all (fun e=> !Region.binds m e||seen.contains e.on)&&Q51 m ops L (j::seen)
def Zp (m:Region.Mode) (ops:List Oper) (L:List Nat):Bool:=
 Q51 m ops L []&&(List.range ops.length).all (L.contains ·)&&ops.all (fun o=>o.after.toList.all fun e=> !Region.binds m e||decide (e.on<ops.length))
def X3h (m:Region.Mode) (ops:List Oper):Nat→List Nat→List Nat→List Nat
 | 0,_,seen=>seen.reverse
 | n+1,a,seen=>
  match a.find? (fun j=>((ops[j]?.map fun o=>o.after.toList).getD []).all (fun e=> !Region.binds m e||seen.contains e.on)) with
  | some j=>X3h m ops n (a.erase j) (j::seen)
  | none=>seen.reverse
def Uc:List Nat→Bool
 | []=>true
 | x::l=> !l.contains x&&Uc l
def A6 (ops:List Oper) (j:Nat):List Nat:=(ops[j]?.map fun o=>(o.after.toList.filter (Region.binds .any)).map (·.on)).getD []
def Sg (ops:List Oper) (L:List Nat):Prop:= ∀b j a,L=b++j::a→ ∀i∈A6 ops j,i∈b
theorem Q5J (f:Edge→Nat) (l:List Edge): ∀(s i:Nat),(l.foldl (fun s e=>s ||| 2 ^ e.on ||| f e) s).testBit i=true→
 s.testBit i=true∨ ∃e∈l,e.on=i∨(f e).testBit i=true:=by
 induction l with
 | nil=>intro s i h;exact .inl h
 | cons e l b=>
  intro s i h
  rcases b _ _ h with h | ⟨a,c,h⟩
  ·simp only[Nat.testBit_or,Bool.or_eq_true] at h
   rcases h with (h | h) | h
   ·exact .inl h
   ·rw[Nat.testBit_two_pow] at h
    exact .inr ⟨e,by simp, .inl (by simpa using h)⟩
   ·exact .inr ⟨e,by simp, .inr h⟩
  ·exact .inr ⟨a,by simp[c],h⟩
theorem Q4f (a:List Oper): ∀(b:List Oper) (acc:List Nat),acc.length+b.length=a.length→(∀k,acc.length≤k→a[k]? =b[k-acc.length]?)→
 (∀j i,j<acc.length→(acc.getD j 0).testBit i=true→ ∃k∈A6 a j,k=i∨(k<j∧(acc.getD k 0).testBit i=true))→
 (∀j,j<a.length→ ∀k∈A6 a j,k<j)→
 ∀j i,j<a.length→((Q0D b acc).getD j 0).testBit i=true→ ∃k∈A6 a j,k=i∨(k<j∧((Q0D b acc).getD k 0).testBit i=true)
 | [],acc,q,_,c,_=>by
  intro j i t h
  exact c j i (by simp at q;omega) h
 | o::b,acc,q,f,c,p=>by
  have y:a[acc.length]? =some o:=by rw[f _ (Nat.le_refl _)];simp
  refine Q4f a b _ (by simp at q⊢;omega) ?_ ?_ p
  ·intro k l
   simp only[List.length_append,List.length_cons,List.length_nil] at l⊢
   rw[f k (by omega)]
   obtain ⟨m,v⟩: ∃m,k-acc.length=m+1:=⟨k-acc.length-1,by omega⟩
   rw[v,List.getElem?_cons_succ]
   congr 1;omega
  ·intro j i t h
   simp only[List.length_append,List.length_cons,List.length_nil] at t
   have d: ∀k,k<acc.length→(acc++[(o.after.toList.filter (Region.binds .any)).foldl (fun s e=>s ||| 2 ^ e.on ||| acc.getD e.on 0) 0]).getD k 0=acc.getD k 0:=by
    intro k l
    simp only[List.getD_eq_getElem?_getD]
    rw[List.getElem?_append_left l]
   by_cases n:j<acc.length
   ·rw[d j n] at h
    obtain ⟨k,l,h⟩:=c j i n h
    exact ⟨k,l,h.imp id fun ⟨u,w⟩=>⟨u,by rw[d k (by omega)];exact w⟩⟩
   ·have r:j=acc.length:=by omega
    subst r
    simp only[List.getD_eq_getElem?_getD,List.getElem?_append_right (Nat.le_refl _),Nat.sub_self,List.getElem?_cons_zero,Option.getD_some] at h
    rcases Q5J (fun e=>acc.getD e.on 0) _ _ _ (by simpa only[List.getD_eq_getElem?_getD] using h) with h | ⟨e,z,h⟩
    ·simp at h
    ·have g:e.on∈A6 a acc.length:=by
      unfold A6;rw[y];simp only[Option.map_some,Option.getD_some,List.mem_map];exact ⟨e,z,rfl⟩
     refine ⟨e.on,g,h.imp id fun h=>?_⟩
     have l:=p acc.length (by simp at q;omega) _ g
     exact ⟨l,by rw[d _ l];exact h⟩
theorem Ir {ops:List Oper} (h:Lu ops=true): ∀j,j<ops.length→ ∀k∈A6 ops j,k<j:=by
 intro j b k a
 simp only[Lu,List.all_eq_true,Bool.and_eq_true] at h
 unfold A6 at a
 rw[List.getElem?_eq_getElem b] at a
 simp only[Option.map_some,Option.getD_some,List.mem_map] at a
 obtain ⟨e,c,rfl⟩:=a
 have:=(h (ops[j],j) (by rw[List.mem_zipIdx_iff_getElem?];simp[b])).1.2 e c
 simpa using this
theorem Q5t {ops:List Oper} (q:Lu ops=true) {L:List Nat} (g:Sg ops L): ∀(j:Nat),j<ops.length→ ∀i b a,L=b++j::a→((Q0D ops []).getD j 0).testBit i=true→i∈b:=by
 intro j
 induction j using Nat.strongRecOn with
 | _ j n=>
  intro d i b a f o
  obtain ⟨k,m,h⟩:=Q4f ops ops [] (by simp) (by simp) (by intro j i d;simp at d) (Ir q) j i d o
  have c:=g b j a f k m
  rcases h with rfl | ⟨e,h⟩
  ·exact c
  ·obtain ⟨p,l,rfl⟩:=List.append_of_mem c
   have:=n k e (by omega) i p (l++j::a) (by rw[f];simp) h
   exact List.mem_append_left _ this
theorem Wx: ∀(n:Nat) (a:List Nat),(∀k,k<n→k∈a)→n≤a.length
 | 0,_,_=>Nat.zero_le _
 | n+1,a,h=>by
  have b:=Wx n (a.erase n) fun k d=>(List.mem_erase_of_ne (by omega)).2 (h k (by omega))
  have e:=List.length_erase_of_mem (h n (by omega))
  have c:=List.length_pos_of_mem (h n (by omega))
  omega
theorem G4: ∀(n:Nat) (l:List Nat),l.Nodup→(∀k∈l,k<n)→l.length≤n
 | 0,l,_,h=>by
  cases l with
  | nil=>simp
  | cons x l=>exact absurd (h x (by simp)) (by omega)
 | n+1,l,b,h=>by
  by_cases c:n∈l
  ·have g:=G4 n (l.erase n) (b.erase n) fun k a=>by
    have f:=h k (List.mem_of_mem_erase a)
    have d:k≠n:=fun e=>by subst e;exact (List.Nodup.not_mem_erase b) a
    omega
   have f:=List.length_erase_of_mem c
   have d:=List.length_pos_of_mem c
   omega
  ·have:=G4 n l b fun k a=>by
    have f:=h k a
    have d:k≠n:=fun e=>by subst e;exact c a
    omega
   omega
theorem Q9B {m:Region.Mode} {e:Edge} (h:Region.binds .any e=true):Region.binds m e=true:=by
 unfold Region.binds at h⊢
 cases a:e.ground<;>rw[a] at h<;>first | rfl | (exact absurd h (by simp<;>rfl)) | (simp at h;cases h)
theorem Q8f {m:Region.Mode} {ops:List Oper} {L:List Nat} (h:Zp m ops L=true) (k:Nat) (a:k<ops.length): ∀e∈(ops[k]?.map fun o=>o.after.toList).getD [],Region.binds m e=true→e.on<ops.length:=by
 intro e b c
 simp only[Zp,Bool.and_eq_true,List.all_eq_true] at h
 rw[List.getElem?_eq_getElem a] at b
 have:=h.2 ops[k] (List.getElem_mem a) e (by simpa using b)
 rw[c] at this
 simpa using this
theorem Q5B {m:Region.Mode} {ops:List Oper} {L:List Nat} (h:Zp m ops L=true): ∀k,k<ops.length→k∈L:=by
 intro k a
 simp only[Zp,Bool.and_eq_true,List.all_eq_true] at h
 simpa using h.1.2 k (by simpa using a)
theorem Q7M (m:Region.Mode) (ops:Array Oper) (R:Lu ops.toList=true) (Z:List Nat) (O:Zp m ops.toList Z=true): ∀(fuel t:Nat) (listed:Array Bool) (a:List Nat),
 fuel+a.length=ops.size→listed.size=ops.size→(∀i,i<ops.size→(listed.getD i true=true↔i∈a))→a.Nodup→(∀i∈a,i<ops.size)→Sg ops.toList a.reverse→
 (Region.linearise.go m ops fuel t listed a).Nodup∧(Region.linearise.go m ops fuel t listed a).length=ops.size∧Sg ops.toList (Region.linearise.go m ops fuel t listed a)
 | 0,t,listed,a,hf,_,_,Y,_,V=>by
  simp only[Region.linearise.go]
  exact ⟨List.pairwise_reverse.2 (Y.imp fun h=>Ne.symm h),by simp;omega,V⟩
 | fuel+1,t,listed,a,hf,s,v,Y,B,V=>by
  -- one that isn't listed may come
  have ae: ∃k,k<ops.size∧k∉a:=by
   refine Classical.byContradiction fun ac=>?_
   have J: ∀k,k<ops.size→k∈a:=fun k hk=>Classical.byContradiction fun h=>ac ⟨k,hk,h⟩
   have:=Wx ops.size a J
   omega
  simp only[Region.linearise.go]
  split
  ·rename_i i hi
   have l:=List.mem_of_getElem? hi
   simp only[List.mem_filter,List.mem_range,Bool.and_eq_true,Bool.not_eq_true'] at l
   obtain ⟨d,C,p⟩:=l
   have z:i∉a:=fun h=>by rw[(v i d).2 h] at C;cases C
   refine Q7M m ops R Z O fuel _ _ _ (by simp;omega) (by simp[s]) ?_ (List.nodup_cons.2 ⟨z,Y⟩) ?_ ?_
   ·intro j hj
    by_cases r:i=j
    ·subst r;simp[Array.getD,s,d]
    ·have:(listed.setIfInBounds i true).getD j true=listed.getD j true:=by
      simp only[Array.getD_eq_getD_getElem?]
      rw[Array.getElem?_setIfInBounds_ne r]
     rw[this,v j hj]
     simp[Ne.symm r]
   ·intro j hj
    rcases List.mem_cons.1 hj with rfl | hj
    ·exact d
    ·exact B j hj
   ·rw[List.reverse_cons]
    intro aa j y hL k hk
    rcases List.eq_nil_or_concat y with rfl | ⟨q,x,rfl⟩
    ·have hh:=List.append_inj' hL rfl
     obtain ⟨h1,h2⟩:=hh
     simp only[List.cons.injEq,and_true] at h2
     subst h2;subst h1
     have ad:=hk
     unfold A6 at hk
     rw[show ops.toList[i]? =some ops[i] by simp[d]] at hk
     simp only[Option.map_some,Option.getD_some,List.mem_map,List.mem_filter] at hk
     obtain ⟨e,⟨g,U⟩,rfl⟩:=hk
     rw[show ops[i]? =some ops[i] by simp[d]] at p
     simp only[Option.map_some,Option.getD_some,Array.all_eq_true'] at p
     have h4:=p e (by simpa using g)
     simp only[Bool.or_eq_true,Bool.not_eq_true'] at h4
     rcases h4 with h4 | h4
     ·rw[Q9B U] at h4;cases h4
     ·have an:=Ir R i (by simpa using d) e.on ad
      have:listed.getD e.on true=true:=by
       simp only[Array.getD_eq_getD_getElem?] at h4⊢
       rw[Array.getElem?_eq_getElem (by omega)] at h4⊢
       simpa using h4
      simpa using (v e.on (by omega)).1 this
    ·rw[List.concat_eq_append,←List.cons_append,←List.append_assoc] at hL
     have hh:=List.append_inj' hL rfl
     exact V aa j q hh.1 k hk
  ·rename_i n
   exfalso
   obtain ⟨k0,E,A⟩:=ae
   have w:=O
   simp only[Zp,Bool.and_eq_true] at w
   -- every number of L0 that is none of an operation's has no edges: it may stand there, but isn't looked at
   have f: ∃k,k<ops.size∧k∉a∧ ∀e∈(ops.toList[k]?.map fun o=>o.after.toList).getD [],Region.binds m e=true→e.on∈a∨ops.size≤e.on:=by
    -- the first of L0 that is an operation's number and isn't listed
    have key: ∀(L b:List Nat),Q51 m ops.toList L b=true→(∀k∈b,k∈a∨ops.size≤k)→(∃k∈L,k<ops.size∧k∉a)→
     ∃k,k<ops.size∧k∉a∧ ∀e∈(ops.toList[k]?.map fun o=>o.after.toList).getD [],Region.binds m e=true→e.on∈a∨ops.size≤e.on:=by
     intro L
     induction L with
     | nil=>rintro b _ _ ⟨k,hk,_⟩;simp at hk
     | cons j L ih=>
      rintro b h hs ⟨k,hk,W,H⟩
      simp only[Q51,Bool.and_eq_true,List.all_eq_true] at h
      by_cases hj:j∈a∨ops.size≤j
      ·refine ih (j::b) h.2 (fun x hx=>by rcases List.mem_cons.1 hx with rfl | hx;exact hj;exact hs x hx) ⟨k,?_,W,H⟩
       rcases List.mem_cons.1 hk with rfl | hk
       ·rcases hj with hj | hj
        ·exact absurd hj H
        ·omega
       ·exact hk
      ·have X:j<ops.size:=by
        refine Nat.lt_of_not_le fun h=>hj (.inr h)
       refine ⟨j,X,fun h=>hj (.inl h),fun e R Q=>?_⟩
       have:=h.1 e R
       rw[Q] at this
       exact hs _ (by simpa using this)
    exact key Z [] w.1.1 (by simp) ⟨k0,Q5B O k0 (by simpa using E),E,A⟩
   obtain ⟨k,c,ab,M⟩:=f
   by_cases N:k∈(List.range ops.size).filter fun i=> !listed.getD i true&&((ops[i]?).map (·.after.all fun e=> !Region.binds m e||listed.getD e.on false)).getD false
   ·have u:=List.length_pos_of_mem N
    have:=List.getElem?_eq_none_iff.1 n
    have:=Nat.mod_lt t u
    omega
   ·refine N ?_
    simp only[List.mem_filter,List.mem_range,Bool.and_eq_true,Bool.not_eq_true']
    refine ⟨c,?_,?_⟩
    ·cases hc:listed.getD k true with
     | false=>rfl
     | true=>exact absurd ((v k c).1 hc) ab
    ·rw[show ops[k]? =some ops[k] by simp[c]]
     simp only[Option.map_some,Option.getD_some,Array.all_eq_true']
     intro e g
     simp only[Bool.or_eq_true,Bool.not_eq_true']
     cases Q:Region.binds m e with
     | false=>exact .inl rfl
     | true=>
      right
      rw[show ops.toList[k]? =some ops[k] by simp[c]] at M
      rcases M e (by simpa using g) Q with h | h
      ·have D:=B _ h
       have:=(v e.on D).2 h
       simp only[Array.getD_eq_getD_getElem?] at this⊢
       rw[Array.getElem?_eq_getElem (by omega)] at this⊢
       simpa using this
      ·exact absurd h (by
        have:=Q8f O k (by simpa using c) e (by rw[show ops.toList[k]? =some ops[k] by simp[c]];simpa using g) Q
        simp at this;omega)
theorem Q4M (b:Bool) (ops:Array Oper) (t:Nat) (f:Lu ops.toList=true) (g: ∀m,∃L,Zp m ops.toList L=true):
 (Region.schedule b ops t).Nodup∧(Region.schedule b ops t).length=ops.size∧Sg ops.toList (Region.schedule b ops t):=by
 have key: ∀m t,(Region.linearise m ops t).Nodup∧(Region.linearise m ops t).length=ops.size∧Sg ops.toList (Region.linearise m ops t):=by
  intro m t
  obtain ⟨L,d⟩:=g m
  refine Q7M m ops f L d _ _ _ _ (by simp) (by simp) ?_ List.nodup_nil (by simp) ?_
  ·intro i e;simp[Array.getD,e]
  ·intro c j a h;simp at h
 unfold Region.schedule
 split<;>exact key _ _
theorem Yv: ∀(ops:List Oper),Uc (S3 ops)=true→ ∀(i j:Nat) (a b:Oper) (d:Nat),ops[i]? =some a→ops[j]? =some b→a.dst=some d→b.dst=some d→i=j
 | [],_,i,j,a,b,d,h,_,_,_=>by simp at h
 | o::c,g,i,j,a,b,d,n,m,r,p=>by
  have f: ∀(k:Nat) (q:Oper),c[k]? =some q→q.dst=some d→d∈S3 c:=by
   intro k q s u
   simp only[S3,List.mem_filterMap]
   exact ⟨q,List.mem_of_getElem? s,u⟩
  have l:Uc (S3 c)=true:=by
   simp only[S3,List.filterMap_cons] at g
   split at g
   ·exact g
   ·simp only[Uc,Bool.and_eq_true] at g;exact g.2
  have e:o.dst=some d→d∉S3 c:=by
   intro v
   simp only[S3,List.filterMap_cons,v,Uc,Bool.and_eq_true,Bool.not_eq_true'] at g
   intro t
   have:=g.1
   simp only[List.contains_eq_mem,decide_eq_false_iff_not] at this
   exact this t
  cases i with
  | zero=>
   simp only[List.getElem?_cons_zero,Option.some.injEq] at n
   subst n
   cases j with
   | zero=>rfl
   | succ j=>exact absurd (f j b (by simpa using m) p) (e r)
  | succ i=>
   cases j with
   | zero=>
    simp only[List.getElem?_cons_zero,Option.some.injEq] at m
    subst m
    exact absurd (f i a (by simpa using n) r) (e p)
   | succ j=>rw[Yv c l i j a b d (by simpa using n) (by simpa using m) r p]
theorem Ko (u:Nat→Value): ∀(S:List Ent) (s:Nat),get (Qf u S) s=(getE S s).at u
 | [],s=>by simp[Qf,get,getE,Ent.at]
 | e::S,0=>rfl
 | e::S,s+1=>Ko u S s
theorem Gy: ∀(S:List Ent) (s:Nat),getE S s=(S[s]?).getD (.val undef)
 | [],s=>by simp[getE]
 | e::S,0=>rfl
 | e::S,s+1=>by simp only[getE,List.getElem?_cons_succ];exact Gy S s
theorem Q1o: ∀(S:List Ent) (n:Nat) (e:Ent),Q2x S n e=S.set n e
 | [],n,e=>by simp[Q2x]
 | x::S,0,e=>rfl
 | x::S,n+1,e=>by simp only[Q2x,List.set_cons_succ,Q1o S n e]
theorem Q4y {x:Nat}: ∀{l:List Nat},x∈l→x∈Q1q l
 | y::l,h=>by
  simp only[Q1q,List.mem_cons,List.mem_filter]
  by_cases e:x=y
  ·exact .inl e
  ·exact .inr ⟨Q4y ((List.mem_cons.1 h).resolve_left e),by simpa using e⟩
theorem Cz {x:Nat}: ∀{l:List Nat},x∈Q1q l→x∈l
 | y::l,h=>by
  simp only[Q1q,List.mem_cons,List.mem_filter] at h⊢
  exact h.imp id fun h=>Cz h.1
theorem Q4c {S:List Ent} {j:Nat}: ∀{l:List Nat} {s:Nat},s∈l→getE S s= .ref j→j∈Q1M S l
 | x::l,s,h,e=>by
  simp only[Q1M,List.mem_append]
  rcases List.mem_cons.1 h with rfl | h
  ·left;rw[e];simp[Q53]
  ·right;exact Q4c h e
theorem Bk {S:List Ent} {j:Nat}: ∀{l:List Nat},j∈Q1M S l→ ∃s∈l,getE S s= .ref j
 | x::l,h=>by
  simp only[Q1M,List.mem_append] at h
  rcases h with h | h
  ·refine ⟨x,by simp,?_⟩
   cases a:getE S x with
   | val v=>rw[a] at h;simp[Q53] at h
   | ref k=>rw[a] at h;simp[Q53] at h;rw[h]
  ·obtain ⟨s,b,e⟩:=Bk h
   exact ⟨s,by simp[b],e⟩
theorem Q2G: ∀(a:List Nat) (b u:Nat→Value) (k:(Nat→Value)→Prop),Pt a b k→ ∃c,k c∧ ∀x,(x∈a→c x=u x)∧(x∉a→c x=b x)
 | [],b,u,k,h=>⟨b,h,fun x=>⟨fun h=>by simp at h,fun _=>rfl⟩⟩
 | j::a,b,u,k,h=>by
  obtain ⟨c,g,f⟩:=Q2G a _ u k (h (u j))
  refine ⟨c,g,fun x=>⟨fun hx=>?_,fun hx=>?_⟩⟩
  ·by_cases d:x∈a
   ·exact (f x).1 d
   ·rw[(f x).2 d]
    rcases List.mem_cons.1 hx with rfl | hx
    ·simp
    ·exact absurd hx d
  ·rw[(f x).2 (fun h=>hx (List.mem_cons_of_mem _ h))]
   have:x≠j:=fun e=>hx (by simp[e])
   simp[this]
theorem Q2L {e:Sc} {u:Nat→Value} {w:World} {a:Prop}: ∀{c:List Nat},Kp e u w a c→(∀j∈c,∀φ,Vf e j=some ([],φ)→φ [] (u j) w)→a
 | [],h,_=>h
 | j::c,h,d=>by
  simp only[Kp] at h
  split at h
  ·rename_i φ f
   exact Q2L (h (d j (by simp) φ f)) fun k b=>d k (by simp[b])
  ·exact Q2L h fun k b=>d k (by simp[b])
theorem Q12 {e:Sc} {u:Nat→Value} {w:World} {a:Prop}: ∀{c:List Nat},Q1r e u w a c→(∀j∈c,∀R φ,Vf e j=some (R,φ)→φ (R.map u) (u j) w)→a
 | [],h,_=>h
 | j::c,h,d=>by
  simp only[Q1r] at h
  split at h
  ·rename_i R φ f
   exact Q12 (h (d j (by simp) R φ f)) fun k b=>d k (by simp[b])
  ·exact Q12 h fun k b=>d k (by simp[b])
theorem Te {a:Sc} {i j:Nat} {φ:List Nat×(List Value→Value→World→Prop)} (h:i≠j):Vf (a++[(i,φ)]) j=Vf a j:=by
 induction a with
 | nil=>simp[Vf,h]
 | cons p a b=>obtain ⟨k,ψ⟩:=p;simp only[List.cons_append,Vf,b]
theorem Nc {a:Sc} {i:Nat} {φ:List Nat×(List Value→Value→World→Prop)} (h:Vf a i=none):Vf (a++[(i,φ)]) i=some φ:=by
 induction a with
 | nil=>simp[Vf]
 | cons p a c=>
  obtain ⟨k,ψ⟩:=p
  simp only[Vf] at h
  split at h
  ·cases h
  ·rename_i b;simp only[List.cons_append,Vf,b,if_false];exact c h
def Cf (S:List Ent) (i:Nat) (o:Oper):Ent:=match mv o with | some x=>entOf S x | none=> .ref i
def O7 (S:List Ent):Nat→List Oper→List Ent
 | _,[]=>S
 | i,o::a=>O7 (putE S o.dst (Cf S i o)) (i+1) a
theorem Q4h: ∀(a:List Oper) (S:List Ent) (i k:Nat) (o:Oper),a[k]? =some o→
 O7 S i (a.take (k+1))=putE (O7 S i (a.take k)) o.dst (Cf (O7 S i (a.take k)) (i+k) o)
 | [],_,_,_,_,h=>by simp at h
 | x::a,S,i,0,o,h=>by
  simp only[List.getElem?_cons_zero,Option.some.injEq] at h
  subst h
  simp[O7]
 | x::a,S,i,k+1,o,h=>by
  simp only[List.getElem?_cons_succ] at h
  have:=Q4h a (putE S x.dst (Cf S i x)) (i+1) k o h
  simp only[List.take_succ_cons,O7]
  rw[this,show i+1+k=i+(k+1) from by omega]
def Zi (S:List Ent) (D:List Nat):Prop:= ∀e∈S,∀j,e= .ref j→j∈D
theorem Zi.getE {S:List Ent} {D:List Nat} (h:Zi S D) {s j:Nat} (e:Go.Emb.getE S s= .ref j):j∈D:=by
 rw[Gy] at e
 cases a:S[s]? with
 | none=>rw[a] at e;cases e
 | some x=>rw[a] at e;exact h x (List.mem_of_getElem? a) j e
theorem Zi.putE {S:List Ent} {D:List Nat} (h:Zi S D) (d:Option Nat) {e:Ent} (c: ∀j,e= .ref j→j∈D):Zi (Go.Emb.putE S d e) D:=by
 cases d with
 | none=>exact h
 | some d=>
  intro x a j b
  simp only[Go.Emb.putE,Q1o] at a
  rcases List.mem_or_eq_of_mem_set a with a | rfl
  ·exact h x a j b
  ·exact c j b
theorem Zi.mono {S:List Ent} {D D':List Nat} (h:Zi S D) (b: ∀j∈D,j∈D'):Zi S D':=fun e c j a=>b j (h e c j a)
theorem Zi.entOf {S:List Ent} {D:List Nat} (h:Zi S D) (x:Operand) {j:Nat} (e:Go.Emb.entOf S x= .ref j):j∈D:=by
 cases x with
 | tmp t=>exact h.getE e
 | _=>cases e
theorem Q8q {S:List Ent} {D:List Nat} (h:Zi S D) {u a:Nat→Value} (c: ∀j∈D,a j=u j):Qf a S=Qf u S:=by
 unfold Qf
 refine List.map_congr_left fun e b=>?_
 cases e with
 | val v=>rfl
 | ref j=>exact c j (h _ b j rfl)
theorem Q2d {P:Program} {ops:List Oper} {l l':List Value} {o:Oper} (c:Xr o.op=true) (h: ∀s∈R5 ops o++B9 o,get l s=get l' s):runOp P ops l o=runOp P ops l' o:=by
 funext w K
 unfold runOp
 rw[Ea c fun x e=>by
  cases x with
  | tmp s=>exact h s (List.mem_append_right _ (by simp only[B9,List.mem_filterMap];exact ⟨.tmp s,by simpa using e,rfl⟩))
  | _=>rfl]
 cases a:o.guard with
 | none=>rfl
 | some q=>
  obtain ⟨j,b⟩:=q
  simp only
  cases f:(ops[j]?).bind (·.dst) with
  | none=>rfl
  | some d=>simp only;rw[h d (List.mem_append_left _ (by simp[R5,a,f]))]
theorem Q35 {P:Program} {ops:List Oper} {l:List Value} {o:Oper} {w:World} {K d:Value→World→Prop} (b: ∀v w,K v w→d v w) (h:runOp P ops l o w K):runOp P ops l o w d:=by
 unfold runOp at*
 split at h
 ·exact K6 b h
 ·split at h
  ·exact Q0M ((Lj h).imp (fun ⟨a,c⟩=>⟨a,K6 b c⟩) (fun ⟨a,c⟩=>⟨a,b _ _ c⟩))
  ·exact h.elim
theorem Q2Z {P:Program} {ops:List Oper} {W6:List Value→World→Prop} {o:Oper} {a:List Oper} {l:List Value} {w:World}
 (h:runOp P ops l o w (fun v w=>Z5 P ops W6 a (put l o.dst v) w)):Z5 P ops W6 (o::a) l w:=by
 simp only[Z5]
 unfold runOp at h
 cases c:o.guard with
 | none=>simp only[c] at h⊢;exact h
 | some q=>
  obtain ⟨j,b⟩:=q
  simp only[c] at h⊢
  split at h
  ·rename_i d e
   first | exact h | (simp only[e];exact h) | (rw[e];exact h)
  ·exact h.elim
structure Whole (P : Program) (ops : List Oper) (T : World → World → Prop) (B : World → Prop) (W6 : List Value → World → Prop) (tail : List Oper) (Φ : Nat → (Nat → Value) → World → Prop) (S : List Ent) (i : Nat) (rest : List Oper) (D : List Nat) : Prop where
  stable : ∀ k o, rest[k]? = some o → mv o = none → ∀ u w w', Φ (i + k) u w → T w w' → Φ (i + k) u w'
  loc : ∀ k o, rest[k]? = some o → mv o = none → ∀ u u', (∀ r ∈ (i + k) :: refs ops (O7 S i (rest.take k)) o, u r = u' r) → Φ (i + k) u = Φ (i + k) u'
  run : ∀ k o, rest[k]? = some o → mv o = none → Xr o.op = true → ∀ u w, B w → (∀ j ∈ refs ops (O7 S i (rest.take k)) o, Φ j u w) →
    runOp P ops (Qf u (O7 S i (rest.take k))) o w (fun v w' => T w w' ∧ ∀ u', (∀ r ∈ refs ops (O7 S i (rest.take k)) o, u' r = u r) → u' (i + k) = v → Φ (i + k) u' w')
  last : ∀ u w, B w → (∀ j ∈ D, Φ j u w) → (∀ k o, rest[k]? = some o → mv o = none → Φ (i + k) u w) → Z5 P ops W6 tail (Qf u (O7 S i rest)) w
theorem Q1j (P:Program) (ops:List Oper) (T:World→World→Prop) (B:World→Prop) (W6:List Value→World→Prop) (tail:List Oper): ∀(f:List Oper) (i:Nat) (S:List Ent) (m:Sc) (done:List Nat),
 Zi S done→(∀j,j∈done→j<i∧ ∃φ,Vf m j=some φ)→(∀j φ,Vf m j=some φ→j<i∧ ∀r∈φ.1,r∈done)→chain P ops T B W6 tail i f S m done→
 ∃Φ:Nat→(Nat→Value)→World→Prop,(∀j R φ,Vf m j=some (R,φ)→Φ j=fun u w=>φ (R.map u) (u j) w)∧Whole P ops T B W6 tail Φ S i f done
 | [],i,S,m,done,J,V,C,h=>by
  refine ⟨fun j u w=>match Vf m j with | some (R,φ)=>φ (R.map u) (u j) w | none=>True,fun j R φ hj=>by simp[hj],⟨by simp,by simp,by simp,?_⟩⟩
  intro u w hB D _
  obtain ⟨t,p,g⟩:=Q2G done _ u _ h
  have q:=Q12 (p w hB) fun j hj R φ M=>by
   have:=D j hj
   simp only[M] at this
   rw[(g j).1 hj,show R.map t=R.map u from List.map_congr_left fun r d=>(g r).1 ((C j _ M).2 r d)];exact this
  rw[Q8q J fun j hj=>(g j).1 hj,Kh] at q
  exact q
 | o::f,i,S,m,done,J,V,C,h=>by
  simp only[chain] at h
  cases z:mv o with
  | some x=>
   simp only[z] at h
   have c:Cf S i o=entOf S x:=by simp[Cf,z]
   obtain ⟨Φ,p,g⟩:=Q1j P ops T B W6 tail f (i+1) _ m done (J.putE _ fun j hj=>J.entOf x hj) (fun j hj=>⟨by have:=(V j hj).1;omega,(V j hj).2⟩) (fun j φ hj=>⟨by have:=(C j φ hj).1;omega,(C j φ hj).2⟩) h
   refine ⟨Φ,p,⟨?_,?_,?_,?_⟩⟩
   ·intro k l b a
    cases k with
    | zero=>simp only[List.getElem?_cons_zero,Option.some.injEq] at b;subst b;rw[z] at a;cases a
    | succ k=>have:=g.stable k l (by simpa using b) a;rwa [show i+1+k=i+(k+1) from by omega] at this
   ·intro k l b a u t L
    cases k with
    | zero=>simp only[List.getElem?_cons_zero,Option.some.injEq] at b;subst b;rw[z] at a;cases a
    | succ k=>
     simp only[List.take_succ_cons,O7,c] at L
     have:=g.loc k l (by simpa using b) a u t (by rwa [show i+1+k=i+(k+1) from by omega])
     rwa [show i+1+k=i+(k+1) from by omega] at this
   ·intro k l b a y u w hB d
    cases k with
    | zero=>simp only[List.getElem?_cons_zero,Option.some.injEq] at b;subst b;rw[z] at a;cases a
    | succ k=>
     simp only[List.take_succ_cons,O7,c] at d⊢
     have:=g.run k l (by simpa using b) a y u w hB d
     rwa [show i+1+k=i+(k+1) from by omega] at this
   ·intro u w hB D U
    simp only[O7,c]
    refine g.last u w hB D fun k l b a=>?_
    have:=U (k+1) l (by simpa using b) a
    rwa [show i+(k+1)=i+1+k from by omega] at this
  | none=>
   have h': ∃(R:List Nat) (φ:List Value→Value→World→Prop),(∀r∈R,r∈refs ops S o)∧(∀xs,Sj T (φ xs))∧
    (Pt (refs ops S o) (fun _=>undef) fun u=> ∀w,B w→Kp m u w (runOp P ops (Qf u S) o w (dk T (φ (R.map u)) w)) (refs ops S o))∧
    chain P ops T B W6 tail (i+1) f (putE S o.dst (.ref i)) (m++[(i,R,φ)]) (done++[i]):=by
    cases Q:Q8o o with
    | true=>
     simp only[z,Q,Q7j,Q3B] at h
     obtain ⟨φ,p,g,q⟩:=h
     exact ⟨_,φ,fun _ h=>h,p,g,q⟩
    | false=>
     simp only[z,Q,Q9Z,Q5u] at h
     obtain ⟨φ,p,g,q⟩:=h
     exact ⟨[],fun _=>φ,by simp,fun _=>p,g,q⟩
   clear h
   obtain ⟨R,φ,O,Z,N,h⟩:=h'
   have aa: ∀r∈refs ops S o,r∈done:=fun r d=>by
    obtain ⟨s,_,he⟩:=Bk (Cz d)
    exact J.entOf (.tmp s) he
   have c:Cf S i o= .ref i:=by simp[Cf,z]
   have n:Vf m i=none:=by
    cases D:Vf m i with
    | none=>rfl
    | some ψ=>have:=(C i ψ D).1;omega
   obtain ⟨Φ,p,g⟩:=Q1j P ops T B W6 tail f (i+1) _ (m++[(i,R,φ)]) (done++[i])
    ((J.mono fun j hj=>List.mem_append_left _ hj).putE _ fun j hj=>by cases hj;simp)
    (fun j hj=>by
     rcases List.mem_append.1 hj with hj | hj
     ·obtain ⟨q,ψ,E⟩:=V j hj
      exact ⟨by omega,ψ,by rw[Te (by omega)];exact E⟩
     ·simp at hj;subst hj;exact ⟨by omega,(R,φ),Nc n⟩)
    (fun j ψ hj=>by
     by_cases e:i=j
     ·subst e
      rw[Nc n] at hj;cases hj
      exact ⟨by omega,fun r d=>List.mem_append_left _ (aa r (O r d))⟩
     ·rw[Te e] at hj
      obtain ⟨q,E⟩:=C j ψ hj
      exact ⟨by omega,fun r d=>List.mem_append_left _ (E r d)⟩) h
   have H:Φ i=fun u w=>φ (R.map u) (u i) w:=p i R φ (Nc n)
   have A: ∀j R' ψ,Vf m j=some (R',ψ)→Φ j=fun u w=>ψ (R'.map u) (u j) w:=fun j R' ψ hj=>p j R' ψ (by rw[Te (by have:=(C j _ hj).1;omega)];exact hj)
   refine ⟨Φ,A,⟨?_,?_,?_,?_⟩⟩
   ·intro k l b a
    cases k with
    | zero=>
     intro u w w' ha Y
     rw[Nat.add_zero,H] at ha⊢
     exact Z _ _ _ _ ha Y
    | succ k=>have:=g.stable k l (by simpa using b) a;rwa [show i+1+k=i+(k+1) from by omega] at this
   ·intro k l b a u t L
    cases k with
    | zero=>
     simp only[List.getElem?_cons_zero,Option.some.injEq] at b
     subst b
     simp only[List.take_zero,O7,Nat.add_zero] at L
     rw[Nat.add_zero,H]
     funext w
     show φ (R.map u) (u i) w=φ (R.map t) (t i) w
     rw[show R.map u=R.map t from List.map_congr_left fun r d=>L r (List.mem_cons_of_mem _ (O r d)),L i (by simp)]
    | succ k=>
     simp only[List.take_succ_cons,O7,c] at L
     have:=g.loc k l (by simpa using b) a u t (by rwa [show i+1+k=i+(k+1) from by omega])
     rwa [show i+1+k=i+(k+1) from by omega] at this
   ·intro k l b a y u w hB d
    cases k with
    | zero=>
     simp only[List.getElem?_cons_zero,Option.some.injEq] at b
     subst b
     simp only[List.take_zero,O7,Nat.add_zero] at d⊢
     obtain ⟨t,q,E⟩:=Q2G _ _ u _ N
     have h5:=Q2L (q w hB) fun j hj ψ hψ=>by
      have h6:=d j hj
      rw[A j [] ψ hψ] at h6
      rw[(E j).1 hj];exact h6
     rw[Q2d y (l':=Qf u S)] at h5
     ·refine Q35 ?_ h5
      rintro v w' ⟨Y,hf⟩
      refine ⟨Y,fun W X hi=>?_⟩
      rw[H]
      show φ (R.map W) (W i) w'
      rw[hi,show R.map W=R.map t from List.map_congr_left fun r d=>by rw[X r (O r d),(E r).1 (O r d)]]
      exact hf
     ·intro s Q
      rw[Ko,Ko]
      cases he:getE S s with
      | val v=>rfl
      | ref j=>exact (E j).1 (Q4y (Q4c Q he))
    | succ k=>
     simp only[List.take_succ_cons,O7,c] at d⊢
     have:=g.run k l (by simpa using b) a y u w hB d
     rwa [show i+1+k=i+(k+1) from by omega] at this
   ·intro u w hB D U
    simp only[O7,c]
    refine g.last u w hB (fun j hj=>?_) fun k l b a=>?_
    ·rcases List.mem_append.1 hj with hj | hj
     ·exact D j hj
     ·simp at hj;subst hj
      have:=U 0 o (by simp) z
      simpa using this
    ·have:=U (k+1) l (by simpa using b) a
     rwa [show i+(k+1)=i+1+k from by omega] at this
def Qn (os:List Oper) (S0:List Ent) (q:Nat):Ent:=
 match os[q]? with
 | some o=>Cf (O7 S0 0 (os.take q)) q o
 | none=> .val undef
theorem Q7H {os:List Oper} {S0:List Ent} {q:Nat} {o:Oper} (h:os[q]? =some o):O7 S0 0 (os.take (q+1))=putE (O7 S0 0 (os.take q)) o.dst (Qn os S0 q):=by
 rw[Q4h os S0 0 q o h]
 simp[Qn,h]
theorem Q6U (S:List Ent) (d:Option Nat) (e:Ent):(putE S d e).length=S.length:=by
 cases d with
 | none=>rfl
 | some d=>simp[putE,Q1o]
theorem Pj (os:List Oper) (S0:List Ent): ∀q,q≤os.length→(O7 S0 0 (os.take q)).length=S0.length
 | 0,_=>by simp[O7]
 | q+1,h=>by rw[Q7H (List.getElem?_eq_getElem (by omega)),Q6U,Pj os S0 q (by omega)]
theorem Sd {os:List Oper} {S0:List Ent} (n:Uc (S3 os)=true) (u: ∀d∈S3 os,d<S0.length): ∀q,q≤os.length→
 (∀p,p<q→ ∀o d,os[p]? =some o→o.dst=some d→(O7 S0 0 (os.take q))[d]? =some (Qn os S0 p))∧
  (∀s,(∀p,p<q→ ∀o,os[p]? =some o→o.dst≠some s)→(O7 S0 0 (os.take q))[s]? =S0[s]?)
 | 0,_=>⟨fun p i=>absurd i (by omega),fun s _=>by simp[O7]⟩
 | q+1,h=>by
  obtain ⟨r,t⟩:=Sd n u q (by omega)
  have k:os[q]? =some os[q]:=List.getElem?_eq_getElem (by omega)
  have g:=Pj os S0 q (by omega)
  rw[Q7H k]
  cases b:os[q].dst with
  | none=>
   refine ⟨fun p i o d a c=>?_,fun s l=>t s fun p i=>l p (by omega)⟩
   by_cases e:p=q
   ·subst e;rw[k] at a;cases a;rw[b] at c;cases c
   ·exact r p (by omega) o d a c
  | some j=>
   have m:j<S0.length:=u j (by simp only[S3,List.mem_filterMap];exact ⟨os[q],List.getElem_mem _,b⟩)
   simp only[putE,Q1o]
   refine ⟨fun p i o d a c=>?_,fun s l=>?_⟩
   ·by_cases e:p=q
    ·subst e;rw[k] at a;cases a;rw[b] at c;cases c
     rw[List.getElem?_set_self (by rw[g];exact m)]
    ·have f:j≠d:=by
      rintro rfl
      exact e (Yv os n p q o os[q] j a k c b)
     rw[List.getElem?_set_ne f]
     exact r p (by omega) o d a c
   ·have f:j≠s:=fun e=>l q (by omega) os[q] k (by rw[b,e])
    rw[List.getElem?_set_ne f]
    exact t s fun p i=>l p (by omega)
def Nl (os:List Oper) (p:Nat):Bool:=
 match os[p]? with
 | some o=>match mv o with
  | some (.tmp s)=> !(S3 os).contains s
  | some _=>true
  | none=>false
 | none=>false
theorem X3n {P:Program} {o:Oper} {x:Operand} (h:mv o=some x) (l:List Value) (w:World) (K:Value→World→Prop):o.guard=none∧W8 P l o w K=K (ev l x) w:=by
 unfold mv at h
 split at h
 ·cases h
 ·rename_i b
  refine ⟨b,?_⟩
  split at h
  ·rename_i y a;cases h;simp only[W8,a]
  ·rename_i y a;cases h;simp only[W8,a]
  ·cases h
theorem Q77 {P:Program} {ops:List Oper} {W6:List Value→World→Prop} {o:Oper} {c a:List Oper} {l l':List Value} {w:World} (p:Xr o.op=true) (n: ∀s∈R5 ops o++B9 o,get l' s=get l s)
 (f: ∀v w,Z5 P ops W6 c (put l o.dst v) w→Z5 P ops W6 a (put l' o.dst v) w) (h:Z5 P ops W6 (o::c) l w):Z5 P ops W6 (o::a) l' w:=by
 have m:W8 P l' o=W8 P l o:=Ea p fun x r=>by
  cases x with
  | tmp s=>exact n s (List.mem_append_right _ (by simp only[B9,List.mem_filterMap];exact ⟨.tmp s,by simpa using r,rfl⟩))
  | _=>rfl
 simp only[Z5] at h⊢
 cases e:o.guard with
 | none=>simp only[e] at h⊢;rw[m];exact K6 f h
 | some q=>
  obtain ⟨j,b⟩:=q
  simp only[e] at h⊢
  cases k:(ops[j]?).bind (·.dst) with
  | none=>simp only[k] at h⊢;exact f _ _ h
  | some d=>
   simp only[k] at h⊢
   rw[n d (List.mem_append_left _ (by simp[R5,e,k])),m]
   exact Q0M ((Lj h).imp (fun ⟨g,i⟩=>⟨g,K6 f i⟩) (fun ⟨g,i⟩=>⟨g,f _ _ i⟩))
structure At (os : List Oper) (l0 : List Value) (pre : List Nat) (l : List Value) (u : Nat → Value) : Prop where
  len : l.length = l0.length
  done : ∀ p ∈ pre, ∀ o d, os[p]? = some o → o.dst = some d → l[d]? = some ((Qn os (l0.map .val) p).at u)
  rest : ∀ s, (∀ p ∈ pre, ∀ o, os[p]? = some o → o.dst ≠ some s) → l[s]? = l0[s]?
  refs : ∀ p ∈ pre, ∀ r, Qn os (l0.map .val) p = .ref r → r ∈ pre ∧ ∃ o, os[r]? = some o ∧ mv o = none
theorem X4d {P:Program} {ops os:List Oper} {T:World→World→Prop} {B:World→Prop} {W6:List Value→World→Prop} {m:Nat} {C:List Value} {Φ:Nat→(Nat→Value)→World→Prop}
 (ak:Nat→Nat→Bool) (bp: ∀o∈os,Xr o.op=true) (hn:Uc (S3 os)=true) (hd: ∀d∈S3 os,d<C.length)
 (ad: ∀p q a b,p<q→os[p]? =some a→os[q]? =some b→(Qv a b||Qv b a)=true→ak p q=true)
 (hg: ∀q o j b,os[q]? =some o→o.guard=some (j,b)→ ∃p,p<q∧os[p]? =ops[j]? ∧ak p q=true)
 (hm:m≤os.length) (am: ∀q,m≤q→q<os.length→ ∀p,p<q→ak p q=true∨(p<m∧Nl os p=true))
 (hT: ∀w w',B w→T w w'→B w') (hW:Whole P ops T B W6 (os.drop m) Φ (C.map .val) 0 (os.take m) [])
 (L:List Nat) (H:L.Nodup) (bs:L.length=os.length) (ac: ∀q∈L,q<os.length)
 (hC: ∀c q f,L=c++q::f→ ∀p,ak p q=true→p<os.length→p∈c):
 ∀(f c:List Nat),L=c++f→(∀q∈c,q<m)→ ∀(l:List Value) (u:Nat→Value) (w:World),At os C c l u→B w→
  (∀r∈c,∀o,os[r]? =some o→mv o=none→Φ r u w∧ ∀j∈refs ops (O7 (C.map .val) 0 (os.take r)) o,j∈c)→Z5 P ops W6 (f.filterMap (os[·]?)) l w:=by
 have a7: ∀d∈S3 os,d<(C.map Ent.val).length:=by simpa using hd
 have az: ∀q,q≤m→(os.take m).take q=os.take q:=fun q hq=>by rw[List.take_take,Nat.min_eq_left hq]
 have U: ∀q,q<m→(os.take m)[q]? =os[q]? :=fun q hq=>by rw[List.getElem?_take_of_lt hq]
 -- when all of the first part is done
 have cp: ∀(c f:List Nat),L=c++f→(∀q∈c,q<m)→(∀q,q<m→q∈c)→ ∀l u w,At os C c l u→B w→
  (∀r∈c,∀o,os[r]? =some o→mv o=none→Φ r u w∧ ∀j∈refs ops (O7 (C.map .val) 0 (os.take r)) o,j∈c)→Z5 P ops W6 (f.filterMap (os[·]?)) l w:=by
  intro c f E D ao l u w hA hB hΦ
  have b8: ∀(f c:List Nat),L=c++f→m≤c.length→(∀q,q∈c↔q<c.length)→f.filterMap (os[·]?)=os.drop c.length:=by
   intro f
   induction f with
   | nil=>
    intro c E _ _
    rw[List.append_nil] at E
    rw[←E,bs];simp
   | cons q f ih=>
    intro c E c3 a0
    have cr:q∉c:=by
     rw[E] at H
     intro h
     exact (List.nodup_append.1 H).2.2 q h q (by simp) rfl
    have cv:c.length≤q:=Nat.le_of_not_lt fun h=>cr ((a0 q).2 h)
    have W:=ac q (by rw[E];simp)
    have cu:q=c.length:=by
     refine Nat.le_antisymm (Nat.le_of_not_lt fun h=>?_) cv
     have:=hC c q f E c.length ((am q (by omega) W _ h).resolve_right (by omega)) (by omega)
     have:=(a0 _).1 this
     omega
    subst cu
    rw[List.filterMap_cons,List.getElem?_eq_getElem W]
    simp only
    rw[ih (c++[c.length]) (by rw[E];simp) (by simp;omega) (by intro x;simp only[List.mem_append,a0,List.mem_singleton,List.length_append,List.length_cons,List.length_nil];omega)]
    simp only[List.length_append,List.length_cons,List.length_nil]
    rw[←List.drop_eq_getElem_cons W]
  have bg:c.length=m:=by
   have J:=G4 m c (by rw[E] at H;exact (List.nodup_append.1 H).1) D
   have R:=Wx m c ao
   omega
  have J:=b8 f c E (by omega) (fun q=>by rw[bg];exact ⟨D q,ao q⟩)
  rw[J,bg]
  have R:=hW.last u w hB (by simp) fun k o hk t=>by
   have a1:k<m:=by
    have:=(List.getElem?_eq_some_iff.1 hk).1
    simp at this;omega
   rw[Nat.zero_add]
   rw[U k a1] at hk
   exact (hΦ k (ao k a1) o hk t).1
  have h3:l=Qf u (O7 (C.map .val) 0 (os.take m)):=by
   obtain ⟨g1,g2⟩:=Sd hn a7 m hm
   apply List.ext_getElem?
   intro s
   rw[Qf,List.getElem?_map]
   by_cases hs: ∃p,p<m∧ ∃o,os[p]? =some o∧o.dst=some s
   ·obtain ⟨p,hp,o,i,z⟩:=hs
    rw[hA.done p (ao p hp) o s i z,g1 p hp o s i z];rfl
   ·have af: ∀p,p<m→ ∀o,os[p]? =some o→o.dst≠some s:=fun p hp o i z=>hs ⟨p,hp,o,i,z⟩
    rw[hA.rest s (fun p hp=>af p (D p hp)),g2 s af,List.getElem?_map]
    cases C[s]? <;>rfl
  rw[h3];exact R
 -- moves that come late, among the tail
 have ch: ∀(f c:List Nat) (k:Nat),L=c++f→m≤k→k≤os.length→(∀q,m≤q→(q∈c↔q<k))→(∀p∈f,p<m→Nl os p=true)→
  ∀(l lf:List Value) (w:World),l.length=C.length→lf.length=C.length→(∀s,(∀p∈f,p<m→ ∀o,os[p]? =some o→o.dst≠some s)→l[s]? =lf[s]?)→
   (∀p∈f,p<m→ ∀o d x,os[p]? =some o→mv o=some x→o.dst=some d→lf[d]? =some (ev C x))→(∀s,(S3 os).contains s=false→l[s]? =C[s]?)→
   Z5 P ops W6 (os.drop k) lf w→Z5 P ops W6 (f.filterMap (os[·]?)) l w:=by
  intro f
  induction f with
  | nil=>
   intro c k E a9 bk ab _ l lf w hl bc aq _ _ h
   rw[List.append_nil] at E
   have hk:k=os.length:=by
    refine Nat.le_antisymm bk (Nat.le_of_not_lt fun D=>?_)
    have cw:k∉c:=fun e=>by have:=(ab k a9).1 e;omega
    have J:=G4 os.length (k::c) (List.nodup_cons.2 ⟨cw,E▸H⟩) (fun x hx=>by
     rcases List.mem_cons.1 hx with rfl | hx
     ·exact D
     ·exact ac x (by rw[E];exact hx))
    simp at J
    rw[E] at bs;omega
   have:l=lf:=List.ext_getElem? fun s=>aq s (by simp)
   rw[this]
   rw[hk,List.drop_length] at h
   exact h
  | cons q f ih=>
   intro c k E a9 bk ab al l lf w hl bc aq a4 aa h
   have O:q∉c:=by
    rw[E] at H
    intro h
    exact (List.nodup_append.1 H).2.2 q h q (by simp) rfl
   have cj:q∉f:=by
    rw[E] at H
    exact (List.nodup_cons.1 (List.nodup_append.1 H).2.1).1
   have W:=ac q (by rw[E];simp)
   have A:os[q]? =some os[q]:=List.getElem?_eq_getElem W
   have b3:L=(c++[q])++f:=by rw[E];simp
   rw[List.filterMap_cons,A]
   simp only
   by_cases Z:q<m
   ·-- a late move
    have D:=al q (by simp) Z
    unfold Nl at D
    rw[A] at D
    simp only at D
    cases t:mv os[q] with
    | none=>rw[t] at D;cases D
    | some x=>
     rw[t] at D
     have hx:ev l x=ev C x:=by
      cases x with
      | tmp s=>
       simp only[Bool.not_eq_true'] at D
       simp only[ev,get,List.getD_eq_getElem?_getD,aa s D]
      | _=>rfl
     obtain ⟨a8,ax⟩:=X3n (P:=P) t l w (fun v w=>Z5 P ops W6 (f.filterMap (os[·]?)) (put l os[q].dst v) w)
     simp only[Z5,a8]
     rw[ax,hx]
     refine ih (c++[q]) k b3 a9 bk (fun q' aw=>?_) (fun p hp=>al p (by simp[hp])) _ lf w ?_ bc (fun s hs=>?_) (fun p hp=>a4 p (by simp[hp])) (fun s hs=>?_) h
     ·rw[←ab q' aw];simp only[List.mem_append,List.mem_singleton]
      exact ⟨fun e=>e.resolve_right (by omega), .inl⟩
     ·cases g:os[q].dst<;>simp[put,hl]
     ·cases g:os[q].dst with
      | none=>
       refine aq s fun p hp M o i=>?_
       rcases List.mem_cons.1 hp with rfl | hp
       ·rw[A] at i;cases i;rw[g];simp
       ·exact hs p hp M o i
      | some d=>
       have ar:d<C.length:=hd d (by simp only[S3,List.mem_filterMap];exact ⟨os[q],List.getElem_mem _,g⟩)
       simp only[put]
       by_cases e:d=s
       ·subst e
        rw[List.getElem?_set_self (by rw[hl];exact ar)]
        exact (a4 q (by simp) Z os[q] d x A t g).symm
       ·rw[List.getElem?_set_ne e]
        refine aq s fun p hp M o i=>?_
        rcases List.mem_cons.1 hp with rfl | hp
        ·rw[A] at i;cases i;rw[g];simpa using e
        ·exact hs p hp M o i
     ·cases g:os[q].dst with
      | none=>exact aa s hs
      | some d=>
       have aj:(S3 os).contains d=true:=by
        rw[List.contains_iff_mem];simp only[S3,List.mem_filterMap];exact ⟨os[q],List.getElem_mem _,g⟩
       simp only[put]
       rw[List.getElem?_set_ne (by rintro rfl;rw[hs] at aj;cases aj)]
       exact aa s hs
   ·have Z:m≤q:=by omega
    have cq:q=k:=by
     have J:k≤q:=Nat.le_of_not_lt fun e=>O ((ab q Z).2 e)
     refine Nat.le_antisymm (Nat.le_of_not_lt fun e=>?_) J
     have:=hC c q f E k ((am q Z W k e).resolve_right (by omega)) (by omega)
     have:=(ab k a9).1 this
     omega
    subst cq
    rw[List.drop_eq_getElem_cons W] at h
    have cc: ∀p∈f,p<m→ak p q=true→False:=fun p hp M hb=>by
     have:=hC c q f E p hb (by omega)
     rw[E] at H
     exact (List.nodup_append.1 H).2.2 p this p (by simp[hp]) rfl
    refine Q77 (bp _ (List.getElem_mem _)) (fun s hs=>?_) (fun v w' hv=>?_) h
    ·have:l[s]? =lf[s]? :=aq s fun p hp M o i z=>by
      rcases List.mem_cons.1 hp with rfl | hp
      ·omega
      refine cc p hp M ?_
      rcases List.mem_append.1 hs with hs | hs
      ·unfold R5 at hs
       split at hs
       ·simp at hs
       ·rename_i j b bm
        split at hs
        ·rename_i d bq
         simp only[List.mem_singleton] at hs
         subst hs
         obtain ⟨p',av,bv,hb⟩:=hg q os[q] j b A bm
         obtain ⟨o',bu,ce⟩:=Option.bind_eq_some_iff.1 bq
         have:=Yv os hn p' p o' o s (by rw[bv,bu]) i ce z
         subst this;exact hb
        ·simp at hs
      ·exact ad p q o os[q] (by omega) i A (by simp only[Qv,z,Bool.or_eq_true];left;left;simpa using hs)
     simp only[get,List.getD_eq_getElem?_getD,this]
    ·refine ih (c++[q]) (q+1) b3 (by omega) (by omega) (fun q' aw=>?_) (fun p hp=>al p (by simp[hp])) _ _ w' ?_ ?_ (fun s hs=>?_) (fun p hp M o d x i bb z=>?_) (fun s hs=>?_) hv
     ·simp only[List.mem_append,List.mem_singleton,ab q' aw];omega
     ·cases g:os[q].dst<;>simp[put,hl]
     ·cases g:os[q].dst<;>simp[put,bc]
     ·have hb:l[s]? =lf[s]? ∨os[q].dst=some s:=by
       left
       refine aq s fun p hp M o i=>?_
       rcases List.mem_cons.1 hp with rfl | hp
       ·omega
       ·exact hs p hp M o i
      cases g:os[q].dst with
      | none=>
       rcases hb with hb | hb
       ·exact hb
       ·rw[g] at hb;cases hb
      | some d=>
       simp only[put]
       by_cases e:d=s
       ·subst e
        have ar:d<C.length:=hd d (by simp only[S3,List.mem_filterMap];exact ⟨os[q],List.getElem_mem _,g⟩)
        rw[List.getElem?_set_self (by rw[hl];exact ar),List.getElem?_set_self (by rw[bc];exact ar)]
       ·rw[List.getElem?_set_ne e,List.getElem?_set_ne e]
        rcases hb with hb | hb
        ·exact hb
        ·rw[g] at hb;cases hb;exact absurd rfl e
     ·have b7:=a4 p (by simp[hp]) M o d x i bb z
      cases g:os[q].dst with
      | none=>exact b7
      | some d'=>
       have Y:d'≠d:=by
        rintro rfl
        have:=Yv os hn p q o os[q] d' i A z g
        omega
       simp only[put]
       rw[List.getElem?_set_ne Y];exact b7
     ·cases g:os[q].dst with
      | none=>exact aa s hs
      | some d=>
       have aj:(S3 os).contains d=true:=by
        rw[List.contains_iff_mem];simp only[S3,List.mem_filterMap];exact ⟨os[q],List.getElem_mem _,g⟩
       simp only[put]
       rw[List.getElem?_set_ne (by rintro rfl;rw[hs] at aj;cases aj)]
       exact aa s hs
 intro f
 induction f with
 | nil=>
  intro c E D l u w hA hB hΦ
  refine cp c [] E D ?_ l u w hA hB hΦ
  intro q hq
  rw[List.append_nil] at E
  refine Classical.byContradiction fun a3=>?_
  have J:=G4 os.length (q::c) (List.nodup_cons.2 ⟨a3,E▸H⟩) (fun k hk=>by
   rcases List.mem_cons.1 hk with rfl | hk
   ·omega
   ·exact ac k (by rw[E];exact hk))
  simp at J
  rw[E] at bs;omega
 | cons q f ih=>
  intro c E D l u w hA hB hΦ
  have O:q∉c:=by
   rw[E] at H
   intro h
   exact (List.nodup_append.1 H).2.2 q h q (by simp) rfl
  have W:=ac q (by rw[E];simp)
  by_cases Z:m≤q
  ·-- the tail begins
   have an: ∀p,p<m→p∉c→Nl os p=true:=fun p hp bo=>by
    rcases am q Z W p (by omega) with h | h
    ·exact absurd (hC c q f E p h (by omega)) bo
    ·exact h.2
   have bi: ∀p,Nl os p=true→ ∀o,os[p]? =some o→ ∃x,mv o=some x∧ ∀s,x= .tmp s→(S3 os).contains s=false:=by
    intro p hp o i
    unfold Nl at hp
    rw[i] at hp
    simp only at hp
    cases N:mv o with
    | none=>rw[N] at hp;cases hp
    | some x=>
     refine ⟨x,rfl,fun s hs=>?_⟩
     subst hs
     rw[N] at hp;simpa using hp
   obtain ⟨g1,g2⟩:=Sd hn a7 m hm
   have bh: ∀s,(S3 os).contains s=false→ ∀(p:Nat) o,os[p]? =some o→o.dst≠some s:=by
    intro s hs p o i z
    have:(S3 os).contains s=true:=by
     rw[List.contains_iff_mem];simp only[S3,List.mem_filterMap]
     exact ⟨o,List.mem_of_getElem? i,z⟩
    rw[hs] at this;cases this
   refine ch (q::f) c m E (Nat.le_refl _) hm (fun q' aw=>⟨fun e=>D q' e,fun e=>absurd aw (by omega)⟩) (fun p hp M=>an p M fun e=>by
    rw[E] at H
    exact (List.nodup_append.1 H).2.2 p e p hp rfl) l (Qf u (O7 (C.map .val) 0 (os.take m))) w hA.len (by simp[Qf,Pj os _ m hm]) (fun s hs=>?_) (fun p hp M o d x i bb z=>?_) (fun s hs=>?_) ?_
   ·rw[Qf,List.getElem?_map]
    by_cases ap: ∃p,p<m∧ ∃o,os[p]? =some o∧o.dst=some s
    ·obtain ⟨p,hp,o,i,z⟩:=ap
     by_cases V:p∈c
     ·rw[hA.done p V o s i z,g1 p hp o s i z];rfl
     ·exfalso
      have cg:p∈L:=by
       refine Classical.byContradiction fun a3=>?_
       have J:=G4 os.length (p::L) (List.nodup_cons.2 ⟨a3,H⟩) (fun k hk=>by
        rcases List.mem_cons.1 hk with rfl | hk
        ·omega
        ·exact ac k hk)
       simp at J;omega
      rw[E] at cg
      rcases List.mem_append.1 cg with h | h
      ·exact V h
      ·exact hs p h hp o i z
    ·have af: ∀p,p<m→ ∀o,os[p]? =some o→o.dst≠some s:=fun p hp o i z=>ap ⟨p,hp,o,i,z⟩
     rw[hA.rest s (fun p hp=>af p (D p hp)),g2 s af,List.getElem?_map]
     cases C[s]? <;>rfl
   ·have V:p∉c:=fun e=>by
     rw[E] at H
     exact (List.nodup_append.1 H).2.2 p e p hp rfl
    rw[Qf,List.getElem?_map,g1 p M o d i z]
    simp only[Option.map_some,Option.some.injEq]
    have X:Qn os (C.map .val) p=entOf (O7 (C.map .val) 0 (os.take p)) x:=by simp[Qn,i,Cf,bb]
    rw[X]
    obtain ⟨x',b6,co⟩:=bi p (an p M V) o i
    rw[bb] at b6;cases b6
    cases x with
    | tmp s=>
     have hs:=co s rfl
     obtain ⟨_,k2⟩:=Sd (S0:=C.map .val) hn a7 p (by omega)
     simp only[entOf]
     rw[Gy,k2 s (fun p' _ o' bu=>bh s hs p' o' bu),List.getElem?_map]
     simp only[ev,get,List.getD_eq_getElem?_getD]
     cases C[s]? <;>rfl
    | _=>rfl
   ·exact hA.rest s fun p _ o i=>bh s hs p o i
   ·refine hW.last u w hB (by simp) fun k o hk t=>?_
    have a1:k<m:=by
     have:=(List.getElem?_eq_some_iff.1 hk).1
     simp at this;omega
    rw[Nat.zero_add]
    rw[U k a1] at hk
    refine (hΦ k (Classical.byContradiction fun bo=>?_) o hk t).1
    obtain ⟨x,hx,_⟩:=bi k (an k a1 bo) o hk
    rw[t] at hx;cases hx
  ·have Z:q<m:=by omega
   have A:os[q]? =some os[q]:=List.getElem?_eq_getElem W
   obtain ⟨g1,g2⟩:=Sd (S0:=C.map .val) hn a7 q (by omega)
   -- what a slot holds that this operation reads
   have ae: ∀s,(∃p o,os[p]? =some o∧o.dst=some s∧p<q∧ak p q=true)∨s∈B9 os[q]→
    get l s=(getE (O7 (C.map .val) 0 (os.take q)) s).at u∧ ∀r,getE (O7 (C.map .val) 0 (os.take q)) s= .ref r→r∈c∧ ∃o,os[r]? =some o∧mv o=none:=by
    intro s hs
    have af:(∀p∈c,∀o,os[p]? =some o→o.dst≠some s)→(∀p,p<q→ ∀o,os[p]? =some o→o.dst≠some s)→
     get l s=(getE (O7 (C.map .val) 0 (os.take q)) s).at u∧ ∀r,getE (O7 (C.map .val) 0 (os.take q)) s= .ref r→r∈c∧ ∃o,os[r]? =some o∧mv o=none:=by
     intro J R
     rw[Gy,g2 s R,List.getElem?_map]
     simp only[get,List.getD_eq_getElem?_getD,hA.rest s J]
     cases C[s]? with
     | none=>exact ⟨rfl,fun r hr=>by cases hr⟩
     | some v=>exact ⟨rfl,fun r hr=>by cases hr⟩
    have bj: ∀p o,os[p]? =some o→o.dst=some s→p<q→p∈c→
     get l s=(getE (O7 (C.map .val) 0 (os.take q)) s).at u∧ ∀r,getE (O7 (C.map .val) 0 (os.take q)) s= .ref r→r∈c∧ ∃o,os[r]? =some o∧mv o=none:=by
     intro p o hp i av V
     rw[Gy,g1 p av o s hp i]
     simp only[get,List.getD_eq_getElem?_getD,hA.done p V o s hp i,Option.getD_some]
     first | exact ⟨rfl,hA.refs p V⟩ | exact ⟨trivial,hA.refs p V⟩
    rcases hs with ⟨p,o,hp,i,av,hb⟩ | hs
    ·exact bj p o hp i av (hC c q f E p hb (by omega))
    ·by_cases ap: ∃(p:Nat) (o:Oper),os[p]? =some o∧o.dst=some s
     ·obtain ⟨p,o,hp,i⟩:=ap
      have c1:=(List.getElem?_eq_some_iff.1 hp).1
      have aa: ∀p' o',os[p']? =some o'→o'.dst=some s→p'=p:=fun p' o' J R=>Yv os hn p' p o' o s J hp R i
      rcases Nat.lt_trichotomy p q with h | h | h
      ·have hb:=ad p q o os[q] h hp A (by simp only[Qv,i,Bool.or_eq_true];left;left;simpa using hs)
       exact bj p o hp i h (hC c q f E p hb (by omega))
      ·subst h
       exact af (fun p' ah o' J R=>by rw[aa p' o' J R] at ah;exact O ah) (fun p' ah o' J R=>by rw[aa p' o' J R] at ah;omega)
      ·refine af (fun p' ah o' J R=>?_) (fun p' ah o' J R=>by rw[aa p' o' J R] at ah;omega)
       have e:=aa p' o' J R
       subst e
       have hb:=ad q p' os[q] o' h A J (by simp only[Qv,R,Bool.or_eq_true];right;left;simpa using hs)
       obtain ⟨p1,p2,V⟩:=List.append_of_mem ah
       have:=hC p1 p' (p2++q::f) (by rw[E,V];simp) q hb W
       exact O (by rw[V];exact List.mem_append_left _ this)
     ·exact af (fun p _ o J R=>ap ⟨p,o,J,R⟩) (fun p _ o J R=>ap ⟨p,o,J,R⟩)
   have bl: ∀s∈R5 ops os[q]++B9 os[q],(∃p o,os[p]? =some o∧o.dst=some s∧p<q∧ak p q=true)∨s∈B9 os[q]:=by
    intro s hs
    rcases List.mem_append.1 hs with hs | hs
    ·left
     unfold R5 at hs
     split at hs
     ·simp at hs
     ·rename_i j b bm
      split at hs
      ·rename_i d bq
       simp only[List.mem_singleton] at hs
       subst hs
       obtain ⟨p,av,bv,hb⟩:=hg q os[q] j b A bm
       obtain ⟨o,i,z⟩:=Option.bind_eq_some_iff.1 bq
       exact ⟨p,o,by rw[bv,i],z,av,hb⟩
      ·simp at hs
    ·exact .inr hs
   have a5:=U q Z
   rw[A] at a5
   rw[List.filterMap_cons,A]
   simp only
   -- the state behind it
   have step: ∀(v:Value) (u':Nat→Value) (w':World),(∀p∈c,(Qn os (C.map .val) p).at u'=(Qn os (C.map .val) p).at u)→v=(Qn os (C.map .val) q).at u'→
    (∀r,Qn os (C.map .val) q= .ref r→r∈q::c∧ ∃o,os[r]? =some o∧mv o=none)→B w'→(∀r∈q::c,∀o,os[r]? =some o→mv o=none→Φ r u' w'∧ ∀j∈refs ops (O7 (C.map .val) 0 (os.take r)) o,j∈q::c)→
    Z5 P ops W6 (f.filterMap (os[·]?)) (put l os[q].dst v) w':=by
    intro v u' w' hu hv hr cn b9
    have Q: ∀x,x∈c++[q]↔x∈q::c:=by intro x;simp[or_comm]
    refine ih (c++[q]) (by rw[E];simp) (fun x hx=>by rcases List.mem_cons.1 ((Q x).1 hx) with rfl | hx;exact Z;exact D x hx) _ u' w' ?_ cn (fun r hr o i N=>⟨(b9 r ((Q r).1 hr) o i N).1,fun j hj=>(Q j).2 ((b9 r ((Q r).1 hr) o i N).2 j hj)⟩)
    have a2: ∀p∈c++[q],∀r,Qn os (C.map .val) p= .ref r→r∈c++[q]∧ ∃o,os[r]? =some o∧mv o=none:=by
     intro p hp r bn
     rcases List.mem_cons.1 ((Q p).1 hp) with rfl | hp
     ·exact ⟨(Q r).2 (hr r bn).1,(hr r bn).2⟩
     ·obtain ⟨J,R⟩:=hA.refs p hp r bn
      exact ⟨List.mem_append_left _ J,R⟩
    cases g:os[q].dst with
    | none=>
     refine ⟨hA.len,?_,?_,a2⟩
     ·intro p hp o d i z
      rcases List.mem_cons.1 ((Q p).1 hp) with rfl | hp
      ·rw[A] at i;cases i;rw[g] at z;cases z
      ·rw[hu p hp];exact hA.done p hp o d i z
     ·intro s hs;exact hA.rest s fun p hp=>hs p (List.mem_append_left _ hp)
    | some d0=>
     have ar:d0<C.length:=hd d0 (by simp only[S3,List.mem_filterMap];exact ⟨os[q],List.getElem_mem _,g⟩)
     refine ⟨by simp[put,hA.len],?_,?_,a2⟩
     ·intro p hp o d i z
      rcases List.mem_cons.1 ((Q p).1 hp) with rfl | hp2
      ·rw[A] at i;cases i
       rw[g] at z;cases z
       simp only[put]
       rw[List.getElem?_set_self (by rw[hA.len];exact ar),hv]
      ·have Y:d0≠d:=by
        rintro rfl
        have:=Yv os hn p q o os[q] d0 i A z g
        subst this;exact O hp2
       simp only[put]
       rw[List.getElem?_set_ne Y,hu p hp2]
       exact hA.done p hp2 o d i z
     ·intro s hs
      have Y:d0≠s:=fun e=>hs q (by simp) os[q] A (by rw[g,e])
      simp only[put]
      rw[List.getElem?_set_ne Y]
      exact hA.rest s fun p hp=>hs p (List.mem_append_left _ hp)
   cases t:mv os[q] with
   | some x=>
    have X:Qn os (C.map .val) q=entOf (O7 (C.map .val) 0 (os.take q)) x:=by simp[Qn,A,Cf,t]
    -- a move: what the operand holds
    have hx:ev l x=(entOf (O7 (C.map .val) 0 (os.take q)) x).at u∧ ∀r,entOf (O7 (C.map .val) 0 (os.take q)) x= .ref r→r∈c∧ ∃o,os[r]? =some o∧mv o=none:=by
     cases x with
     | tmp s=>
      have hs:s∈B9 os[q]:=by
       unfold mv at t
       split at t
       ·cases t
       ·simp only[B9,List.mem_filterMap]
        split at t
        ·rename_i y hy;cases t;exact ⟨.tmp s,by rw[hy];simp[Op.operands],rfl⟩
        ·rename_i y hy;cases t;exact ⟨.tmp s,by rw[hy];simp[Op.operands],rfl⟩
        ·cases t
      exact ae s (.inr hs)
     | _=>exact ⟨rfl,fun r hr=>by cases hr⟩
    have a8:os[q].guard=none:=by
     unfold mv at t
     split at t
     ·cases t
     ·assumption
    simp only[Z5,a8]
    have ax:W8 P l os[q] w (fun v w=>Z5 P ops W6 (f.filterMap (os[·]?)) (put l os[q].dst v) w)=Z5 P ops W6 (f.filterMap (os[·]?)) (put l os[q].dst (ev l x)) w:=by
     unfold mv at t
     rw[a8] at t
     simp only at t
     split at t
     ·rename_i y hy;cases t;simp only[W8,hy]
     ·rename_i y hy;cases t;simp only[W8,hy]
     ·cases t
    rw[ax]
    refine step _ u w (fun _ _=>rfl) (by rw[X];exact hx.1) (fun r hr=>by
     rw[X] at hr
     obtain ⟨J,R⟩:=hx.2 r hr
     exact ⟨List.mem_cons_of_mem _ J,R⟩) hB (fun r hr o i N=>by
     rcases List.mem_cons.1 hr with rfl | hr
     ·rw[A] at i;cases i;rw[t] at N;cases N
     ·exact ⟨(hΦ r hr o i N).1,fun j hj=>List.mem_cons_of_mem _ ((hΦ r hr o i N).2 j hj)⟩)
   | none=>
    have X:Qn os (C.map .val) q= .ref q:=by simp[Qn,A,Cf,t]
    have be:=hW.run q os[q] a5 t (bp _ (List.getElem_mem _)) u w hB
    rw[az q (by omega),Nat.zero_add] at be
    have cx:=hW.stable
    have bw:=be (fun j hj=>by
     obtain ⟨s,hs,he⟩:=Bk (Cz hj)
     obtain ⟨J,o,R,h3⟩:=(ae s (bl s hs)).2 j he
     exact (hΦ j J o R h3).1)
    have b5: ∀j∈refs ops (O7 (C.map .val) 0 (os.take q)) os[q],j∈c:=fun j hj=>by
     obtain ⟨s,hs,he⟩:=Bk (Cz hj)
     exact ((ae s (bl s hs)).2 j he).1
    refine Q2Z ?_
    rw[Q2d (bp _ (List.getElem_mem _)) (l':=Qf u (O7 (C.map .val) 0 (os.take q))) (fun s hs=>by rw[Ko];exact (ae s (bl s hs)).1)]
    refine Q35 ?_ bw
    intro v w' ⟨b1,hφ⟩
    have Y: ∀r∈c,r≠q:=fun r hr e=>O (e▸hr)
    refine step v (fun n=>if n=q then v else u n) w' ?_ (by rw[X];simp[Ent.at]) (fun r hr=>by rw[X] at hr;cases hr;exact ⟨by simp,os[q],A,t⟩) (hT w w' hB b1) ?_
    ·intro p hp
     cases he:Qn os (C.map .val) p with
     | val x=>rfl
     | ref r=>
      have:=Y r (hA.refs p hp r he).1
      simp[Ent.at,this]
    ·intro r hr o i N
     rcases List.mem_cons.1 hr with rfl | hr
     ·rw[A] at i;cases i
      exact ⟨hφ _ (fun x hx=>by simp[Y x (b5 x hx)]) (by simp),fun j hj=>List.mem_cons_of_mem _ (b5 j hj)⟩
     ·obtain ⟨f1,f2⟩:=hΦ r hr o i N
      have ca:=D r hr
      have cf:=Y r hr
      have hl:=hW.loc r o (by rw[U r ca];exact i) N (fun n=>if n=q then v else u n) u (fun x hx=>by
       rw[az r (by omega),Nat.zero_add] at hx
       have:x≠q:=by
        rcases List.mem_cons.1 hx with rfl | hx
        ·exact cf
        ·exact Y x (f2 x hx)
       simp[this])
      have hs:=cx r o (by rw[U r ca];exact i) N
      rw[Nat.zero_add] at hs hl
      refine ⟨?_,fun j hj=>List.mem_cons_of_mem _ (f2 j hj)⟩
      rw[hl]
      exact hs _ _ _ f1 b1
def X31:Op→Bool
 | .move _ | .assign _ | .fieldAddr .. | .indexAddr .. | .field .. | .index .. | .binOp .. | .unOp .. | .extract .. | .pick .. | .makeFunc .. | .nilCheck _ | .slice .. =>true
 | _=>false
def ready (ops:List Oper) (a:List Nat) (j:Nat):Bool:=(A6 ops j).all (a.contains ·)
def X2L (ops:List Oper) (j:Nat):Bool:=match ops[j]? with | some o=>X31 o.op | none=>false
def Q8r (ops:List Oper):Nat→List Nat→List Nat→List Nat
 | 0,_,a=>a.reverse
 | n+1,b,a=>
  match b.find? (fun j=>X2L ops j&&ready ops a j) with
  | some j=>Q8r ops n (b.erase j) (j::a)
  | none=>match b.find? (ready ops a) with
   | some j=>Q8r ops n (b.erase j) (j::a)
   | none=>a.reverse
def K5 (ops:List Oper):List Nat:=Q8r ops ops.length (List.range ops.length) []
def Qq (ops:List Oper) (a:List Nat) (p q:Nat):Bool:=((Q0D ops []).getD (a.getD q 0) 0).testBit (a.getD p 0)
def U9 (ops:List Oper) (a:List Nat):List Oper:=a.map fun i=>ops.getD i default
def cutA (ops:List Oper) (a:List Nat):Nat→Nat
 | 0=>0
 | j+1=>if (List.range j).all (fun i=>Qq ops a i j||Nl (U9 ops a) i) then cutA ops a j else j+1
def X4h (ops:List Oper) (a:List Nat) (c n:Nat):Bool:=(List.range n).all fun q=>(List.range q).all fun p=>decide (p<c)||Qq ops a p q
def Hz (ops:List Oper) (a:List Nat) (n:Nat):Nat:=if X4h ops a (cutA ops a n) n then cutA ops a n else n
theorem Q4w (ops:List Oper) (a:List Nat): ∀n,cutA ops a n≤n∧ ∀q,cutA ops a n≤q→q<n→ ∀p,p<q→Qq ops a p q=true∨Nl (U9 ops a) p=true
 | 0=>⟨Nat.le_refl _,fun q _ h=>by omega⟩
 | j+1=>by
  obtain ⟨g,f⟩:=Q4w ops a j
  simp only[cutA]
  split
  ·rename_i h
   refine ⟨by omega,fun q c b p d=>?_⟩
   by_cases e:q=j
   ·subst e
    simpa using List.all_eq_true.1 h p (by simpa using d)
   ·exact f q c (by omega) p d
  ·exact ⟨Nat.le_refl _,fun q c b=>by omega⟩
theorem Q8P (ops:List Oper) (a:List Nat) (n:Nat):Hz ops a n≤n∧ ∀q,Hz ops a n≤q→q<n→ ∀p,p<q→Qq ops a p q=true∨(p<Hz ops a n∧Nl (U9 ops a) p=true):=by
 obtain ⟨f,i⟩:=Q4w ops a n
 unfold Hz
 split
 ·rename_i g
  refine ⟨f,fun q d b p e=>?_⟩
  by_cases c:p<cutA ops a n
  ·exact (i q d b p e).imp id fun h=>⟨c,h⟩
  ·left
   have:=List.all_eq_true.1 (List.all_eq_true.1 g q (by simpa using b)) p (by simpa using e)
   simpa [c] using this
 ·exact ⟨Nat.le_refl _,fun q d b=>by omega⟩
def X1h (ops:List Oper) (a:List Nat):Bool:=
 a.length==ops.length&&(List.range ops.length).all (a.contains ·)&&Uc a&&a.all (fun i=>decide (i<ops.length))&&
  (List.range ops.length).all fun q=>(List.range q).all fun p=> !Qq ops a q p
def Sw (ops:List Oper) (n:Nat):Bool:=
 Lu ops&&Q7q (Q0D ops []) ops&&Uc (S3 (U9 ops (K5 ops)))&&(S3 (U9 ops (K5 ops))).all (fun d=>decide (d<n))&&
  (Zp .any ops (List.range ops.length)&&Zp .text ops (List.range ops.length)&&Zp .gc ops (X3h .gc ops ops.length (List.range ops.length) []))&&X1h ops (K5 ops)
theorem Q14: ∀{l:List Nat},Uc l=true→l.Nodup
 | [],_=>List.nodup_nil
 | x::l,h=>by
  simp only[Uc,Bool.and_eq_true,Bool.not_eq_true'] at h
  exact List.nodup_cons.2 ⟨by simpa using h.1,Q14 h.2⟩
theorem Q59 {ops:List Oper}: ∀(b:List Oper) (a:List Nat),a.length+b.length=ops.length→(∀k,a.length≤k→ops[k]? =b[k-a.length]?)→
 (∀j k,j<a.length→k∈A6 ops j→(a.getD j 0).testBit k=true)→ ∀j k,j<ops.length→k∈A6 ops j→((Q0D b a).getD j 0).testBit k=true
 | [],a,i,_,c=>fun j k p d=>c j k (by simp at i;omega) d
 | o::b,a,i,f,c=>by
  have t:ops[a.length]? =some o:=by rw[f _ (Nat.le_refl _)];simp
  refine Q59 b _ (by simp at i⊢;omega) ?_ ?_
  ·intro k d
   simp only[List.length_append,List.length_cons,List.length_nil] at d⊢
   rw[f k (by omega)]
   obtain ⟨m,q⟩: ∃m,k-a.length=m+1:=⟨k-a.length-1,by omega⟩
   rw[q,List.getElem?_cons_succ]
   congr 1;omega
  ·intro j k p d
   simp only[List.length_append,List.length_cons,List.length_nil] at p
   by_cases g:j<a.length
   ·simp only[List.getD_eq_getElem?_getD,List.getElem?_append_left g]
    simpa only[List.getD_eq_getElem?_getD] using c j k g d
   ·have n:j=a.length:=by omega
    subst n
    simp only[List.getD_eq_getElem?_getD,List.getElem?_append_right (Nat.le_refl _),Nat.sub_self,List.getElem?_cons_zero,Option.getD_some]
    unfold A6 at d
    rw[t] at d
    simp only[Option.map_some,Option.getD_some,List.mem_map] at d
    obtain ⟨e,u,rfl⟩:=d
    have key: ∀(l:List Edge) (s:Nat),(e∈l∨s.testBit e.on=true)→(l.foldl (fun s e=>s ||| 2 ^ e.on ||| (a[e.on]?).getD 0) s).testBit e.on=true:=by
     intro l
     induction l with
     | nil=>intro s h;simpa using h
     | cons x l r=>
      intro s h
      refine r _ ?_
      rcases h with h | h
      ·rcases List.mem_cons.1 h with rfl | h
       ·right;simp
       ·exact .inl h
      ·right;simp[h]
    exact key _ _ (.inl u)
theorem Rr {α β:Type} {f g:α→Option β}: ∀{l:List α},(∀x∈l,f x=g x)→l.filterMap f=l.filterMap g
 | [],_=>rfl
 | x::l,h=>by
  rw[List.filterMap_cons,List.filterMap_cons,h x (by simp),Rr fun y a=>h y (by simp[a])]
structure Arr (ops : List Oper) (ord : List Nat) (L : List Nat) : Prop where
  hpl : ∀ o ∈ U9 ops ord, Xr o.op = true
  hclash : ∀ p q a b, p < q → (U9 ops ord)[p]? = some a → (U9 ops ord)[q]? = some b → (Qv a b || Qv b a) = true → Qq ops ord p q = true
  hg : ∀ q o j b, (U9 ops ord)[q]? = some o → o.guard = some (j, b) → ∃ p, p < q ∧ (U9 ops ord)[p]? = ops[j]? ∧ Qq ops ord p q = true
  hn : L.Nodup
  hlt : ∀ q ∈ L, q < (U9 ops ord).length
  hC : ∀ pre q post, L = pre ++ q :: post → ∀ p, Qq ops ord p q = true → p < (U9 ops ord).length → p ∈ pre
  hLl : L.length = (U9 ops ord).length
theorem Q4q {ops:Array Oper} {n:Nat} (ah:Sw ops.toList n=true) (b:Bool) (t:Nat): ∃L,(Region.schedule b ops t).filterMap (ops[·]?)=L.filterMap ((U9 ops.toList (K5 ops.toList))[·]?)∧Arr ops.toList (K5 ops.toList) L∧(U9 ops.toList (K5 ops.toList)).length=ops.toList.length:=by
 simp only[Sw,Bool.and_eq_true] at ah
 obtain ⟨⟨⟨⟨⟨Y,hc⟩,hn⟩,hd⟩,⟨bf,bd⟩,bh⟩,R⟩:=ah
 generalize K5 ops.toList=c at*
 simp only[X1h,Bool.and_eq_true,beq_iff_eq] at R
 obtain ⟨⟨⟨⟨ab,X⟩,a2⟩,N⟩,J⟩:=R
 have ac:=Q14 a2
 have ak:(U9 ops.toList c).length=ops.toList.length:=by simp[U9,ab]
 have f: ∀p,p<ops.toList.length→c.getD p 0<ops.toList.length:=by
  intro p V
  simp only[List.getD_eq_getElem?_getD]
  rw[List.getElem?_eq_getElem (by omega)]
  have:=List.all_eq_true.1 N c[p] (List.getElem_mem _)
  simpa using this
 have d: ∀p,p<ops.toList.length→(U9 ops.toList c)[p]? =ops.toList[c.getD p 0]? :=by
  intro p V
  have r:=f p V
  simp only[List.getD_eq_getElem?_getD] at r
  rw[List.getElem?_eq_getElem (by omega:p<c.length)] at r
  simp only[Option.getD_some] at r
  simp only[U9,List.getElem?_map,List.getD_eq_getElem?_getD]
  rw[List.getElem?_eq_getElem (by omega:p<c.length)]
  simp only[Option.map_some,Option.getD_some]
  rw[List.getElem?_eq_getElem r]
  simp
 obtain ⟨aj,M,w⟩:=Q4M b ops t Y (fun m=>by cases m<;>exact ⟨_,by assumption⟩)
 have g:=Q2f b ops t
 generalize Region.schedule b ops t=L0 at aj M w g⊢
 have v: ∀i,i<ops.toList.length→i∈c:=fun i B=>by simpa using List.all_eq_true.1 X i (by simpa using B)
 have l: ∀i,i<ops.toList.length→c.idxOf i<ops.toList.length∧c.getD (c.idxOf i) 0=i:=by
  intro i B
  have r:=List.idxOf_lt_length_of_mem (v i B)
  refine ⟨by omega,?_⟩
  simp only[List.getD_eq_getElem?_getD]
  rw[List.getElem?_eq_getElem r]
  simp
 have s: ∀p,p<ops.toList.length→c.idxOf (c.getD p 0)=p:=by
  intro p V
  simp only[List.getD_eq_getElem?_getD]
  rw[List.getElem?_eq_getElem (by omega:p<c.length)]
  simp only[Option.getD_some]
  exact List.Nodup.idxOf_getElem ac p (by omega)
 have af: ∀p q,p<q→q<ops.toList.length→Qq ops.toList c q p=false:=by
  intro p q W u
  have:=List.all_eq_true.1 (List.all_eq_true.1 J q (by simpa using u)) p (by simpa using W)
  simpa using this
 have a0:L0.filterMap (ops[·]?)=(L0.map (c.idxOf ·)).filterMap ((U9 ops.toList c)[·]?):=by
  rw[List.filterMap_map]
  refine Rr fun i B=>?_
  have:=g i B
  have r:=l i (by simpa using this)
  simp only[Function.comp]
  rw[d _ r.1,r.2]
  simp
 refine ⟨L0.map (c.idxOf ·),a0,⟨?_,?_,?_,?_,?_,?_,by simp[M,ab,U9]⟩,ak⟩
 ·intro o ho
  simp only[U9,List.mem_map] at ho
  obtain ⟨i,B,rfl⟩:=ho
  have A:i<ops.toList.length:=by simpa using List.all_eq_true.1 N i B
  simp only[Lu,List.all_eq_true,Bool.and_eq_true] at Y
  have:=(Y (ops.toList[i],i) (by rw[List.mem_zipIdx_iff_getElem?];simpa using A)).1.1
  rw[List.getD_eq_getElem?_getD,List.getElem?_eq_getElem A]
  exact this
 ·intro p q a b' W ha D E
  have V:p<ops.toList.length:=by have:=(List.getElem?_eq_some_iff.1 ha).1;omega
  have u:q<ops.toList.length:=by have:=(List.getElem?_eq_some_iff.1 D).1;omega
  rw[d p V] at ha
  rw[d q u] at D
  have aa: ∀i i' x x',i<i'→ops.toList[i]? =some x→ops.toList[i']? =some x'→(Qv x x'||Qv x' x)=true→((Q0D ops.toList []).getD i' 0).testBit i=true:=by
   intro i i' x x' aq hx a1 E
   simp only[Q7q,List.all_eq_true] at hc
   have:=hc (x',i') (by rw[List.mem_zipIdx_iff_getElem?];simpa using a1) (x,i) (by rw[List.mem_zipIdx_iff_getElem?];simpa using hx)
   simp only[aq,E,decide_true,Bool.not_true,Bool.false_or,Bool.or_self] at this
   exact this
  have ag:c.getD p 0≠c.getD q 0:=by
   intro e
   have:=s p V
   rw[e,s q u] at this
   omega
  rcases Nat.lt_or_gt_of_ne ag with h | h
  ·exact aa _ _ a b' h ha D E
  ·have r:=aa _ _ b' a h D ha (by rw[Bool.or_comm];exact E)
   have z:=af p q W u
   unfold Qq at z
   rw[r] at z;cases z
 ·intro q o j b' u aw
  have H:q<ops.toList.length:=by have:=(List.getElem?_eq_some_iff.1 u).1;omega
  rw[d q H] at u
  have O:j∈A6 ops.toList (c.getD q 0):=by
   have al:=Y
   simp only[Lu,List.all_eq_true,Bool.and_eq_true] at al
   have:=(al (o,c.getD q 0) (by rw[List.mem_zipIdx_iff_getElem?];simpa using u)).2
   rw[aw] at this
   simp only[List.any_eq_true] at this
   obtain ⟨e,ap,a5⟩:=this
   unfold A6
   rw[u]
   simp only[Option.map_some,Option.getD_some,List.mem_map]
   exact ⟨e,ap,by simpa using a5⟩
  have ar:=Ir Y _ (f q H) j O
  have hj:j<ops.toList.length:=by have:=f q H;omega
  have D:=Q59 (ops:=ops.toList) ops.toList [] (by simp) (by simp) (by intro j k hj;simp at hj) _ j (f q H) O
  obtain ⟨r,z⟩:=l j hj
  have Q:Qq ops.toList c (c.idxOf j) q=true:=by unfold Qq;rw[z];exact D
  refine ⟨c.idxOf j,?_,by rw[d _ r,z],Q⟩
  rcases Nat.lt_trichotomy (c.idxOf j) q with h | h | h
  ·exact h
  ·rw[←h,z] at ar;omega
  ·have:=af q _ h r
   rw[Q] at this;cases this
 ·refine List.pairwise_map.2 (aj.imp_of_mem ?_)
  intro x y hx hy a4 av
  have r:=(l x (by simpa using g x hx)).2
  have z:=(l y (by simpa using g y hy)).2
  exact a4 (by rw[←r,←z,av])
 ·intro q u
  simp only[List.mem_map] at u
  obtain ⟨i,B,rfl⟩:=u
  have:=(l i (by simpa using g i B)).1
  omega
 ·intro bg q a8 hL p D V
  rw[List.map_eq_append_iff] at hL
  obtain ⟨ai,a7,ae,Z,C⟩:=hL
  rw[List.map_eq_cons_iff] at C
  obtain ⟨i,U,hr,B,a3⟩:=C
  subst hr B Z
  have A:i<ops.toList.length:=by simpa using g i (by rw[ae];simp)
  obtain ⟨r,z⟩:=l i A
  unfold Qq at D
  rw[z] at D
  have a6:p<ops.toList.length:=by omega
  have:=Q5t Y w i A (c.getD p 0) ai U ae D
  rw[List.mem_map]
  exact ⟨c.getD p 0,this,s p a6⟩
theorem X29 (P:Program) (ops:Array Oper) (T:World→World→Prop) (B:World→Prop) (W6:List Value→World→Prop) (i:List Value) (c:Sw ops.toList i.length=true)
 (N: ∀w w',B w→T w w'→B w')
 (h:chain P ops.toList T B W6 ((U9 ops.toList (K5 ops.toList)).drop (Hz ops.toList (K5 ops.toList) ops.toList.length)) 0
  ((U9 ops.toList (K5 ops.toList)).take (Hz ops.toList (K5 ops.toList) ops.toList.length)) (i.map .val) [] [])
 (b:Bool) (t:Nat) (w:World) (y:B w):Z5 P ops.toList W6 ((Region.schedule b ops t).filterMap (ops[·]?)) i w:=by
 obtain ⟨L,k,g,r⟩:=Q4q c b t
 simp only[Sw,Bool.and_eq_true] at c
 obtain ⟨⟨⟨⟨⟨n,Q⟩,u⟩,O⟩,⟨s,M⟩,E⟩,o⟩:=c
 generalize K5 ops.toList=a at*
 obtain ⟨Φ,_,D⟩:=Q1j P ops.toList T B W6 _ _ 0 (i.map .val) [] [] (by intro e n j A;simp only[List.mem_map] at n;obtain ⟨v,_,rfl⟩:=n;cases A) (by simp) (by simp[Vf]) h
 rw[k]
 obtain ⟨l,f⟩:=Q8P ops.toList a ops.toList.length
 exact X4d (os:=U9 ops.toList a) (m:=Hz ops.toList a ops.toList.length) (T:=T) (B:=B) (Φ:=Φ) (Qq ops.toList a) g.hpl u (fun d C=>by simpa using List.all_eq_true.1 O d C) g.hclash g.hg (by omega)
  (fun q H z p J=>f q H (by omega) p J) N D L g.hn g.hLl g.hlt g.hC _ [] rfl (by simp) i (fun _=>undef) w
  ⟨rfl,by simp,fun _ _=>rfl,by simp⟩ y (by simp)
def Uv {α:Type} (P:Program) (s:Sem α):Prop:= ∀w v w',s.run P w= .ok v w'→w'=w
section
variable {P : Program} {α β : Type}
theorem Mj (a:α):Uv P (Pure.pure a:Sem α):=fun w v w' h=>by simp at h;exact h.2.symm
theorem Q6X (m:String):Uv P (stuck m:Sem α):=fun w v w' h=>by simp at h
theorem Yr {s:Sem α} {f:α→Sem β} (c:Uv P s) (d: ∀a,Uv P (f a)):Uv P (s>>=f):=fun w v w' h=>by
 rw[Sem.run_bind] at h
 cases b:s.run P w with
 | halt x w1=>rw[b] at h;simp[Result.andThen] at h
 | ok a w1=>
  rw[b] at h
  have:=c _ _ _ b
  subst this
  exact d a _ _ _ h
theorem Q3w (a:Addr) (m:Mode):Uv P (load a m):=fun w v w' h=>by
 unfold load at h
 simp only[Sem.run] at h
 split at h
 ·cases h;rfl
 ·split at h
  ·cases h;rfl
  ·cases h
theorem Q3L (t:TypeId):Uv P (typeInfo t):=fun w v w' h=>by
 unfold typeInfo at h
 simp only[Sem.run_bind,run_program,Result.andThen_ok] at h
 split at h<;>simp at h
 exact h.2.symm
theorem Q2w (t:TypeId):Uv P (underlying t):=fun w v w' h=>by
 unfold underlying at h
 simp only[Sem.run_bind,run_program,Result.andThen_ok] at h
 split at h<;>simp at h
 exact h.2.symm
theorem Q71 (t:TypeId):Uv P (isAgg t):=by
 unfold isAgg
 refine Yr (Q2w t) fun d=>?_
 split<;>exact Mj _
theorem Q6d (t:TypeId):Uv P (sizeOf t):=Yr (Q3L t) fun _=>Mj _
theorem Q2p (a:Addr): ∀(n i:Nat) (b:Array Value),Uv P (loadCellsFrom a i n b)
 | 0,i,b=>Mj _
 | n+1,i,b=>Yr (Q3w _ _) fun v=>Q2p a n (i+1) _
theorem Q4L (t:TypeId) (a:Addr):Uv P (loadVar t a):=by
 unfold loadVar
 refine Yr (Q71 t) fun b=>?_
 split
 ·exact Yr (Q6d t) fun n=>Yr (Q2p a n 0 #[]) fun cs=>Mj _
 ·exact Q3w _ _
theorem Q6r (t:TypeId) (v:Value):Uv P (Instr.loadAt t v):=by
 unfold Instr.loadAt
 refine Yr ?_ fun a=>Q4L t a
 unfold Instr.sureAddr
 split
 ·exact Mj _
 ·exact Q6X _
def Ut (P:Program) (s:Sem α):Prop:= ∀w v w1,s.run P w= .ok v w1→w1=w∧ ∀w',s.run P w'= .ok v w'
theorem Jm (a:α):Ut P (Pure.pure a:Sem α):=fun w v w' h=>by simp at h⊢;exact ⟨h.2.symm,h.1⟩
theorem Nv (m:String):Ut P (stuck m:Sem α):=fun w v w' h=>by simp at h
theorem Qk {s:Sem α} {f:α→Sem β} (g:Ut P s) (i: ∀a,Ut P (f a)):Ut P (s>>=f):=fun w v w' h=>by
 rw[Sem.run_bind] at h
 cases b:s.run P w with
 | halt x w1=>rw[b] at h;simp[Result.andThen] at h
 | ok a w1=>
  rw[b] at h
  obtain ⟨rfl,j⟩:=g _ _ _ b
  obtain ⟨d,e⟩:=i a _ _ _ h
  refine ⟨d,fun c=>?_⟩
  rw[Sem.run_bind,j c]
  exact e c
theorem Q4K (t:TypeId):Ut P (typeInfo t):=fun w v w' h=>by
 unfold typeInfo at h⊢
 simp only[Sem.run_bind,run_program,Result.andThen_ok] at h⊢
 split at h<;>simp at h
 rename_i i a
 refine ⟨h.2.symm,fun w'=>?_⟩
 simp[a,h.1]
theorem Bg (t:TypeId):Ut P (underlying t):=fun w v w' h=>by
 unfold underlying at h⊢
 simp only[Sem.run_bind,run_program,Result.andThen_ok] at h⊢
 split at h<;>simp at h
 rename_i i a
 refine ⟨h.2.symm,fun w'=>?_⟩
 simp[a,h.1]
theorem Q0X (v:Value) (i:Nat):Ut P (Instr.extract v i):=by
 unfold Instr.extract
 split
 ·split
  ·exact Jm _
  ·exact Nv _
 ·exact Nv _
theorem Q9G (v:Value):Ut P (Instr.sureAddr v):=by
 unfold Instr.sureAddr
 split
 ·exact Jm _
 ·exact Nv _
theorem Q3E {s:Sem α} (h: ∀w v w',s.run P w≠ .ok v w'):Ut P s:=fun w v w' e=>absurd e (h w v w')
theorem Q3Y {s:Sem α} {f:α→Sem β} (c: ∀a w v w',(f a).run P w≠ .ok v w'): ∀w v w',(s>>=f).run P w≠ .ok v w':=fun w v w' h=>by
 rw[Sem.run_bind] at h
 cases b:s.run P w with
 | halt x w1=>rw[b] at h;simp[Result.andThen] at h
 | ok a w1=>rw[b] at h;exact c a _ _ _ h
theorem Q3g (e:Int×Int×Bool×BoundsCode): ∀w v w',(runtimePanic (.bounds e.1 e.2.1 e.2.2.1 e.2.2.2):Sem α).run P w≠ .ok v w':=by
 unfold runtimePanic
 exact Q3Y fun p=>fun w v w' h=>by cases h
theorem Q2n (k:IntKind) (x y:Int) (c:BoundsCode):Ut P (boundsPanic k x y c:Sem α):=Q3E (by
 unfold boundsPanic
 dsimp only
 split
 ·exact Q3Y fun b=>Q3g (_,_,_,_)
 ·exact Q3Y fun b=>Q3g (_,_,_,_))
theorem Q0S (t:TypeId) (x i:Value):Ut P (Instr.indexAt t x i):=by
 unfold Instr.indexAt
 refine Qk ?_ fun q=>?_
 ·unfold asIntOf
  split
  ·exact Jm _
  ·exact Q3E fun w v w' h=>by cases h
  ·exact Nv _
 refine Qk (Bg t) fun d=>?_
 dsimp only
 have key: ∀(z:Option Addr×Nat×TypeId),Ut P (match z with
  | (base,b,elem)=>do
   let __do_lift←underlying t
   have c:Bool:=decide (b≤1)&&match __do_lift with
    | TypeDesc.array b elem=>true
    | x=>false
   match base with
    | some a=>
     if 0≤q.snd∧q.snd< ↑b then do
      let __do_lift←sizeOf elem
      pure (Value.pointer (some (a.add (q.snd.toNat*__do_lift))))
     else
      if c=true then unsupported (Unsupported.noEntry "op/indexAddr.an index out of range at an array of length 0 or 1 (ledger 616)")
      else boundsPanic q.fst q.snd (↑b) BoundsCode.index
    | none=>boundsPanic q.fst q.snd 0 BoundsCode.index):=by
  rintro ⟨base,b,elem⟩
  dsimp only
  refine Qk (Bg t) fun g=>?_
  cases base with
  | none=>exact Q2n _ _ _ _
  | some a=>
   dsimp only
   by_cases e:0≤q.snd∧q.snd< ↑b
   ·rw[if_pos e]
    exact Qk (Qk (Q4K _) fun _=>Jm _) fun n=>Jm _
   ·rw[if_neg e]
    by_cases f:(decide (b≤1)&&match g with
     | TypeDesc.array b elem=>true
     | x=>false)=true
    ·rw[if_pos f]
     exact Q3E fun w v w' h=>by cases h
    ·rw[if_neg f]
     exact Q2n _ _ _ _
 split
 ·exact Qk (Q9G _) fun a=>Qk (Jm _) key
 ·exact Qk (Jm _) key
 ·exact Qk (Nv _) key
def Q3D (o:Oper):Bool:=match o.op with | .move _ | .assign _ | .load .. | .extract .. | .indexAddr .. =>true | _=>false
def Q8v (o:Oper):Bool:=match o.op with | .move _ | .assign _ | .extract .. | .indexAddr .. =>true | _=>false
theorem Q36 {s:Sem Value} {w:World} {K:Value→World→Prop} (h:op P (sv s) w K): ∃v w',s.run P w= .ok v w'∧K v w':=by
 rw[T9] at h
 unfold P5 sv at h
 rw[Sem.run_bind] at h
 cases a:s.run P w with
 | halt x w1=>rw[a] at h;exact h.elim
 | ok v w1=>rw[a] at h;exact ⟨v,w1,rfl,h⟩
theorem Q2Y {s:Sem Value} {v:Value} {w w':World} {K:Value→World→Prop} (h:s.run P w= .ok v w') (k:K v w'):op P (sv s) w K:=by
 rw[T9]
 unfold P5 sv
 rw[Sem.run_bind,h]
 exact k
theorem Q5I {l:List Value} {o:Oper} {w:World} {K:Value→World→Prop} (h:Q3D o=true) (e:W8 P l o w K): ∃v,K v w∧ ∀c,c v w→W8 P l o w c:=by
 obtain ⟨d,p,i,pos,j,g⟩:=o
 cases p<;>(first | (simp[Q3D] at h;done) | skip)<;>simp only[W8] at e⊢
 ·exact ⟨_,e,fun c a=>a⟩
 ·exact ⟨_,e,fun c a=>a⟩
 ·obtain ⟨v,w',b,f⟩:=Q36 e
  have:=Q6r _ _ _ _ _ b
  subst this
  exact ⟨v,f,fun c a=>Q2Y b a⟩
 ·obtain ⟨v,w',b,f⟩:=Q36 e
  have:=(Q0S _ _ _ _ _ _ b).1
  subst this
  exact ⟨v,f,fun c a=>Q2Y b a⟩
 ·obtain ⟨v,w',b,f⟩:=Q36 e
  have:=(Q0X _ _ _ _ _ b).1
  subst this
  exact ⟨v,f,fun c a=>Q2Y b a⟩
theorem Q5W {l:List Value} {o:Oper} {w:World} {K:Value→World→Prop} (h:Q8v o=true) (c:W8 P l o w K): ∃v,K v w∧ ∀w' b,b v w'→W8 P l o w' b:=by
 obtain ⟨d,p,j,pos,k,g⟩:=o
 cases p<;>(first | (simp[Q8v] at h;done) | skip)<;>simp only[W8] at c⊢
 ·exact ⟨_,c,fun w' b a=>a⟩
 ·exact ⟨_,c,fun w' b a=>a⟩
 ·obtain ⟨v,w',e,i⟩:=Q36 c
  obtain ⟨rfl,f⟩:=Q0S _ _ _ _ _ _ e
  exact ⟨v,i,fun w' b a=>Q2Y (f w') a⟩
 ·obtain ⟨v,w',e,i⟩:=Q36 c
  obtain ⟨rfl,f⟩:=Q0X _ _ _ _ _ e
  exact ⟨v,i,fun w' b a=>Q2Y (f w') a⟩
end
structure Swap (ops : List Oper) (a b : Oper) : Prop where
  pa : Xr a.op = true
  pb : Xr b.op = true
  ga : a.guard = none
  ab : ∀ d, a.dst = some d → d ∉ R5 ops b ++ B9 b
  ba : ∀ d, b.dst = some d → d ∉ R5 ops a ++ B9 a
  dd : ∀ d, a.dst = some d → b.dst ≠ some d
  gb : ∀ j c, b.guard = some (j, c) → ((ops[j]?).bind (·.dst)).isSome = true
  rd : (Q3D a = true ∧ Q3D b = true ∧ b.guard = none) ∨ Q8v a = true
section
variable {P : Program} {ops : List Oper} {W6 : List Value → World → Prop}
theorem Q2N {l:List Value} {d:Option Nat} {v:Value} {s:Nat} (h: ∀e,d=some e→e≠s):get (put l d v) s=get l s:=by
 cases d with
 | none=>rfl
 | some e=>simp only[put,get,List.getD_eq_getElem?_getD,List.getElem?_set_ne (h e rfl)]
theorem Q9d {l:List Value} {d e:Option Nat} {v u:Value} (h: ∀x,d=some x→e≠some x):put (put l d v) e u=put (put l e u) d v:=by
 cases d with
 | none=>rfl
 | some d=>cases e with
  | none=>rfl
  | some e=>simp only[put];exact List.set_comm _ _ (by intro a;subst a;exact h d rfl rfl)
theorem Q49 {o:Oper} {s:Nat} (a:Operand.tmp s∈o.op.operands):s∈B9 o:=by
 simp only[B9,List.mem_filterMap]
 exact ⟨.tmp s,by simpa using a,rfl⟩
theorem Q76 {a b:Oper} {R:List Oper} {l:List Value} {w:World} (Q:Swap ops a b) (h:Z5 P ops W6 (a::b::R) l w):Z5 P ops W6 (b::a::R) l w:=by
 obtain ⟨pa,N,Y,B,X,U,W,H⟩:=Q
 have r: ∀v,W8 P (put l a.dst v) b=W8 P l b:=fun v=>Ea N fun x y=>by
  cases x with
  | tmp s=>exact Q2N fun e m f=>B e m (List.mem_append_right _ (f▸Q49 y))
  | _=>rfl
 have n: ∀v,W8 P (put l b.dst v) a=W8 P l a:=fun v=>Ea pa fun x y=>by
  cases x with
  | tmp s=>exact Q2N fun e m f=>X e m (List.mem_append_right _ (f▸Q49 y))
  | _=>rfl
 have o: ∀v u,put (put l b.dst u) a.dst v=put (put l a.dst v) b.dst u:=fun v u=>(Q9d U).symm
 simp only[Z5,Y] at h⊢
 cases k:b.guard with
 | none=>
  simp only[k] at h⊢
  rcases H with ⟨M,Z,_⟩ | fa
  ·obtain ⟨E,g,i⟩:=Q5I M h
   rw[r] at g
   obtain ⟨D,O,V⟩:=Q5I Z g
   refine V _ ?_
   rw[n]
   exact i _ (by rw[o];exact O)
  ·obtain ⟨E,g,i⟩:=Q5W fa h
   rw[r] at g
   refine K6 (fun D w' t=>?_) g
   rw[n]
   exact i w' _ (by rw[o];exact t)
 | some q=>
  obtain ⟨j,c⟩:=q
  rcases H with ⟨_,_,C⟩ | fa
  ·rw[k] at C;cases C
  obtain ⟨d,J⟩:=Option.isSome_iff_exists.1 (W j c k)
  have A:d∈R5 ops b:=by simp[R5,k,J]
  have L: ∀v,get (put l a.dst v) d=get l d:=fun v=>Q2N fun e m f=>B e m (List.mem_append_left _ (f▸A))
  simp only[k,J] at h⊢
  obtain ⟨E,g,i⟩:=Q5W fa h
  rw[r,L] at g
  refine Q0M ((Lj g).imp (fun ⟨z,p⟩=>⟨z,K6 (fun D w' t=>?_) p⟩) (fun ⟨z,p⟩=>⟨z,?_⟩))
  ·rw[n];exact i w' _ (by rw[o];exact t)
  ·rw[n];exact i w _ (by rw[o];exact p)
theorem Q28 {a:Oper} {R R':List Oper} {l:List Value} {w:World} (b: ∀l w,Z5 P ops W6 R l w→Z5 P ops W6 R' l w) (h:Z5 P ops W6 (a::R) l w):Z5 P ops W6 (a::R') l w:=by
 simp only[Z5] at h⊢
 cases i:a.guard with
 | none=>simp only[i] at h⊢;exact K6 (fun v w f=>b _ _ f) h
 | some q=>
  obtain ⟨j,c⟩:=q
  simp only[i] at h⊢
  cases k:(ops[j]?).bind (·.dst) with
  | none=>simp only[k] at h⊢;exact b _ _ h
  | some d=>
   simp only[k] at h⊢
   exact Q0M ((Lj h).imp (fun ⟨g,e⟩=>⟨g,K6 (fun m w' f=>b _ _ f) e⟩) (fun ⟨g,e⟩=>⟨g,b _ _ e⟩))
theorem Q0r {q:Oper} {R:List Oper}: ∀(A:List Oper) {l:List Value} {w:World},(∀a∈A,Swap ops a q)→Z5 P ops W6 (A++q::R) l w→Z5 P ops W6 (q::(A++R)) l w
 | [],_,_,_,h=>h
 | a::A,l,w,c,h=>Q76 (c a (by simp)) (Q28 (R:=A++q::R) (fun _ _ h=>Q0r A (fun b d=>c b (by simp[d])) h) h)
theorem Ns: ∀(A:List Oper) {B:List Oper} {l:List Value} {w:World},Z5 P ops W6 (A++B) l w=Z5 P ops (fun l w=>Z5 P ops W6 B l w) A l w
 | [],B,l,w=>rfl
 | a::A,B,l,w=>by
  simp only[List.cons_append,Z5]
  split
  ·congr 1;funext v w;exact Ns A
  ·split
   ·congr 1;funext v w;exact Ns A
   ·exact Ns A
theorem Q8a {A B B':List Oper} {l:List Value} {w:World} (c: ∀l w,Z5 P ops W6 B l w→Z5 P ops W6 B' l w): ∀{l:List Value} {w:World},Z5 P ops W6 (A++B) l w→Z5 P ops W6 (A++B') l w:=by
 induction A with
 | nil=>exact fun h=>c _ _ h
 | cons a A b=>exact fun h=>Q28 (fun _ _ h=>b h) h
theorem Q7l (os:List Oper) (i:Nat→Nat→Bool) (s: ∀p q a b,p<q→os[p]? =some a→os[q]? =some b→i p q=false→Swap ops a b):
 ∀(n:Nat) (W6:List Value→World→Prop) (L:List Nat) (l:List Value) (w:World),L.Nodup→L.length=n→(∀q∈L,q<n)→n≤os.length→L.Pairwise (fun q p=>p<q→i p q=false)→
  Z5 P ops W6 (os.take n) l w→Z5 P ops W6 (L.filterMap (os[·]?)) l w
 | 0,W6,L,l,w,v,z,g,D,E,h=>by
  have:L=[]:=List.eq_nil_of_length_eq_zero z
  subst this;exact h
 | n+1,W6,L,l,w,v,z,g,D,E,h=>by
  have Q:n∈L:=Classical.byContradiction fun r=>by
   have O:=G4 n L v fun k M=>by
    have t:=g k M
    have J:k≠n:=fun e=>r (e▸M)
    omega
   omega
  obtain ⟨A,B,rfl⟩:=List.append_of_mem Q
  have d:n<os.length:=by omega
  have c:os[n]? =some os[n]:=List.getElem?_eq_getElem d
  have u:=List.nodup_append.1 v
  have y:n∉B:=(List.nodup_cons.1 u.2.1).1
  have H:n∉A:=fun e=>u.2.2 n e n (by simp) rfl
  have U:os.take (n+1)=os.take n++[os[n]]:=(List.take_append_getElem d).symm
  rw[U,Ns] at h
  have m: ∀q∈A++B,q<n:=fun q N=>by
   have O:q<n+1:=g q (by rcases List.mem_append.1 N with h | h<;>simp[h])
   have t:q≠n:=fun e=>by
    subst e
    rcases List.mem_append.1 N with h | h
    ·exact H h
    ·exact y h
   omega
  have f:(A++B).Sublist (A++n::B):=List.Sublist.append (List.Sublist.refl A) (List.sublist_cons_self n B)
  have t:=Q7l os i s n _ (A++B) l w (v.sublist f) (by simp at z⊢;omega) m (by omega) (E.sublist f) h
  rw[←Ns] at t
  rw[List.filterMap_append,List.append_assoc] at t
  rw[List.filterMap_append,List.filterMap_cons,c]
  refine Q8a (l:=l) (w:=w) (fun l w J=>?_) t
  have:=Q0r (R:=[]) (B.filterMap (os[·]?)) (fun a W=>?_) J
  ·rwa [List.append_nil] at this
  ·obtain ⟨p,o,C⟩:=List.mem_filterMap.1 W
   have j:=m p (List.mem_append_right _ o)
   refine s p n a _ j C c ?_
   have V:=(List.pairwise_append.1 E).2.1
   exact (List.pairwise_cons.1 V).1 p o j
end
def X1x (ops:List Oper) (a b:Oper):Bool:=
 (match a.guard with | none=>true | some _=>false)&&(match b.guard with | none=>true | some (j,_)=>match (ops[j]?).bind (·.dst) with | some _=>true | none=>false)&&
  ((Q3D a&&Q3D b&&(match b.guard with | none=>true | some _=>false))||Q8v a)
def X4e (o:Oper):Bool:=match o.op with | .call c=>(match c.callee with | .value (.func _)=>true | _=>false) | _=>false
def Q8e (ops:List Oper) (a:List Nat):Bool:=
 ops.any Q8o&&ops.any X4e&&(List.range ops.length).all fun q=>(List.range q).all fun p=>Qq ops a p q||X1x ops (ops.getD (a.getD p 0) default) (ops.getD (a.getD q 0) default)
theorem Gn {α:Type} {R:α→α→Prop}: ∀(a b:List α) {L:List α},L=b++a→(∀b q a,L=b++q::a→ ∀p∈a,R q p)→a.Pairwise R
 | [],_,_,_,_=>List.Pairwise.nil
 | q::a,b,L,c,h=>List.pairwise_cons.2 ⟨h b q a c,Gn a (b++[q]) (by rw[c];simp) h⟩
theorem X3d (P:Program) (ops:Array Oper) (W6:List Value→World→Prop) (U:List Value) (A:Sw ops.toList U.length=true) (M:Q8e ops.toList (K5 ops.toList)=true)
 (b:Bool) (t:Nat) (w:World) (h:Z5 P ops.toList W6 (U9 ops.toList (K5 ops.toList)) U w):Z5 P ops.toList W6 ((Region.schedule b ops t).filterMap (ops[·]?)) U w:=by
 obtain ⟨L,ac,m,aj⟩:=Q4q A b t
 simp only[Sw,Bool.and_eq_true] at A
 obtain ⟨⟨⟨⟨⟨he,hc⟩,hn⟩,V⟩,⟨ax,am⟩,ay⟩,af⟩:=A
 generalize K5 ops.toList=f at*
 rw[ac]
 refine Q7l (U9 ops.toList f) (Qq ops.toList f) (fun p q a g D s r B=>?_) _ W6 L U w m.hn rfl (fun q hq=>by rw[m.hLl];exact m.hlt q hq) (by rw[m.hLl];exact Nat.le_refl _) ?_ (by rw[m.hLl,List.take_length];exact h)
 ·have Z:q<ops.toList.length:=by have:=(List.getElem?_eq_some_iff.1 r).1;omega
  have aq:p<ops.toList.length:=by omega
  have v: ∀i o,(U9 ops.toList f)[i]? =some o→ops.toList.getD (f.getD i 0) default=o:=by
   intro i o E
   unfold U9 at E
   rw[List.getElem?_map] at E
   cases X:f[i]? with
   | none=>rw[X] at E;cases E
   | some x=>
    rw[X] at E
    simp only[Option.map_some,Option.some.injEq] at E
    rw[List.getD_eq_getElem?_getD (l:=f),X];exact E
  have y:(Qv a g||Qv g a)=false:=by
   cases z:Qv a g||Qv g a with
   | false=>rfl
   | true=>rw[m.hclash p q a g D s r z] at B;cases B
  rw[Bool.or_eq_false_iff] at y
  simp only[Q8e,Bool.and_eq_true] at M
  have hs:=List.all_eq_true.1 (List.all_eq_true.1 M.2 q (by simpa using Z)) p (by simpa using D)
  rw[B,Bool.false_or,v p a s,v q g r] at hs
  simp only[X1x,Bool.and_eq_true,Bool.or_eq_true] at hs
  obtain ⟨⟨g1,R⟩,g3⟩:=hs
  have N:a.guard=none:=by
   cases z:a.guard with
   | none=>rfl
   | some _=>rw[z] at g1;cases g1
  have c1: ∀d,a.dst=some d→d∉B9 g∧g.dst≠some d:=fun d V=>by
   have:=y.1
   unfold Qv at this
   rw[V] at this
   simp only[Bool.or_eq_false_iff] at this
   exact ⟨fun e=>by simp[e] at this,fun e=>by simp[e] at this⟩
  have c2: ∀d,g.dst=some d→d∉B9 a:=fun d V=>by
   have:=y.2
   unfold Qv at this
   rw[V] at this
   simp only[Bool.or_eq_false_iff] at this
   exact fun e=>by simp[e] at this
  refine ⟨m.hpl a (List.mem_of_getElem? s),m.hpl g (List.mem_of_getElem? r),N,fun d k=>?_,fun d k=>?_,fun d k=>(c1 d k).2,fun j c n=>?_,?_⟩
  ·rw[List.mem_append,not_or]
   refine ⟨fun e=>?_,(c1 d k).1⟩
   unfold R5 at e
   cases n:g.guard with
   | none=>rw[n] at e;simp at e
   | some q0=>
    obtain ⟨j,c⟩:=q0
    obtain ⟨p',ap,Q,O⟩:=m.hg q g j c r n
    rw[n] at e
    simp only at e
    cases u:ops.toList[j]?.map (·.dst) with
    | none=>
     cases J:ops.toList[j]? with
     | none=>rw[J] at e;simp at e
     | some W=>rw[J] at u;cases u
    | some dj=>
     cases J:ops.toList[j]? with
     | none=>rw[J] at u;cases u
     | some W=>
      rw[J] at e Q
      simp only[Option.bind_some] at e
      cases C:W.dst with
      | none=>rw[C] at e;simp at e
      | some d2=>
       rw[C] at e
       simp only[List.mem_singleton] at e
       subst e
       have:=Yv (U9 ops.toList f) hn p' p W a d Q s C k
       subst this
       rw[O] at B;cases B
  ·rw[List.mem_append,not_or]
   exact ⟨fun e=>by simp[R5,N] at e,c2 d k⟩
  ·rw[n] at R
   simp only at R
   cases z:(ops.toList[j]?).bind (·.dst) with
   | none=>rw[z] at R;cases R
   | some _=>rfl
  ·rcases g3 with ⟨⟨g3,g4⟩,g5⟩ | g3
   ·refine .inl ⟨g3,g4,?_⟩
    cases z:g.guard with
    | none=>rfl
    | some _=>rw[z] at g5;cases g5
   ·exact .inr g3
 ·refine Gn L [] (L:=L) rfl fun aa q H Y p hp D=>?_
  cases B:Qq ops.toList f p q with
  | false=>rfl
  | true=>
   have h1:=m.hC aa q H Y p B (m.hlt p (by rw[Y];simp[hp]))
   have h2:=m.hn
   rw[Y] at h2
   exact absurd rfl ((List.nodup_append.1 h2).2.2 p h1 p (by simp[hp]))
theorem X1y: ∃f:World→(World→Prop)→Prop,f=fun w A=>A w.drew:=⟨_,rfl⟩
noncomputable def sq:World→(World→Prop)→Prop:=Classical.choose X1y
theorem X1q:sq=fun w A=>A w.drew:=Classical.choose_spec X1y
def Q55:List Ent→Nat→Ent→(List Ent→Prop)→Prop
 | [],_,_,k=>k []
 | _::l,0,e,k=>k (e::l)
 | x::l,n+1,e,k=>Q55 l n e (fun l'=>k (x::l'))
def Q54 (S:List Ent) (d:Option Nat) (e:Ent) (k:List Ent→Prop):Prop:=
 match d with
 | some d=>Q55 S d e k
 | none=>k S
def Q8m:List Ent→Nat→(Ent→Prop)→Prop
 | [],_,k=>k (.val undef)
 | x::_,0,k=>k x
 | _::l,n+1,k=>Q8m l n k
def X00 (S:List Ent) (x:Operand) (k:Ent→Prop):Prop:=
 match x with
 | .tmp t=>Q8m S t k
 | .const v=>k (.val v)
 | .global g=>k (.val (.pointer (some ⟨g,0,none⟩)))
 | .func f=>k (.val (.func (.func f) #[] #[]))
def Q1G (u:Nat→Value):List Ent→(List Value→Prop)→Prop
 | [],k=>k []
 | .val v::S,k=>Q1G u S (fun l=>k (v::l))
 | .ref j::S,k=>Q1G u S (fun l=>k (u j::l))
def Q86:List Value→(List Ent→Prop)→Prop
 | [],k=>k []
 | v::l,k=>Q86 l (fun S=>k (.val v::S))
theorem Q56: ∀(S:List Ent) (n:Nat) (e:Ent) (k:List Ent→Prop),Q55 S n e k=k (Q2x S n e)
 | [],_,_,_=>rfl
 | _::_,0,_,_=>rfl
 | _::l,n+1,e,k=>by simp only[Q55,Q2x,Q56 l n e]
theorem Q2E (S:List Ent) (d:Option Nat) (e:Ent) (k:List Ent→Prop):Q54 S d e k=k (putE S d e):=by
 cases d with
 | none=>rfl
 | some d=>exact Q56 S d e k
theorem Q67: ∀(S:List Ent) (n:Nat) (k:Ent→Prop),Q8m S n k=k (getE S n)
 | [],_,_=>rfl
 | _::_,0,_=>rfl
 | _::l,n+1,k=>Q67 l n k
theorem Q9t (S:List Ent) (x:Operand) (k:Ent→Prop):X00 S x k=k (entOf S x):=by
 cases x with
 | tmp t=>exact Q67 S t k
 | _=>rfl
theorem Q2I (u:Nat→Value): ∀(S:List Ent) (k:List Value→Prop),Q1G u S k=k (Qf u S)
 | [],_=>rfl
 | .val v::S,k=>by simp only[Q1G,Q2I u S];rfl
 | .ref j::S,k=>by simp only[Q1G,Q2I u S];rfl
theorem Q7k: ∀(l:List Value) (k:List Ent→Prop),Q86 l k=k (l.map .val)
 | [],_=>rfl
 | v::l,k=>by simp only[Q86,Q7k l];rfl
noncomputable def Sn (P:Program) (ops:List Oper) (T:World→World→Prop) (B:World→Prop) (W6:List Value→World→Prop) (tail:List Oper):Nat→List Oper→List Ent→Sc→List Nat→Prop
 | _,[],S,b,done=>Pt done (fun _=>undef) fun u=> ∀w,B w→Q1r b u w (Q1G u S fun l=>Qj P ops W6 tail l w) done
 | i,o::a,S,b,done=>
  match mv o with
  | some x=>X00 S x fun e=>Q54 S o.dst e fun S=>Sn P ops T B W6 tail (i+1) a S b done
  | none=>match Q8o o with
   | true=>Sr T (fun φ=>Pt (refs ops S o) (fun _=>undef) fun u=> ∀w,B w→Kp b u w (runOp P ops (Qf u S) o w (dk T (φ ((refs ops S o).map u)) w)) (refs ops S o))
    (fun φ=>Q54 S o.dst (.ref i) fun c=>Sn P ops T B W6 tail (i+1) a c (b++[(i,refs ops S o,φ)]) (done++[i]))
   | false=>Q4 T (fun φ=>Pt (refs ops S o) (fun _=>undef) fun u=> ∀w,B w→Kp b u w (runOp P ops (Qf u S) o w (dk T φ w)) (refs ops S o))
    (fun φ=>Q54 S o.dst (.ref i) fun c=>Sn P ops T B W6 tail (i+1) a c (b++[(i,[],fun _=>φ)]) (done++[i]))
theorem Bo (P:Program) (ops:List Oper) (T:World→World→Prop) (B:World→Prop) (W6:List Value→World→Prop) (tail:List Oper): ∀(a:List Oper) (i:Nat) (S:List Ent) (b:Sc) (done:List Nat),
 Sn P ops T B W6 tail i a S b done=chain P ops T B W6 tail i a S b done
 | [],i,S,b,done=>by simp only[Sn,chain,Q2I]
 | o::a,i,S,b,done=>by
  simp only[Sn,chain]
  split
  ·rw[Q9t,Q2E,Bo]
  ·split
   ·congr 1
    funext φ
    rw[Q2E,Bo]
   ·congr 1
    funext φ
    rw[Q2E,Bo]
noncomputable def X1t (P:Program) (ops:List Oper) (W6:List Value→World→Prop) (l:List Value) (w:World):Prop:=
 dr w fun T B=>Q86 l fun S=>Sn P ops T B W6 ((U9 ops (K5 ops)).drop (Hz ops (K5 ops) ops.length)) 0 ((U9 ops (K5 ops)).take (Hz ops (K5 ops) ops.length)) S [] []
def Q1L (a b:List Nat):Bool:=a.all (b.contains ·)&&b.all (a.contains ·)
theorem Se {a b:List Nat} (h:Q1L a b=true) (i:Nat):a.contains i=b.contains i:=by
 simp only[Q1L,Bool.and_eq_true,List.all_eq_true] at h
 rw[Bool.eq_iff_iff]
 constructor
 ·intro c;exact h.1 i (by simpa using c)
 ·intro c;exact h.2 i (by simpa using c)
abbrev V5:=List (Option (List Nat×List Nat))
def V5.slots (a:V5):List (Option (List Nat)):=a.map (·.map (·.1))
theorem V5.slots_get (a:V5) (k:Nat):a.slots.getD k none=(a.getD k none).map (·.1):=by
 simp only[V5.slots,List.getD_eq_getElem?_getD,List.getElem?_map]
 cases a[k]? <;>rfl
noncomputable def Ws (P:Program) (b:V5) (a:List (Option (List Nat))):Nat→Code→Hl→List Value→World→Prop
 | _, .skip,Q,l,w=>Q .normal l w
 | _, .label _,Q,l,w=>Q .normal l w
 | _, .exit id,Q,l,w=>Q (.exit id) l w
 | _, .ret,Q,l,w=>Q .ret l w
 | _, .region _ ops false,Q,l,w=>Qj P ops.toList (fun l w=>Q .normal l w) ops.toList l w
 | _, .region _ ops true,Q,l,w=>match Sw ops.toList l.length with
  | true=>match Q8e ops.toList (K5 ops.toList) with
   | true=>sq w fun w=>Qj P ops.toList (fun l w=>Q .normal l w) (U9 ops.toList (K5 ops.toList)) l w
   | false=>X1t P ops.toList (fun l w=>Q .normal l w) l w
  | false=>False
 | k, .seq x y,Q,l,w=>match b.getD k none with
  | none=>Ws P b a (k+1) x (thn (fun l w=>Ws P b a (k+1+Qp x) y Q l w) Q) l w
  | some (f,g)=>match Q1L g (O6 a (k+1) x) with
   | true=>jn w (fun J w=>Ws P b a (k+1) x (thn (fun l' w'=>J (Df l' f) w') Q) l w)
    (fun z d w=>Gq f g z d 0 l fun l=>Ws P b a (k+1+Qp x) y Q l w)
   | false=>False
 | k, .cond c x y,Q,l,w=>X1 (ev l c) (Ws P b a k x Q l w) (Ws P b a (k+Qp x) y Q l w)
 | k, .block id c,Q,l,w=>Ws P b a k c (Q2T id Q) l w
 | k, .loop c,Q,l,w=>match b.getD k none with
  | none=>False
  | some (f,g)=>match Q1L g (O6 a (k+1) c) with
   | true=>lp (Df l f) w (fun e x d w=>Gq f g x d 0 l fun l=>Ws P b a (k+1) c (thn (fun l' w'=>e (Df l' f) w') Q) l w)
   | false=>False
 | _,_,_,_,_=>False
theorem Q0n {next a:List Value→World→Prop} {Q b:Hl} (c: ∀l w,next l w→a l w) (d: ∀e l w,Q e l w→b e l w): ∀e l w,thn next Q e l w→thn a b e l w:=by
 intro e l w h;cases e<;>first | exact c _ _ h | exact d _ _ _ h
theorem X0Z (P:Program) (r:V5) (c:Code): ∀(k:Nat) (Q j:Hl) (l:List Value) (w:World),(∀e l w,Q e l w→j e l w)→
 Ws P r r.slots k c Q l w→Db P r.slots k c j l w:=by
 induction c with
 | skip=>intro k Q j l w g h;exact g _ _ _ h
 | label n=>intro k Q j l w g h;exact g _ _ _ h
 | exit id=>intro k Q j l w g h;exact g _ _ _ h
 | ret=>intro k Q j l w g h;exact g _ _ _ h
 | goto n=>intro k Q j l w g h;exact h.elim
 | refuse s=>intro k Q j l w g h;exact h.elim
 | scope c=>intro k Q j l w g h;exact h.elim
 | rangeFunc f p a b=>intro k Q j l w g h;exact h.elim
 | region id ops u=>
  intro k Q j l w g h
  cases u with
  | true=>
   simp only[Ws] at h
   split at h
   ·rename_i A
    intro t
    have C:Z5 P ops.toList (fun l w=>Q .normal l w) ((Region.schedule (P.follows .mixedOrders) ops t).filterMap (ops[·]?)) l w.drew:=by
     split at h
     ·rename_i U
      simp only[X1q,Kh] at h
      exact X3d P ops _ l A U _ t _ h
     ·simp only[X1t,X1v,Q7Y,Q7k,Bo] at h
      obtain ⟨T,B,h0,hT,h⟩:=h
      exact X29 P ops T B _ l A hT h (P.follows .mixedOrders) t w.drew h0
    refine Uo P _ _ _ (S3 ops.toList) l _ _ _ ?_ (Qs.refl _ _) (fun l w H _=>g _ _ _ H) C
    intro o E d C
    simp only[List.mem_filterMap] at E
    obtain ⟨i,_,hi⟩:=E
    simp only[S3,List.contains_eq_mem,List.mem_filterMap,decide_eq_true_eq]
    exact ⟨o,by simpa using Array.mem_of_getElem? hi,C⟩
   ·exact h.elim
  | false=>
   simp only[Ws] at h
   rw[Kh] at h
   refine Uo P _ _ _ (S3 ops.toList) l _ _ _ ?_ (Qs.refl _ _) (fun l w H _=>g _ _ _ H) h
   intro o E d C
   simp only[S3,List.contains_eq_mem,List.mem_filterMap,decide_eq_true_eq]
   exact ⟨o,E,C⟩
 | seq x y q m=>
  intro k Q j l w g h
  simp only[Ws,Db] at h⊢
  rw[V5.slots_get]
  split at h
  ·rename_i v
   simp only[v,Option.map_none]
   exact q _ _ _ _ _ (Q0n (fun l w h=>m _ _ _ _ _ g h) g) h
  ·rename_i W Y v
   simp only[v,Option.map_some]
   split at h
   ·rename_i L
    obtain ⟨J,h1,h2⟩:=Q5D h
    refine Jc J (q _ _ _ _ _ (Q0n (fun l w h=>h) g) h1) fun z d w Z=>?_
    have V:=h2 z d w Z
    rw[Q4F,Cy _ _ _ (Se L)] at V
    exact m _ _ _ _ _ g V
   ·exact h.elim
 | cond c x y q m=>
  intro k Q j l w g h
  exact Q4d (q k _ _ _ _ g) (m _ _ _ _ _ g) h
 | block id c M=>
  intro k Q j l w g h
  refine M k _ _ _ _ ?_ h
  intro e l' w' D
  cases e with
  | exit ab=>simp only[Q2T] at D⊢;split<;>rename_i R<;>simp only[R,if_true,if_false] at D<;>exact g _ _ _ D
  | _=>exact g _ _ _ D
 | loop c M=>
  intro k Q j l w g h
  simp only[Ws,Db] at h⊢
  split at h
  ·exact h.elim
  ·rename_i W Y v
   have O:(r.slots.getD k none).getD []=W:=by rw[V5.slots_get,v];rfl
   split at h
   ·rename_i L
    subst O
    refine Q4n (fun N x d w X=>?_) h
    rw[Q4F,Cy _ _ _ (Se L)] at X
    exact M _ _ _ _ _ (Q0n (fun l w h=>h) g) X
   ·exact h.elim
def Q3z (P:Program) (t:TypeId) (a:Value) (w:World) (K:Value→Prop):Prop:= ∃v,(do loadVar t (←asAddr a):Sem Value).run P w= .ok v w∧K v
theorem Q3p: ∃f:Program→TypeId→Value→World→(Value→Prop)→Prop,f=Q3z:=⟨_,rfl⟩
noncomputable def Y8:Program→TypeId→Value→World→(Value→Prop)→Prop:=Classical.choose Q3p
theorem Q3v:Y8=Q3z:=Classical.choose_spec Q3p
noncomputable def Q6n (P:Program) (l:List Value) (K:List Value→World→Prop):List ResultVar→List Value→World→Prop
 | [],b,w=>K b.reverse w
 | .tmp t::c,b,w=>Q6n P l K c (get l t::b) w
 | .cell a t::c,b,w=>Y8 P t (get l a) w fun v=>Q6n P l K c (v::b) w
def Q31:List Value→Value
 | [v]=>v
 | vs=> .tuple vs.toArray
noncomputable def results (P:Program) (a:List ResultVar) (K:Value→World→Prop) (l:List Value) (w:World):Prop:=
 Q6n P l (fun vs w=>K (Q31 vs) w) a [] w
noncomputable def Q8C (P:Program) (fn:Func) (K:Value→World→Prop):Hl
 | .normal,l,w | .ret,l,w=>results P fn.results.toList K l w
 | _,_,_=>False
def X0F (K:Value→World→Prop) (e:Ending) (w:World):Prop:=match e with | .returned v=>K v w | _=>False
theorem Q5r (a:Array Value) (t:Nat):a.getD t undef=get a.toList t:=by
 simp[get,List.getD_eq_getElem?_getD]
theorem Q8V (vs:List Value):(if h:vs.toArray.size=1 then vs.toArray[0] else Value.tuple vs.toArray)=Q31 vs:=by
 match vs with
 | []=>rfl
 | [v]=>rfl
 | _::_::_=>rfl
theorem Q2u (P:Program) (l:List Value) (K:List Value→World→Prop) (f:ResultVar→Sem Value)
 (c: ∀t,f (.tmp t)=Pure.pure (get l t)) (d: ∀a t,f (.cell a t)=(do loadVar t (←asAddr (get l a)))): ∀(e:List ResultVar) (b:List Value) (w:World),Q6n P l K e b w→
 ∃vs,(e.mapM f).run P w= .ok vs w∧K (b.reverse++vs) w
 | [],b,w,h=>⟨[],by simp,by rw[List.append_nil];exact h⟩
 | .tmp t::e,b,w,h=>by
  obtain ⟨vs,g,i⟩:=Q2u P l K f c d e _ w h
  refine ⟨get l t::vs,?_,by simpa using i⟩
  rw[List.mapM_cons,c]
  simp[g]
 | .cell a t::e,b,w,h=>by
  simp only[Q6n,Q3v] at h
  obtain ⟨v,j,h⟩:=h
  obtain ⟨vs,g,i⟩:=Q2u P l K f c d e _ w h
  refine ⟨v::vs,?_,by simpa using i⟩
  rw[List.mapM_cons,d,Sem.run_bind,j]
  simp[g]
def X3t (a:Array Value):ResultVar→Sem Value
 | .tmp t=>Pure.pure (a.getD t undef)
 | .cell b t=>do loadVar t (←asAddr (a.getD b undef))
theorem Q5V (fn:Func) (a:Array Value):Go.results fn a=(do
 let vs←fn.results.mapM (X3t a)
 Pure.pure (if h:vs.size=1 then vs[0] else .tuple vs)):=by
 unfold Go.results
 congr 1
theorem Q2h (P:Program) (fn:Func) (K:Value→World→Prop) (a:Array Value) (w:World) (h:results P fn.results.toList K a.toList w):
 ∃v,(Go.results fn a).run P w= .ok v w∧K v w:=by
 rw[Q5V,Array.mapM_eq_mapM_toList]
 obtain ⟨vs,b,c⟩:=Q2u P a.toList (fun vs w=>K (Q31 vs) w) (X3t a) (fun t=>by rw[←Q5r];rfl) (fun d t=>by rw[←Q5r];rfl) fn.results.toList [] w h
 refine ⟨Q31 vs,?_,by simpa using c⟩
 rw[Sem.run_bind,Sem.run_map,b]
 simp only[Result.andThen_ok,Sem.run_pure,Q8V]
def Q0x (fn:Func) (a:List Value):List Value:=a++List.replicate (fn.ntmps-a.length) undef
theorem Q5U {P:Program} {f:FuncId} {fn:Func} {c:Code} {b:List Value} {w:World} {K:Value→World→Prop} (d:List (Option (List Nat)))
 (k:P.funcs[f]? =some fn) (j:fn.body=some c) (h:Db P d 0 c (Q8C P fn K) (Q0x fn b) w):Calls P f b.toArray w (X0F K):=by
 refine calls_of_wp k j (wp_mono (Q9V P d c 0 (Q8C P fn K) _ w rfl ?_) ?_)
 ·have:(b.toArray++Array.replicate (fn.ntmps-b.toArray.size) undef).toList=Q0x fn b:=by simp[Q0x]
  simp only[this];exact h
 ·intro e a w ⟨i,g⟩
  cases e with
  | normal=>exact ⟨i,Q2h P fn K _ _ g⟩
  | ret=>exact ⟨i,Q2h P fn K _ _ g⟩
  | _=>exact g.elim
theorem Wu {P:Program} {f:FuncId} {fn:Func} {a:List Value} {w:World} {K:Value→World→Prop}
 (i:P.funcs[f]? =some fn) (d:fn.body.isSome=true) (j:(fn.name== "runtime.NumGoroutine")=false) (h:Calls P f a.toArray w (X0F K)):Q1 P f a w K:=by
 have g:(callFunc f a.toArray).run P w= .ok (.enter f a.toArray) w:=by
  unfold callFunc
  simp only[Sem.run_bind,run_program,Result.andThen_ok,i,j,Bool.false_eq_true,if_false]
  cases b:fn.body with
  | none=>rw[b] at d;cases d
  | some c=>simp
 unfold Q1
 rw[T9]
 unfold P5
 rw[g]
 refine h.mono fun e w' k=>?_
 cases e<;>exact k
theorem Q3N {P:Program} {f:FuncId} {fn:Func} {a:List Value} {w:World} {K:Value→World→Prop}
 (i:P.funcs[f]? =some fn) (d:fn.body.isSome=true) (j:(fn.name== "runtime.NumGoroutine")=false) (h:Q1 P f a w K):Calls P f a.toArray w (X0F K):=by
 have g:(callFunc f a.toArray).run P w= .ok (.enter f a.toArray) w:=by
  unfold callFunc
  simp only[Sem.run_bind,run_program,Result.andThen_ok,i,j,Bool.false_eq_true,if_false]
  cases b:fn.body with
  | none=>rw[b] at d;cases d
  | some c=>simp
 unfold Q1 at h
 rw[T9] at h
 unfold P5 at h
 rw[g] at h
 refine Calls.mono h fun e w' k=>?_
 cases e<;>exact k
theorem X2t {P:Program} {f:FuncId} {fn:Func} {b:List Value} {w:World} {K:Value→World→Prop} (a:V5)
 (g:P.funcs[f]? =some fn) (d:fn.body.isSome=true) (i:(fn.name== "runtime.NumGoroutine")=false)
 (h:Ws P a a.slots 0 (fn.body.getD .skip) (Q8C P fn K) (Q0x fn b) w):Q1 P f b w K:=by
 refine Wu g d i ?_
 obtain ⟨c,e⟩:=Option.isSome_iff_exists.1 d
 rw[e] at h
 exact Q5U a.slots g e (X0Z P a c 0 _ _ _ _ (fun _ _ _ h=>h) h)
theorem Q9 {P:Program} {f:FuncId} {fn:Func} {a:List Value} {w:World} {K:Value→World→Prop} {g:Prop} (b:V5)
 (d:P.funcs[f]? =some fn) (c:fn.body.isSome=true) (e:(fn.name== "runtime.NumGoroutine")=false)
 (i:g=Ws P b b.slots 0 (fn.body.getD .skip) (Q8C P fn K) (Q0x fn a) w) (h:g):Q1 P f a w K:=
 X2t b d c e (i▸h)
theorem Z7 {P:Program} {f:FuncId} {first caps:List Value} {a:List Value} {w:World} {K:Value→World→Prop} (h:Q1 P f (first++a++caps) w K):Z3 P (.func (.func f) first.toArray caps.toArray) a w K:=by
 simpa [Z3,Q1,Deferred.ofValue,invoke,pure_bind,List.append_toArray] using h
end Go.Emb

namespace Go.Proofs.YtjdiakhipmggjaaGreatDoor
noncomputable abbrev P : Program := Tryz.prog
namespace F
abbrev cd : Nat := 11
abbrev cN : Nat := 12
abbrev aA : Nat := 13
abbrev ai : Nat := 14
abbrev cO : Nat := 15
abbrev b4 : Nat := 16
abbrev c2 : Nat := 17
abbrev v : Nat := 18
abbrev ac : Nat := 19
abbrev aB : Nat := 20
abbrev bN : Nat := 21
abbrev aG : Nat := 22
abbrev bz : Nat := 23
abbrev aj : Nat := 24
abbrev ag : Nat := 25
abbrev ak : Nat := 26
abbrev aC : Nat := 27
abbrev bA : Nat := 28
abbrev cv : Nat := 29
abbrev aP : Nat := 30
abbrev ce : Nat := 31
abbrev c3 : Nat := 32
abbrev aJ : Nat := 33
abbrev aQ : Nat := 34
abbrev bB : Nat := 35
abbrev a3 : Nat := 36
abbrev aR : Nat := 37
abbrev bC : Nat := 38
abbrev c4 : Nat := 40
abbrev cF : Nat := 41
abbrev cy : Nat := 42
abbrev cz : Nat := 43
abbrev j : Nat := 44
abbrev bb : Nat := 45
abbrev o : Nat := 46
abbrev bj : Nat := 47
abbrev bk : Nat := 48
abbrev b5 : Nat := 49
abbrev aS : Nat := 50
abbrev aH : Nat := 51
abbrev aD : Nat := 52
abbrev n : Nat := 53
abbrev cs : Nat := 54
abbrev bD : Nat := 55
abbrev bO : Nat := 56
abbrev bc : Nat := 57
abbrev bl : Nat := 58
abbrev bP : Nat := 59
abbrev bQ : Nat := 60
abbrev bR : Nat := 61
abbrev bS : Nat := 62
abbrev bT : Nat := 63
abbrev b0 : Nat := 64
abbrev aK : Nat := 65
abbrev aE : Nat := 66
abbrev b6 : Nat := 67
abbrev cS : Nat := 68
abbrev s : Nat := 69
abbrev aT : Nat := 70
abbrev bE : Nat := 71
abbrev b7 : Nat := 72
abbrev p : Nat := 73
abbrev bF : Nat := 74
abbrev k : Nat := 75
abbrev bG : Nat := 76
abbrev cG : Nat := 77
abbrev cA : Nat := 78
abbrev a8 : Nat := 79
abbrev ad : Nat := 80
abbrev c7 : Nat := 81
abbrev h : Nat := 82
abbrev b8 : Nat := 83
abbrev x : Nat := 84
abbrev c8 : Nat := 85
abbrev c : Nat := 86
abbrev z : Nat := 87
abbrev aI : Nat := 88
abbrev bm : Nat := 89
abbrev an : Nat := 90
abbrev ao : Nat := 91
abbrev aZ : Nat := 92
abbrev a : Nat := 93
abbrev aL : Nat := 94
abbrev cg : Nat := 95
abbrev bd : Nat := 96
abbrev c5 : Nat := 97
abbrev a9 : Nat := 98
abbrev bn : Nat := 99
abbrev bo : Nat := 100
abbrev b : Nat := 101
abbrev be : Nat := 102
abbrev al : Nat := 103
abbrev b1 : Nat := 104
abbrev b9 : Nat := 105
abbrev a1 : Nat := 106
abbrev a2 : Nat := 107
abbrev aM : Nat := 108
abbrev aO : Nat := 109
abbrev bp : Nat := 110
abbrev y : Nat := 111
abbrev bH : Nat := 113
abbrev a0 : Nat := 114
abbrev cw : Nat := 115
abbrev bI : Nat := 116
abbrev q : Nat := 117
abbrev e : Nat := 118
abbrev a4 : Nat := 119
abbrev ah : Nat := 120
abbrev cn : Nat := 121
abbrev co : Nat := 122
abbrev aa : Nat := 123
abbrev am : Nat := 124
abbrev aU : Nat := 125
abbrev cp : Nat := 126
abbrev aF : Nat := 127
abbrev cq : Nat := 128
abbrev ar : Nat := 129
abbrev cr : Nat := 130
abbrev au : Nat := 131
abbrev bx : Nat := 132
abbrev bU : Nat := 133
abbrev ap : Nat := 134
abbrev ba : Nat := 135
abbrev ae : Nat := 136
abbrev af : Nat := 137
abbrev w : Nat := 138
abbrev c9 : Nat := 139
abbrev i : Nat := 140
abbrev ch : Nat := 141
abbrev g : Nat := 142
abbrev cP : Nat := 143
abbrev cC : Nat := 144
abbrev aV : Nat := 145
abbrev bJ : Nat := 146
abbrev bK : Nat := 147
abbrev bq : Nat := 148
abbrev br : Nat := 149
abbrev bs : Nat := 150
abbrev aW : Nat := 151
abbrev bf : Nat := 152
abbrev aX : Nat := 153
abbrev r : Nat := 154
abbrev cx : Nat := 155
abbrev cT : Nat := 156
abbrev ci : Nat := 157
abbrev aq : Nat := 158
abbrev cQ : Nat := 159
abbrev d : Nat := 160
abbrev av : Nat := 161
abbrev cj : Nat := 162
abbrev c6 : Nat := 163
abbrev ck : Nat := 164
abbrev ct : Nat := 165
abbrev f : Nat := 166
abbrev ca : Nat := 167
abbrev bX : Nat := 168
abbrev bY : Nat := 169
abbrev bV : Nat := 170
abbrev bh : Nat := 171
abbrev aw : Nat := 172
abbrev bi : Nat := 173
abbrev cH : Nat := 174
abbrev ax : Nat := 175
abbrev cU : Nat := 179
abbrev cf : Nat := 180
abbrev u : Nat := 181
abbrev a5 : Nat := 182
abbrev b2 : Nat := 183
abbrev aN : Nat := 184
abbrev bL : Nat := 185
abbrev bt : Nat := 186
abbrev az : Nat := 187
abbrev aY : Nat := 190
abbrev cD : Nat := 191
abbrev cb : Nat := 192
abbrev cl : Nat := 193
abbrev l : Nat := 194
abbrev bZ : Nat := 195
abbrev cm : Nat := 196
abbrev cL : Nat := 197
abbrev m : Nat := 198
abbrev c0 : Nat := 199
abbrev ab : Nat := 202
abbrev b3 : Nat := 203
abbrev cc : Nat := 204
abbrev a6 : Nat := 208
abbrev cM : Nat := 209
abbrev cE : Nat := 210
abbrev cI : Nat := 211
abbrev a7 : Nat := 212
abbrev bu : Nat := 215
abbrev cV : Nat := 219
abbrev cu : Nat := 220
abbrev t : Nat := 221
abbrev cR : Nat := 222
abbrev cB : Nat := 224
abbrev bv : Nat := 225
abbrev bw : Nat := 226
abbrev ay : Nat := 227
abbrev bM : Nat := 228
abbrev cJ : Nat := 229
abbrev bg : Nat := 230
abbrev c1 : Nat := 231
abbrev cK : Nat := 232
abbrev bW : Nat := 233
end F
namespace T
abbrev x : Nat := 0
abbrev a0 : Nat := 2
abbrev d : Nat := 3
abbrev u : Nat := 4
abbrev a3 : Nat := 5
abbrev c : Nat := 9
abbrev av : Nat := 12
abbrev an : Nat := 21
abbrev r : Nat := 22
abbrev w : Nat := 23
abbrev i : Nat := 26
abbrev a5 : Nat := 29
abbrev g : Nat := 33
abbrev f : Nat := 37
abbrev aq : Nat := 43
abbrev z : Nat := 44
abbrev a : Nat := 46
abbrev l : Nat := 51
abbrev h : Nat := 54
abbrev k : Nat := 65
abbrev o : Nat := 69
abbrev ak : Nat := 74
abbrev m : Nat := 76
abbrev n : Nat := 78
abbrev a2 : Nat := 80
abbrev a1 : Nat := 82
abbrev j : Nat := 83
abbrev b : Nat := 85
abbrev a4 : Nat := 88
abbrev a7 : Nat := 91
abbrev v : Nat := 94
abbrev q : Nat := 95
abbrev s : Nat := 96
abbrev e : Nat := 98
abbrev p : Nat := 100
abbrev ac : Nat := 120
abbrev ao : Nat := 126
abbrev y : Nat := 136
abbrev a9 : Nat := 139
abbrev ae : Nat := 140
abbrev a8 : Nat := 146
abbrev a6 : Nat := 148
abbrev au : Nat := 154
abbrev aj : Nat := 156
abbrev al : Nat := 157
abbrev aa : Nat := 165
abbrev ag : Nat := 168
abbrev t : Nat := 172
abbrev ax : Nat := 184
abbrev ab : Nat := 190
abbrev ah : Nat := 197
abbrev ai : Nat := 200
abbrev ar : Nat := 203
abbrev am : Nat := 205
abbrev aw : Nat := 220
abbrev ad : Nat := 225
abbrev af : Nat := 226
abbrev ap : Nat := 235
abbrev ay : Nat := 241
end T
namespace G
abbrev b : Nat := 0
abbrev e : Nat := 1
abbrev d : Nat := 2
abbrev a : Nat := 3
abbrev c : Nat := 4
end G
end Go.Proofs.YtjdiakhipmggjaaGreatDoor

set_option maxRecDepth 100000
namespace Go.Proofs.YtjdiakhipmggjaaGreatDoor
open Go.Emb
def Q5m:V5:=[none,none,none,none,some ([1,10],[1,3,10,11,12,13,14,15,16,17,18]),none,none,none,none,none]
def Q0Z (w:World) (K:Value→World→Prop):Prop:= H3 P T.b [(0,(.string ⟨#[79,98,106,101,99,116]⟩))] w fun j w=>H3 P T.o [(0,(.string ⟨#[119,104,97,116]⟩)),(1,(.string ⟨#[116,101,120,116]⟩))] w fun l w=>buildSlice P T.k 1 [(0,l)] w fun i w=>H3 P T.b [(0,(.string ⟨#[70,97,117,108,116]⟩)),(1,(.string ⟨#[79,98,106,101,99,116]⟩)),(6,i)] w fun k w=>buildSlice P T.i 2 [(0,j),(1,k)] w fun m w=>Q2 P T.ao (.pointer (some ⟨G.b,0,none⟩)) w fun n w=>lp (α:=Value×Value) (m,(.int .i64 0)) w fun a b o w=>Q3 P .lss T.d (.tmp 10) (.const (.int .i64 6)) b.2 (.int .i64 6) w fun e w=>X1 e (C5 P T.ao n b.2 w fun d w=>H3 P T.b [(0,d),(1,(.string ⟨#[70,97,117,108,116]⟩)),(5,(.bool true))] w fun g w=>buildSlice P T.i 1 [(0,g)] w fun f w=>X2 P .append [T.i,T.i] T.i [false,false] [b.1,f] w fun c w=>Q3 P .add T.d (.tmp 10) (.const (.int .i64 1)) b.2 (.int .i64 1) w fun h w=>a (c,h) w) (K b.1 w)
theorem Q6j {w:World} {K:Value→World→Prop} (h:Q0Z w K):Q1 P F.cF [] w K:=Q9 Q5m Tryz.func41 rfl (by decide) (by kernel_rfl) h
def Q5z:V5:=[none,none,none,some ([8],[2,4,8,9,10,11,12,13,14,15,16,17,18,19,20,21,22,23,24,25,26,27,28,29,30,31,32,33]),none,none,none,none,none,none,none]
def Q0Q (Y:Value) (w:World) (K:Value→World→Prop):Prop:= box P T.b Y w fun b w=>fieldAddr P T.b b 7 w fun X w=>Q2 P T.j X w fun W w=>X2 P .len [T.j] T.d [false] [W] w fun t7 w=>lp (α:=Value) (.int .i64 0) w fun g p d_ w=>Q3 P .lss T.d (.tmp 8) (.tmp 7) p t7 w fun Z w=>X1 Z (indexAddr P T.j W p w fun q w=>Q2 P T.e q w fun N w=>W0 P T.e w fun a w=>Y0 P T.e a N w fun _u w=>fieldAddr P T.e a 1 w fun M w=>Q2 P T.h M w fun L w=>X2 P .len [T.h] T.d [false] [L] w fun s w=>Q3 P .gtr T.d (.tmp 14) (.const (.int .i64 32)) s (.int .i64 32) w fun f w=>Q0 f false w (fieldAddr P T.e a 6) fun o w=>Q0 f false w (Q2 P T.s o) fun D w=>Q0 f false w (X2 P .len [T.s] T.d [false] [D]) fun B w=>Q0 f false w (Q3 P .gtr T.d (.tmp 19) (.const (.int .i64 32)) B (.int .i64 32)) fun C w=>pick P f (.bool true) C w fun c w=>Q0 c false w (fieldAddr P T.e a 5) fun E w=>Q0 c false w (Q2 P T.q E) fun m w=>Q0 c false w (X2 P .len [T.q] T.d [false] [m]) fun t w=>Q0 c false w (Q3 P .gtr T.d (.tmp 25) (.const (.int .i64 200)) t (.int .i64 200)) fun O w=>pick P c (.bool true) O w fun h w=>Q0 h false w (fieldAddr P T.e a 4) fun y w=>Q0 h false w (Q2 P T.d y) fun n w=>Q0 h false w (Q3 P .gtr T.d (.tmp 30) (.const (.int .i64 64)) n (.int .i64 64)) fun r w=>pick P h (.bool true) r w fun u w=>X1 u (K (.bool true) w) (Q3 P .add T.d (.tmp 8) (.const (.int .i64 1)) p (.int .i64 1) w fun A w=>g A w)) (fieldAddr P T.b b 2 w fun z w=>Q2 P T.h z w fun j w=>X2 P .len [T.h] T.d [false] [j] w fun Q w=>Q3 P .gtr T.d (.tmp 36) (.const (.int .i64 32)) Q (.int .i64 32) w fun d w=>Q0 d false w (fieldAddr P T.b b 6) fun k w=>Q0 d false w (Q2 P T.k k) fun V w=>Q0 d false w (X2 P .len [T.k] T.d [false] [V]) fun i w=>Q0 d false w (Q3 P .gtr T.d (.tmp 41) (.const (.int .i64 32)) i (.int .i64 32)) fun v w=>pick P d (.bool true) v w fun e w=>Q0 e false w (fieldAddr P T.b b 7) fun R w=>Q0 e false w (Q2 P T.j R) fun U w=>Q0 e false w (X2 P .len [T.j] T.d [false] [U]) fun J w=>Q0 e false w (Q3 P .gtr T.d (.tmp 47) (.const (.int .i64 32)) J (.int .i64 32)) fun H w=>pick P e (.bool true) H w fun l w=>K l w)
theorem Q5v {a:Value} {w:World} {K:Value→World→Prop} (h:Q0Q a w K):Q1 P F.cG [a] w K:=Q9 Q5z Tryz.func77 rfl (by decide) (by kernel_rfl) h
def Yc:V5:=[none,none,none,some ([8],[4,5,8,9,10,11,12,13,14,15,16,17,18]),none,none,none,none,none,none,none]
def F0 (g h:Value) (w:World) (K:Value→World→Prop):Prop:= X2 P .len [T.j] T.d [false] [g] w fun i w=>lp (α:=Value) (.int .i64 0) w fun a b k w=>Q3 P .lss T.d (.tmp 8) (.tmp 7) b i w fun j w=>X1 j (indexAddr P T.j g b w fun c w=>Q2 P T.e c w fun e w=>Z3 P h [e] w fun d w=>X1 d (K b w) (Q3 P .add T.d (.tmp 8) (.const (.int .i64 1)) b (.int .i64 1) w fun f w=>a f w)) (K (.int .i64 (-1)) w)
theorem Ya {b a:Value} {w:World} {K:Value→World→Prop} (h:F0 b a w K):Q1 P F.g [b,a] w K:=Q9 Yc Tryz.func142 rfl (by decide) (by kernel_rfl) h
def C0 (d a:Value) (w:World) (K:Value→World→Prop):Prop:= Q1 P F.g [d,a] w fun b w=>Q3 P .geq T.d (.tmp 7) (.const (.int .i64 0)) b (.int .i64 0) w fun c w=>K c w
theorem Qt {b a:Value} {w:World} {K:Value→World→Prop} (h:C0 b a w K):Q1 P F.a [b,a] w K:=Q9 (List.replicate 2 none) Tryz.func93 rfl (by decide) (by kernel_rfl) h
def Lz:V5:=[none,none,none,some ([8],[4,5,8,9,10,11,12,13,14,15,16,17,18]),none,none,none,none,none,none,none]
def Qw (g h:Value) (w:World) (K:Value→World→Prop):Prop:= X2 P .len [T.h] T.d [false] [g] w fun i w=>lp (α:=Value) (.int .i64 0) w fun a b k w=>Q3 P .lss T.d (.tmp 8) (.tmp 7) b i w fun j w=>X1 j (indexAddr P T.h g b w fun c w=>Q2 P T.c c w fun e w=>Q3 P .eql T.c (.tmp 11) (.tmp 15) h e w fun d w=>X1 d (K b w) (Q3 P .add T.d (.tmp 8) (.const (.int .i64 1)) b (.int .i64 1) w fun f w=>a f w)) (K (.int .i64 (-1)) w)
theorem Nd {b a:Value} {w:World} {K:Value→World→Prop} (h:Qw b a w K):Q1 P F.av [b,a] w K:=Q9 Lz Tryz.func161 rfl (by decide) (by kernel_rfl) h
def A0 (d a:Value) (w:World) (K:Value→World→Prop):Prop:= Q1 P F.av [d,a] w fun b w=>Q3 P .geq T.d (.tmp 7) (.const (.int .i64 0)) b (.int .i64 0) w fun c w=>K c w
theorem Vz {b a:Value} {w:World} {K:Value→World→Prop} (h:A0 b a w K):Q1 P F.ah [b,a] w K:=Q9 (List.replicate 2 none) Tryz.func120 rfl (by decide) (by kernel_rfl) h
def Cw (d:Value) (w:World) (K:Value→World→Prop):Prop:= box P T.e d w fun a w=>fieldAddr P T.e a 3 w fun c w=>Q2 P T.u c w fun b w=>K b w
theorem Q3x {a:Value} {w:World} {K:Value→World→Prop} (h:Cw a w K):Q1 P F.cn [a] w K:=Q9 (List.replicate 2 none) Tryz.func121 rfl (by decide) (by kernel_rfl) h
def Bf (e:Value) (w:World) (K:Value→World→Prop):Prop:= box P T.e e w fun a w=>fieldAddr P T.e a 3 w fun d w=>Q2 P T.u d w fun b w=>J8 P .not b w fun c w=>K c w
theorem Q3l {a:Value} {w:World} {K:Value→World→Prop} (h:Bf a w K):Q1 P F.co [a] w K:=Q9 (List.replicate 2 none) Tryz.func122 rfl (by decide) (by kernel_rfl) h
def Vm:V5:=[none,none,none,some ([8],[4,5,8,9,10,11,12,13,14,15,16,17,18]),none,none,none,none,none,none,none]
def T2 (g h:Value) (w:World) (K:Value→World→Prop):Prop:= X2 P .len [T.h] T.d [false] [g] w fun i w=>lp (α:=Value) (.int .i64 0) w fun a b k w=>Q3 P .lss T.d (.tmp 8) (.tmp 7) b i w fun j w=>X1 j (indexAddr P T.h g b w fun c w=>Q2 P T.c c w fun e w=>Z3 P h [e] w fun d w=>X1 d (K b w) (Q3 P .add T.d (.tmp 8) (.const (.int .i64 1)) b (.int .i64 1) w fun f w=>a f w)) (K (.int .i64 (-1)) w)
theorem Vo {b a:Value} {w:World} {K:Value→World→Prop} (h:T2 b a w K):Q1 P F.w [b,a] w K:=Q9 Vm Tryz.func138 rfl (by decide) (by kernel_rfl) h
def K4 (d a:Value) (w:World) (K:Value→World→Prop):Prop:= Q1 P F.w [d,a] w fun b w=>Q3 P .geq T.d (.tmp 7) (.const (.int .i64 0)) b (.int .i64 0) w fun c w=>K c w
theorem Jk {b a:Value} {w:World} {K:Value→World→Prop} (h:K4 b a w K):Q1 P F.c [b,a] w K:=Q9 (List.replicate 2 none) Tryz.func86 rfl (by decide) (by kernel_rfl) h
def Vr (e c:Value) (w:World) (K:Value→World→Prop):Prop:= Q2 P T.a4 c w fun b w=>Z3 P b [e] w fun a w=>J8 P .not a w fun d w=>K d w
theorem Bs {b a:Value} {w:World} {K:Value→World→Prop} (h:Vr b a w K):Q1 P F.cj [b,a] w K:=Q9 (List.replicate 2 none) Tryz.func162 rfl (by decide) (by kernel_rfl) h
def Mg (f c:Value) (w:World) (K:Value→World→Prop):Prop:= box P T.a4 c w fun a w=>H1 P (.func F.cj) [] [a] w fun b w=>Q1 P F.c [f,b] w fun d w=>J8 P .not d w fun e w=>K e w
theorem Pm {b a:Value} {w:World} {K:Value→World→Prop} (h:Mg b a w K):Q1 P F.aa [b,a] w K:=Q9 (List.replicate 2 none) Tryz.func123 rfl (by decide) (by kernel_rfl) h
def Q88:V5:=[none,none,none,some ([],[4,6,9,10,11,12,13,14,15]),none,none,none,none,none,none]
def Q2R (i g:Value) (w:World) (K:Value→World→Prop):Prop:= rng P T.c i w fun h w=>lp (α:=Unit) () w fun a j k w=>W6 P h true T.x w fun f w=>ext P f 0 w fun b w=>X1 b (ext P f 2 w fun c w=>Z3 P g [c] w fun d w=>J8 P .not d w fun e w=>X1 e (K (.bool false) w) (a () w)) (K (.bool true) w)
theorem Q8u {b a:Value} {w:World} {K:Value→World→Prop} (h:Q2R b a w K):Q1 P F.cD [b,a] w K:=Q9 Q88 Tryz.func191 rfl (by decide) (by kernel_rfl) h
def Q0H (b:Value) (w:World) (K:Value→World→Prop):Prop:= Q3 P .geq T.an (.tmp 3) (.const (.int .i32 65)) b (.int .i32 65) w fun a w=>Q0 a true w (fun w J=>J b w) fun c w=>Q0 a true w (Q3 P .leq T.an (.tmp 6) (.const (.int .i32 90)) c (.int .i32 90)) fun d w=>pick P a d (.bool false) w fun e w=>K e w
theorem Q5T {a:Value} {w:World} {K:Value→World→Prop} (h:Q0H a w K):Q1 P F.ck [a] w K:=Q9 (List.replicate 2 none) Tryz.func164 rfl (by decide) (by kernel_rfl) h
def Q0G (b:Value) (w:World) (K:Value→World→Prop):Prop:= Q3 P .geq T.an (.tmp 3) (.const (.int .i32 97)) b (.int .i32 97) w fun a w=>Q0 a true w (fun w J=>J b w) fun c w=>Q0 a true w (Q3 P .leq T.an (.tmp 6) (.const (.int .i32 122)) c (.int .i32 122)) fun d w=>pick P a d (.bool false) w fun e w=>K e w
theorem Q6a {a:Value} {w:World} {K:Value→World→Prop} (h:Q0G a w K):Q1 P F.cl [a] w K:=Q9 (List.replicate 2 none) Tryz.func193 rfl (by decide) (by kernel_rfl) h
def To (c:Value) (w:World) (K:Value→World→Prop):Prop:= Q1 P F.ck [c] w fun d w=>Q0 d false w (fun w J=>J c w) fun k w=>Q0 d false w (Q1 P F.cl [k]) fun l w=>pick P d (.bool true) l w fun b w=>Q0 b false w (fun w J=>J c w) fun e w=>Q0 b false w (Q3 P .geq T.an (.tmp 10) (.const (.int .i32 48)) e (.int .i32 48)) fun g w=>Q0 b false w (fun w J=>J g w) fun a w=>Q0 a true w (fun w J=>J c w) fun f w=>Q0 a true w (Q3 P .leq T.an (.tmp 13) (.const (.int .i32 57)) f (.int .i32 57)) fun h w=>Q0 b false w (pick P a h (.bool false)) fun j w=>pick P b (.bool true) j w fun i w=>K i w
theorem Q4Y {a:Value} {w:World} {K:Value→World→Prop} (h:To a w K):Q1 P F.cb [a] w K:=Q9 (List.replicate 2 none) Tryz.func192 rfl (by decide) (by kernel_rfl) h
def Q2r (c:Value) (w:World) (K:Value→World→Prop):Prop:= Q3 P .eql T.c (.tmp 3) (.const (.string ⟨#[]⟩)) c (.string ⟨#[]⟩) w fun d w=>Q0 d false w (fun w J=>J c w) fun p w=>Q0 d false w (X2 P .len [T.c] T.d [false] [p]) fun o w=>Q0 d false w (Q3 P .gtr T.d (.tmp 7) (.const (.int .i64 32)) o (.int .i64 32)) fun n w=>pick P d (.bool true) n w fun b w=>Q0 b false w (fun w J=>J c w) fun l w=>Q0 b false w (C5 P T.c l (.int .i64 0)) fun k w=>Q0 b false w (Q3 P .geq T.a3 (.tmp 12) (.const (.int .u8 48)) k (.int .u8 48)) fun j w=>Q0 b false w (fun w J=>J j w) fun a w=>Q0 a true w (fun w J=>J c w) fun m w=>Q0 a true w (C5 P T.c m (.int .i64 0)) fun e w=>Q0 a true w (Q3 P .leq T.a3 (.tmp 16) (.const (.int .u8 57)) e (.int .u8 57)) fun f w=>Q0 b false w (pick P a f (.bool false)) fun i w=>pick P b (.bool true) i w fun h w=>X1 h (K (.bool false) w) (Q1 P F.cD [c,(.func (.func F.cb) #[] #[])] w fun g w=>K g w)
theorem Q6z {a:Value} {w:World} {K:Value→World→Prop} (h:Q2r a w K):Q1 P F.c6 [a] w K:=Q9 (List.replicate 5 none) Tryz.func163 rfl (by decide) (by kernel_rfl) h
def Q0y (c:Value) (w:World) (K:Value→World→Prop):Prop:= Q1 P F.c6 [c] w fun a w=>Q0 a true w (fun w J=>J c w) fun d w=>Q0 a true w (C5 P T.c d (.int .i64 0)) fun e w=>Q0 a true w (conv P T.a3 T.an e) fun f w=>Q0 a true w (Q1 P F.ck [f]) fun g w=>pick P a g (.bool false) w fun b w=>K b w
theorem Q6p {a:Value} {w:World} {K:Value→World→Prop} (h:Q0y a w K):Q1 P F.am [a] w K:=Q9 (List.replicate 2 none) Tryz.func124 rfl (by decide) (by kernel_rfl) h
def Lf (o j n:Value) (w:World) (K:Value→World→Prop):Prop:= dr w fun a b=>Q4 a (fun d=> ∀w,b w→Q2 P T.ac j w (dk a d w)) fun d=>Q4 a (fun h=> ∀c w,b w→d c w→Z3 P c [o] w (dk a h w)) fun h=>Q4 a (fun f=> ∀w,b w→Q2 P T.ac j w (dk a f w)) fun f=>Q4 a (fun i=> ∀w,b w→Q2 P T.c n w (dk a i w)) fun i=>∀c k l m w,b w→d c w→h k w→f l w→i m w→ Z3 P l [m] w fun e w=>Q3 P .eql T.c (.tmp 7) (.tmp 10) k e w fun g w=>K g w
theorem Gi {c a b:Value} {w:World} {K:Value→World→Prop} (h:Lf c a b w K):Q1 P F.ct [c,a,b] w K:=Q9 (List.replicate 2 none) Tryz.func165 rfl (by decide) (by kernel_rfl) h
def Ay:V5:=[none,none,none,some ([9],[4,5,6,9,10,11,12,13,14,15,16,17,18,19]),none,none,none,none,none,none,none]
def Dh (k m:Value) (w:World) (K:Value→World→Prop):Prop:= box P T.ac m w fun a w=>X2 P .len [T.h] T.d [false] [k] w fun n w=>lp (α:=Value) (.int .i64 0) w fun c d o w=>Q3 P .lss T.d (.tmp 9) (.tmp 8) d n w fun f w=>X1 f (indexAddr P T.h k d w fun i w=>Q2 P T.c i w fun g w=>W0 P T.c w fun b w=>Y0 P T.c b g w fun _u w=>S1 P T.h k none (some d) none w fun j w=>H1 P (.func F.ct) [] [a,b] w fun e w=>Q1 P F.c [j,e] w fun l w=>X1 l (K (.bool false) w) (Q3 P .add T.d (.tmp 9) (.const (.int .i64 1)) d (.int .i64 1) w fun h w=>c h w)) (K (.bool true) w)
theorem Ag {b a:Value} {w:World} {K:Value→World→Prop} (h:Dh b a w K):Q1 P F.aU [b,a] w K:=Q9 Ay Tryz.func125 rfl (by decide) (by kernel_rfl) h
def Q3b (a:Value) (w:World) (K:Value→World→Prop):Prop:= K a w
theorem Q2U {a:Value} {w:World} {K:Value→World→Prop} (h:Q3b a w K):Q1 P F.cp [a] w K:=Q9 (List.replicate 2 none) Tryz.func126 rfl (by decide) (by kernel_rfl) h
def Yp:V5:=[none,none,none,some ([8],[4,5,8,9,10,11,12,13,14,15,16,17,18]),none,none,none,none,none,none,none]
def F9 (g h:Value) (w:World) (K:Value→World→Prop):Prop:= X2 P .len [T.k] T.d [false] [g] w fun i w=>lp (α:=Value) (.int .i64 0) w fun a b k w=>Q3 P .lss T.d (.tmp 8) (.tmp 7) b i w fun j w=>X1 j (indexAddr P T.k g b w fun c w=>Q2 P T.o c w fun e w=>Z3 P h [e] w fun d w=>X1 d (K b w) (Q3 P .add T.d (.tmp 8) (.const (.int .i64 1)) b (.int .i64 1) w fun f w=>a f w)) (K (.int .i64 (-1)) w)
theorem Yy {b a:Value} {w:World} {K:Value→World→Prop} (h:F9 b a w K):Q1 P F.i [b,a] w K:=Q9 Yp Tryz.func140 rfl (by decide) (by kernel_rfl) h
def B3 (d a:Value) (w:World) (K:Value→World→Prop):Prop:= Q1 P F.i [d,a] w fun b w=>Q3 P .geq T.d (.tmp 7) (.const (.int .i64 0)) b (.int .i64 0) w fun c w=>K c w
theorem Xf {b a:Value} {w:World} {K:Value→World→Prop} (h:B3 b a w K):Q1 P F.f [b,a] w K:=Q9 (List.replicate 2 none) Tryz.func166 rfl (by decide) (by kernel_rfl) h
def Ju (q n r:Value) (w:World) (K:Value→World→Prop):Prop:= box P T.o q w fun b w=>dr w fun a c=>Q4 a (fun f=> ∀w,c w→Q2 P T.aa n w (dk a f w)) fun f=>Q4 a (fun e=> ∀w,c w→Q2 P T.o b w (dk a e w)) fun e=>Q4 a (fun i=> ∀d g w,c w→f d w→e g w→Z3 P d [g] w (dk a i w)) fun i=>Q4 a (fun k=> ∀w,c w→Q2 P T.aa n w (dk a k w)) fun k=>Q4 a (fun j=> ∀w,c w→Q2 P T.o r w (dk a j w)) fun j=>∀d g p m o w,c w→f d w→e g w→i p w→k m w→j o w→ Z3 P m [o] w fun h w=>Q3 P .eql T.c (.tmp 7) (.tmp 10) p h w fun l w=>K l w
theorem So {c a b:Value} {w:World} {K:Value→World→Prop} (h:Ju c a b w K):Q1 P F.ca [c,a,b] w K:=Q9 (List.replicate 2 none) Tryz.func167 rfl (by decide) (by kernel_rfl) h
def Bx:V5:=[none,none,none,some ([9],[4,5,6,9,10,11,12,13,14,15,16,17,18,19]),none,none,none,none,none,none,none]
def Wb (k m:Value) (w:World) (K:Value→World→Prop):Prop:= box P T.aa m w fun a w=>X2 P .len [T.k] T.d [false] [k] w fun n w=>lp (α:=Value) (.int .i64 0) w fun c d o w=>Q3 P .lss T.d (.tmp 9) (.tmp 8) d n w fun f w=>X1 f (indexAddr P T.k k d w fun i w=>Q2 P T.o i w fun g w=>W0 P T.o w fun b w=>Y0 P T.o b g w fun _u w=>S1 P T.k k none (some d) none w fun j w=>H1 P (.func F.ca) [] [a,b] w fun e w=>Q1 P F.f [j,e] w fun l w=>X1 l (K (.bool false) w) (Q3 P .add T.d (.tmp 9) (.const (.int .i64 1)) d (.int .i64 1) w fun h w=>c h w)) (K (.bool true) w)
theorem Bu {b a:Value} {w:World} {K:Value→World→Prop} (h:Wb b a w K):Q1 P F.aF [b,a] w K:=Q9 Bx Tryz.func127 rfl (by decide) (by kernel_rfl) h
def Be (d:Value) (w:World) (K:Value→World→Prop):Prop:= box P T.o d w fun a w=>fieldAddr P T.o a 0 w fun c w=>Q2 P T.c c w fun b w=>K b w
theorem Q2X {a:Value} {w:World} {K:Value→World→Prop} (h:Be a w K):Q1 P F.cq [a] w K:=Q9 (List.replicate 2 none) Tryz.func128 rfl (by decide) (by kernel_rfl) h
def Jf (q n r:Value) (w:World) (K:Value→World→Prop):Prop:= box P T.e q w fun b w=>dr w fun a c=>Q4 a (fun f=> ∀w,c w→Q2 P T.a9 n w (dk a f w)) fun f=>Q4 a (fun e=> ∀w,c w→Q2 P T.e b w (dk a e w)) fun e=>Q4 a (fun i=> ∀d g w,c w→f d w→e g w→Z3 P d [g] w (dk a i w)) fun i=>Q4 a (fun k=> ∀w,c w→Q2 P T.a9 n w (dk a k w)) fun k=>Q4 a (fun j=> ∀w,c w→Q2 P T.e r w (dk a j w)) fun j=>∀d g p m o w,c w→f d w→e g w→i p w→k m w→j o w→ Z3 P m [o] w fun h w=>Q3 P .eql T.c (.tmp 7) (.tmp 10) p h w fun l w=>K l w
theorem Rh {c a b:Value} {w:World} {K:Value→World→Prop} (h:Jf c a b w K):Q1 P F.bX [c,a,b] w K:=Q9 (List.replicate 2 none) Tryz.func168 rfl (by decide) (by kernel_rfl) h
def Ct:V5:=[none,none,none,some ([9],[4,5,6,9,10,11,12,13,14,15,16,17,18,19]),none,none,none,none,none,none,none]
def Vd (k m:Value) (w:World) (K:Value→World→Prop):Prop:= box P T.a9 m w fun a w=>X2 P .len [T.j] T.d [false] [k] w fun n w=>lp (α:=Value) (.int .i64 0) w fun c d o w=>Q3 P .lss T.d (.tmp 9) (.tmp 8) d n w fun f w=>X1 f (indexAddr P T.j k d w fun i w=>Q2 P T.e i w fun g w=>W0 P T.e w fun b w=>Y0 P T.e b g w fun _u w=>S1 P T.j k none (some d) none w fun j w=>H1 P (.func F.bX) [] [a,b] w fun e w=>Q1 P F.a [j,e] w fun l w=>X1 l (K (.bool false) w) (Q3 P .add T.d (.tmp 9) (.const (.int .i64 1)) d (.int .i64 1) w fun h w=>c h w)) (K (.bool true) w)
theorem Cr {b a:Value} {w:World} {K:Value→World→Prop} (h:Vd b a w K):Q1 P F.ar [b,a] w K:=Q9 Ct Tryz.func129 rfl (by decide) (by kernel_rfl) h
def Ba (d:Value) (w:World) (K:Value→World→Prop):Prop:= box P T.e d w fun a w=>fieldAddr P T.e a 0 w fun c w=>Q2 P T.c c w fun b w=>K b w
theorem Q3f {a:Value} {w:World} {K:Value→World→Prop} (h:Ba a w K):Q1 P F.cr [a] w K:=Q9 (List.replicate 2 none) Tryz.func130 rfl (by decide) (by kernel_rfl) h
def Jg (g d:Value) (w:World) (K:Value→World→Prop):Prop:= box P T.o g w fun a w=>Q2 P T.ag d w fun c w=>Q2 P T.o a w fun f w=>Z3 P c [f] w fun b w=>J8 P .not b w fun e w=>K e w
theorem Rf {b a:Value} {w:World} {K:Value→World→Prop} (h:Jg b a w K):Q1 P F.bY [b,a] w K:=Q9 (List.replicate 2 none) Tryz.func169 rfl (by decide) (by kernel_rfl) h
def Vg (f c:Value) (w:World) (K:Value→World→Prop):Prop:= box P T.ag c w fun a w=>H1 P (.func F.bY) [] [a] w fun b w=>Q1 P F.f [f,b] w fun d w=>J8 P .not d w fun e w=>K e w
theorem Co {b a:Value} {w:World} {K:Value→World→Prop} (h:Vg b a w K):Q1 P F.au [b,a] w K:=Q9 (List.replicate 2 none) Tryz.func131 rfl (by decide) (by kernel_rfl) h
def Q1f (f:Value) (w:World) (K:Value→World→Prop):Prop:= Q3 P .eql T.c (.tmp 3) (.const (.string ⟨#[105,110,116]⟩)) f (.string ⟨#[105,110,116]⟩) w fun a w=>Q0 a false w (fun w J=>J f w) fun g w=>Q0 a false w (Q3 P .eql T.c (.tmp 6) (.const (.string ⟨#[98,111,111,108]⟩)) g (.string ⟨#[98,111,111,108]⟩)) fun h w=>pick P a (.bool true) h w fun c w=>Q0 c false w (fun w J=>J f w) fun b w=>Q0 c false w (Q3 P .eql T.c (.tmp 10) (.const (.string ⟨#[116,101,120,116]⟩)) b (.string ⟨#[116,101,120,116]⟩)) fun e w=>pick P c (.bool true) e w fun d w=>K d w
theorem Q5c {a:Value} {w:World} {K:Value→World→Prop} (h:Q1f a w K):Q1 P F.aO [a] w K:=Q9 (List.replicate 2 none) Tryz.func109 rfl (by decide) (by kernel_rfl) h
def Vk (k b:Value) (w:World) (K:Value→World→Prop):Prop:= X2 P .len [T.c] T.d [false] [k] w fun n w=>X2 P .len [T.c] T.d [false] [b] w fun o w=>Q3 P .geq T.d (.tmp 6) (.tmp 8) n o w fun a w=>Q0 a true w (fun w J=>J k w) fun g w=>Q0 a true w (fun w J=>J k w) fun f w=>Q0 a true w (X2 P .len [T.c] T.d [false] [f]) fun e w=>Q0 a true w (fun w J=>J b w) fun h w=>Q0 a true w (X2 P .len [T.c] T.d [false] [h]) fun l w=>Q0 a true w (Q3 P .sub T.d (.tmp 13) (.tmp 15) e l) fun i w=>Q0 a true w (S1 P T.c g (some i) none none) fun c w=>Q0 a true w (fun w J=>J b w) fun m w=>Q0 a true w (Q3 P .eql T.c (.tmp 17) (.tmp 18) c m) fun d w=>pick P a d (.bool false) w fun j w=>K j w
theorem Cq {b a:Value} {w:World} {K:Value→World→Prop} (h:Vk b a w K):Q1 P F.ab [b,a] w K:=Q9 (List.replicate 2 none) Tryz.func202 rfl (by decide) (by kernel_rfl) h
def Di (c a:Value) (w:World) (K:Value→World→Prop):Prop:= Q1 P F.ab [c,a] w fun b w=>K b w
theorem Q06 {b a:Value} {w:World} {K:Value→World→Prop} (h:Di b a w K):Q1 P F.bL [b,a] w K:=Q9 (List.replicate 2 none) Tryz.func185 rfl (by decide) (by kernel_rfl) h
def Ua (a f:Value) (w:World) (K:Value→World→Prop):Prop:= Q1 P F.ab [a,f] w fun g w=>X1 g (X2 P .len [T.c] T.d [false] [a] w fun b w=>X2 P .len [T.c] T.d [false] [f] w fun d w=>Q3 P .sub T.d (.tmp 10) (.tmp 12) b d w fun c w=>S1 P T.c a none (some c) none w fun e w=>K e w) (K a w)
theorem Ru {b a:Value} {w:World} {K:Value→World→Prop} (h:Ua b a w K):Q1 P F.cc [b,a] w K:=Q9 (List.replicate 5 none) Tryz.func204 rfl (by decide) (by kernel_rfl) h
def Od (c a:Value) (w:World) (K:Value→World→Prop):Prop:= Q1 P F.cc [c,a] w fun b w=>K b w
theorem Pu {b a:Value} {w:World} {K:Value→World→Prop} (h:Od b a w K):Q1 P F.bt [b,a] w K:=Q9 (List.replicate 2 none) Tryz.func186 rfl (by decide) (by kernel_rfl) h
def Q6R:V5:=[none,none,none,some ([0,4],[0,4,5,6,7,8,9,10]),none,none,none]
def Q2m (f:Value) (w:World) (K:Value→World→Prop):Prop:= lp (α:=Value×Value) (f,(.int .i64 0)) w fun a b g w=>Q1 P F.bL [b.1,(.string ⟨#[91,93]⟩)] w fun d w=>X1 d (Q1 P F.bt [b.1,(.string ⟨#[91,93]⟩)] w fun e w=>Q3 P .add T.d (.tmp 9) (.const (.int .i64 1)) b.2 (.int .i64 1) w fun c w=>a (e,c) w) (K (.tuple #[b.1,b.2]) w)
theorem Q6M {a:Value} {w:World} {K:Value→World→Prop} (h:Q2m a w K):Q1 P F.cx [a] w K:=Q9 Q6R Tryz.func155 rfl (by decide) (by kernel_rfl) h
def Q1c (k:Value) (w:World) (K:Value→World→Prop):Prop:= Q1 P F.cx [k] w fun i w=>ext P i 0 w fun j w=>ext P i 1 w fun l w=>Q3 P .leq T.d (.tmp 10) (.const (.int .i64 3)) l (.int .i64 3) w fun a w=>Q0 a true w (fun w J=>J j w) fun e w=>Q0 a true w (Q1 P F.aO [e]) fun f w=>Q0 a true w (fun w J=>J f w) fun b w=>Q0 b false w (fun w J=>J j w) fun g w=>Q0 b false w (Q1 P F.am [g]) fun c w=>Q0 a true w (pick P b (.bool true) c) fun h w=>pick P a h (.bool false) w fun d w=>K d w
theorem Q5F {a:Value} {w:World} {K:Value→World→Prop} (h:Q1c a w K):Q1 P F.a0 [a] w K:=Q9 (List.replicate 3 none) Tryz.func114 rfl (by decide) (by kernel_rfl) h
def Ge (b:Value) (w:World) (K:Value→World→Prop):Prop:= Q1 P F.c6 [b] w fun a w=>Q0 a true w (fun w J=>J b w) fun c w=>Q0 a true w (Q1 P F.am [c]) fun d w=>Q0 a true w (J8 P .not d) fun e w=>pick P a e (.bool false) w fun f w=>K f w
theorem Q3W {a:Value} {w:World} {K:Value→World→Prop} (h:Ge a w K):Q1 P F.bU [a] w K:=Q9 (List.replicate 2 none) Tryz.func133 rfl (by decide) (by kernel_rfl) h
def Bn (h:Value) (w:World) (K:Value→World→Prop):Prop:= box P T.o h w fun a w=>fieldAddr P T.o a 0 w fun g w=>Q2 P T.c g w fun d w=>Q1 P F.bU [d] w fun b w=>Q0 b true w (fieldAddr P T.o a 1) fun e w=>Q0 b true w (Q2 P T.c e) fun f w=>Q0 b true w (Q1 P F.a0 [f]) fun i w=>pick P b i (.bool false) w fun c w=>K c w
theorem Q2W {a:Value} {w:World} {K:Value→World→Prop} (h:Bn a w K):Q1 P F.bx [a] w K:=Q9 (List.replicate 2 none) Tryz.func132 rfl (by decide) (by kernel_rfl) h
def Zg (g d:Value) (w:World) (K:Value→World→Prop):Prop:= box P T.e g w fun a w=>Q2 P T.ae d w fun c w=>Q2 P T.e a w fun f w=>Z3 P c [f] w fun b w=>J8 P .not b w fun e w=>K e w
theorem Hn {b a:Value} {w:World} {K:Value→World→Prop} (h:Zg b a w K):Q1 P F.bV [b,a] w K:=Q9 (List.replicate 2 none) Tryz.func170 rfl (by decide) (by kernel_rfl) h
def Up (f c:Value) (w:World) (K:Value→World→Prop):Prop:= box P T.ae c w fun a w=>H1 P (.func F.bV) [] [a] w fun b w=>Q1 P F.a [f,b] w fun d w=>J8 P .not d w fun e w=>K e w
theorem Rv {b a:Value} {w:World} {K:Value→World→Prop} (h:Up b a w K):Q1 P F.ap [b,a] w K:=Q9 (List.replicate 2 none) Tryz.func134 rfl (by decide) (by kernel_rfl) h
def Cb (D A:Value) (w:World) (K:Value→World→Prop):Prop:= box P T.t D w fun a w=>fieldAddr P T.t a 0 w fun H w=>Q2 P T.d H w fun C w=>Q3 P .geq T.d (.tmp 5) (.const (.int .i64 0)) C (.int .i64 0) w fun f w=>Q0 f true w (fieldAddr P T.t a 1) fun B w=>Q0 f true w (Q2 P T.d B) fun E w=>Q0 f true w (fieldAddr P T.t a 0) fun l w=>Q0 f true w (Q2 P T.d l) fun v w=>Q0 f true w (Q3 P .gtr T.d (.tmp 9) (.tmp 11) E v) fun u w=>pick P f u (.bool false) w fun c w=>Q0 c true w (fieldAddr P T.t a 1) fun z w=>Q0 c true w (Q2 P T.d z) fun h w=>Q0 c true w (Q2 P T.d A) fun k w=>Q0 c true w (Q3 P .leq T.d (.tmp 16) (.tmp 17) h k) fun s w=>pick P c s (.bool false) w fun e w=>Q0 e true w (fieldAddr P T.t a 2) fun m w=>Q0 e true w (Q2 P T.d m) fun i w=>Q0 e true w (Q3 P .geq T.d (.tmp 22) (.const (.int .i64 0)) i (.int .i64 0)) fun t w=>pick P e t (.bool false) w fun b w=>Q0 b true w (fieldAddr P T.t a 2) fun y w=>Q0 b true w (Q2 P T.d y) fun r w=>Q0 b true w (Q2 P T.d A) fun j w=>Q0 b true w (Q3 P .lss T.d (.tmp 27) (.tmp 28) r j) fun o w=>pick P b o (.bool false) w fun d w=>Q0 d true w (fieldAddr P T.t a 3) fun n w=>Q0 d true w (Q2 P T.c n) fun q w=>Q0 d true w (Q1 P F.am [q]) fun p w=>pick P d p (.bool false) w fun g w=>K g w
theorem Q2z {b a:Value} {w:World} {K:Value→World→Prop} (h:Cb b a w K):Q1 P F.bh [b,a] w K:=Q9 (List.replicate 2 none) Tryz.func171 rfl (by decide) (by kernel_rfl) h
def Yt:V5:=[none,none,none,some ([8],[4,5,8,9,10,11,12,13,14,15,16,17,18]),none,none,none,none,none,none,none]
def G5 (g h:Value) (w:World) (K:Value→World→Prop):Prop:= X2 P .len [T.q] T.d [false] [g] w fun i w=>lp (α:=Value) (.int .i64 0) w fun a b k w=>Q3 P .lss T.d (.tmp 8) (.tmp 7) b i w fun j w=>X1 j (indexAddr P T.q g b w fun c w=>Q2 P T.v c w fun e w=>Z3 P h [e] w fun d w=>X1 d (K b w) (Q3 P .add T.d (.tmp 8) (.const (.int .i64 1)) b (.int .i64 1) w fun f w=>a f w)) (K (.int .i64 (-1)) w)
theorem Ym {b a:Value} {w:World} {K:Value→World→Prop} (h:G5 b a w K):Q1 P F.a6 [b,a] w K:=Q9 Yt Tryz.func208 rfl (by decide) (by kernel_rfl) h
def B1 (d a:Value) (w:World) (K:Value→World→Prop):Prop:= Q1 P F.a6 [d,a] w fun b w=>Q3 P .geq T.d (.tmp 7) (.const (.int .i64 0)) b (.int .i64 0) w fun c w=>K c w
theorem Xg {b a:Value} {w:World} {K:Value→World→Prop} (h:B1 b a w K):Q1 P F.l [b,a] w K:=Q9 (List.replicate 2 none) Tryz.func194 rfl (by decide) (by kernel_rfl) h
def Jh (g d:Value) (w:World) (K:Value→World→Prop):Prop:= box P T.v g w fun a w=>Q2 P T.ai d w fun c w=>Q2 P T.v a w fun f w=>Z3 P c [f] w fun b w=>J8 P .not b w fun e w=>K e w
theorem Rk {b a:Value} {w:World} {K:Value→World→Prop} (h:Jh b a w K):Q1 P F.bZ [b,a] w K:=Q9 (List.replicate 2 none) Tryz.func195 rfl (by decide) (by kernel_rfl) h
def Vc (f c:Value) (w:World) (K:Value→World→Prop):Prop:= box P T.ai c w fun a w=>H1 P (.func F.bZ) [] [a] w fun b w=>Q1 P F.l [f,b] w fun d w=>J8 P .not d w fun e w=>K e w
theorem Cv {b a:Value} {w:World} {K:Value→World→Prop} (h:Vc b a w K):Q1 P F.aw [b,a] w K:=Q9 (List.replicate 2 none) Tryz.func172 rfl (by decide) (by kernel_rfl) h
def Ub:V5:=[none,none,none,some ([8],[4,5,8,9,10,11,12,13,14,15,16,17,18]),none,none,none,none,none,none,none]
def P0 (g h:Value) (w:World) (K:Value→World→Prop):Prop:= X2 P .len [T.ap] T.d [false] [g] w fun i w=>lp (α:=Value) (.int .i64 0) w fun a b k w=>Q3 P .lss T.d (.tmp 8) (.tmp 7) b i w fun j w=>X1 j (indexAddr P T.ap g b w fun c w=>Q2 P T.ad c w fun e w=>Z3 P h [e] w fun d w=>X1 d (K b w) (Q3 P .add T.d (.tmp 8) (.const (.int .i64 1)) b (.int .i64 1) w fun f w=>a f w)) (K (.int .i64 (-1)) w)
theorem Um {b a:Value} {w:World} {K:Value→World→Prop} (h:P0 b a w K):Q1 P F.t [b,a] w K:=Q9 Ub Tryz.func221 rfl (by decide) (by kernel_rfl) h
def Tk (g d:Value) (w:World) (K:Value→World→Prop):Prop:= box P T.ad g w fun a w=>fieldAddr P T.ad a 0 w fun c w=>Q2 P T.c c w fun f w=>Q2 P T.c d w fun b w=>Q3 P .eql T.c (.tmp 5) (.tmp 6) f b w fun e w=>K e w
theorem Q4S {b a:Value} {w:World} {K:Value→World→Prop} (h:Tk b a w K):Q1 P F.cR [b,a] w K:=Q9 (List.replicate 2 none) Tryz.func222 rfl (by decide) (by kernel_rfl) h
def Q29 (e:Value) (w:World) (K:Value→World→Prop):Prop:= box P T.c e w fun a w=>S1 P T.af (.pointer (some ⟨G.a,0,none⟩)) none none none w fun d w=>H1 P (.func F.cR) [] [a] w fun b w=>Q1 P F.t [d,b] w fun c w=>K c w
theorem Q6H {a:Value} {w:World} {K:Value→World→Prop} (h:Q29 a w K):Q1 P F.cM [a] w K:=Q9 (List.replicate 2 none) Tryz.func209 rfl (by decide) (by kernel_rfl) h
def Q0w (p:Value) (w:World) (K:Value→World→Prop):Prop:= Q1 P F.cM [p] w fun o w=>Q3 P .lss T.d (.tmp 8) (.const (.int .i64 0)) o (.int .i64 0) w fun q w=>X1 q (K (.tuple #[(.bool false),(.bool false),(.bool false)]) w) (dr w fun a l=>Q4 a (fun c=> ∀w,l w→indexAddr P T.af (.pointer (some ⟨G.a,0,none⟩)) o w (dk a c w)) fun c=>Q4 a (fun f=> ∀h w,l w→c h w→fieldAddr P T.ad h 1 w (dk a f w)) fun f=>Q4 a (fun d=> ∀w,l w→indexAddr P T.af (.pointer (some ⟨G.a,0,none⟩)) o w (dk a d w)) fun d=>Q4 a (fun e=> ∀i w,l w→d i w→fieldAddr P T.ad i 2 w (dk a e w)) fun e=>Q4 a (fun k=> ∀g w,l w→f g w→Q2 P T.u g w (dk a k w)) fun k=>Q4 a (fun j=> ∀b w,l w→e b w→Q2 P T.u b w (dk a j w)) fun j=>∀h g i b n m w,l w→c h w→f g w→d i w→e b w→k n w→j m w→ K (.tuple #[n,m,(.bool true)]) w)
theorem Q5b {a:Value} {w:World} {K:Value→World→Prop} (h:Q0w a w K):Q1 P F.cm [a] w K:=Q9 (List.replicate 6 none) Tryz.func196 rfl (by decide) (by kernel_rfl) h
def Q2a (d:Value) (w:World) (K:Value→World→Prop):Prop:= Q1 P F.cx [d] w fun c w=>ext P c 0 w fun f w=>ext P c 1 w fun e w=>Q1 P F.a0 [d] w fun b w=>J8 P .not b w fun a w=>X1 a (K (.int .i64 0) w) (K e w)
theorem Q78 {a:Value} {w:World} {K:Value→World→Prop} (h:Q2a a w K):Q1 P F.cw [a] w K:=Q9 (List.replicate 6 none) Tryz.func115 rfl (by decide) (by kernel_rfl) h
def Ve (c a:Value) (w:World) (K:Value→World→Prop):Prop:= Q1 P F.c1 [c,a] w fun b w=>K b w
theorem Cp {b a:Value} {w:World} {K:Value→World→Prop} (h:Ve b a w K):Q1 P F.ay [b,a] w K:=Q9 (List.replicate 2 none) Tryz.func227 rfl (by decide) (by kernel_rfl) h
def Aw:V5:=[none,none,none,none,none,none,none,none,none,none,none,none,none,none,none,none,none,some ([8,10],[4,8,10,11,12,13,57,58,59,60,61,62,63,64,65,66,67,68,69,70,71,72,73,74,75,76,77,78,79,80,81,82,83,84,85,86,87,88,89,90,91,92,93,94,95,96,97,98,99,100,101,102,103,104,105,106,107,108,109,110,111,112,113,114,115,116,117,118,119,120,121,122,123,124,125,126,127,128,129,130,131,132,133,134,135,136,137,138,139,140,141,142]),none,none,some ([8],[4,8,11,60,61,62,63,64,65,66,67,68,69,70,71,72,73,74,75,76,77]),none,none,none,none,none,none,none,none,none,none,none,none,none,none,none,none,none,none,none,none,none,none,none]
def Oh (h l:Value) (w:World) (K:Value→World→Prop):Prop:= X2 P .len [T.c] T.d [false] [l] w fun d w=>Q3 P .eql T.d (.tmp 17) (.const (.int .i64 0)) d (.int .i64 0) w fun m w=>Q0 m false w (fun w J=>J l w) fun a8 w=>Q0 m false w (fun w J=>J h w) fun aj w=>Q0 m false w (Q3 P .eql T.c (.tmp 20) (.tmp 21) a8 aj) fun bf w=>pick P m (.bool true) bf w fun ba w=>X1 ba (K (.int .i64 0) w) (Q3 P .eql T.d (.tmp 25) (.const (.int .i64 1)) d (.int .i64 1) w fun ap w=>X1 ap (C5 P T.c l (.int .i64 0) w fun a4 w=>Q1 P F.ay [h,a4] w fun ay w=>K ay w) (X2 P .len [T.c] T.d [false] [h] w fun al w=>Q3 P .geq T.d (.tmp 32) (.tmp 34) d al w fun ae w=>X1 ae (K (.int .i64 (-1)) w) (Q2 P T.d (.pointer (some ⟨G.c,0,none⟩)) w fun bc w=>Q3 P .leq T.d (.tmp 37) (.tmp 38) d bc w fun k w=>Q0 k true w (fun w J=>J h w) fun aq w=>Q0 k true w (X2 P .len [T.c] T.d [false] [aq]) fun a2 w=>Q0 k true w (Q3 P .leq T.d (.tmp 42) (.const (.int .i64 64)) a2 (.int .i64 64)) fun be w=>pick P k be (.bool false) w fun ab w=>X1 ab (Q1 P F.cu [h,l] w fun bd w=>K bd w) (C5 P T.c l (.int .i64 0) w fun L w=>C5 P T.c l (.int .i64 1) w fun ag w=>X2 P .len [T.c] T.d [false] [h] w fun an w=>Q3 P .sub T.d (.tmp 53) (.tmp 54) an d w fun a7 w=>Q3 P .add T.d (.tmp 55) (.const (.int .i64 1)) a7 (.int .i64 1) w fun q w=>lp (α:=Value×Value) ((.int .i64 0),(.int .i64 0)) w fun i g d_ w=>Q3 P .lss T.d (.tmp 57) (.tmp 58) g.1 q w fun af w=>X1 af (jn (α:=Value) w (fun V w=>C5 P T.c h g.1 w fun ah w=>Q3 P .neq T.a3 (.tmp 62) (.tmp 63) ah L w fun ar w=>X1 ar (Q3 P .add T.d (.tmp 66) (.const (.int .i64 1)) g.1 (.int .i64 1) w fun a6 w=>S1 P T.c h (some a6) (some q) none w fun a9 w=>Q1 P F.ay [a9,L] w fun W w=>Q3 P .lss T.d (.tmp 72) (.const (.int .i64 0)) W (.int .i64 0) w fun ao w=>X1 ao (K (.int .i64 (-1)) w) (Q3 P .add T.d (.tmp 75) (.const (.int .i64 1)) W (.int .i64 1) w fun am w=>Q3 P .add T.d (.tmp 74) (.tmp 76) g.1 am w fun av w=>V av w)) (V g.1 w)) fun j d_ w=>Q3 P .add T.d (.tmp 79) (.const (.int .i64 1)) j (.int .i64 1) w fun aw w=>C5 P T.c h aw w fun ad w=>Q3 P .eql T.a3 (.tmp 81) (.tmp 82) ad ag w fun b w=>Q0 b true w (fun w J=>J h w) fun ax w=>Q0 b true w (fun w J=>J j w) fun bb w=>Q0 b true w (fun w J=>J j w) fun az w=>Q0 b true w (fun w J=>J d w) fun ai w=>Q0 b true w (Q3 P .add T.d (.tmp 87) (.tmp 88) az ai) fun ac w=>Q0 b true w (S1 P T.c ax (some bb) (some ac) none) fun aa w=>Q0 b true w (fun w J=>J l w) fun a5 w=>Q0 b true w (Q3 P .eql T.c (.tmp 90) (.tmp 91) aa a5) fun ak w=>pick P b ak (.bool false) w fun a3 w=>X1 a3 (K j w) (Q3 P .add T.d (.tmp 95) (.const (.int .i64 1)) j (.int .i64 1) w fun c w=>Q3 P .add T.d (.tmp 97) (.const (.int .i64 1)) g.2 (.int .i64 1) w fun p w=>Q2 P T.d (.pointer (some ⟨G.c,0,none⟩)) w fun X w=>Q3 P .leq T.d (.tmp 99) (.tmp 100) d X w fun e w=>Q0 e true w (fun w J=>J p w) fun U w=>Q0 e true w (fun w J=>J c w) fun Y w=>Q0 e true w (Q1 P F.cV [Y]) fun z w=>Q0 e true w (Q3 P .gtr T.d (.tmp 103) (.tmp 105) U z) fun B w=>pick P e B (.bool false) w fun r w=>X1 r (S1 P T.c h (some c) none none w fun D w=>Q1 P F.cu [D,l] w fun n w=>Q3 P .geq T.d (.tmp 113) (.const (.int .i64 0)) n (.int .i64 0) w fun M w=>X1 M (Q3 P .add T.d (.tmp 115) (.tmp 116) n c w fun t w=>K t w) (K (.int .i64 (-1)) w)) (Q2 P T.d (.pointer (some ⟨G.c,0,none⟩)) w fun H w=>Q3 P .gtr T.d (.tmp 118) (.tmp 119) d H w fun a w=>Q0 a true w (fun w J=>J p w) fun N w=>Q0 a true w (fun w J=>J c w) fun v w=>Q0 a true w (Q3 P .shr T.d (.tmp 123) (.const (.int .u64 4)) v (.int .u64 4)) fun s w=>Q0 a true w (Q3 P .add T.d (.const (.int .i64 4)) (.tmp 124) (.int .i64 4) s) fun R w=>Q0 a true w (Q3 P .geq T.d (.tmp 122) (.tmp 125) N R) fun A w=>pick P a A (.bool false) w fun f w=>Q0 f true w (fun w J=>J c w) fun C w=>Q0 f true w (fun w J=>J q w) fun Z w=>Q0 f true w (Q3 P .lss T.d (.tmp 129) (.tmp 130) C Z) fun y w=>pick P f y (.bool false) w fun u w=>X1 u (S1 P T.c h (some c) none none w fun O w=>Q1 P F.cK [O,l] w fun o w=>Q3 P .lss T.d (.tmp 138) (.const (.int .i64 0)) o (.int .i64 0) w fun Q w=>X1 Q (K (.int .i64 (-1)) w) (Q3 P .add T.d (.tmp 140) (.tmp 141) c o w fun E w=>K E w)) (i (c,p) w)))) (K (.int .i64 (-1)) w)))))
theorem Q09 {b a:Value} {w:World} {K:Value→World→Prop} (h:Oh b a w K):Q1 P F.bM [b,a] w K:=Q9 Aw Tryz.func228 rfl (by decide) (by kernel_rfl) h
def Hu (l n:Value) (w:World) (K:Value→World→Prop):Prop:= Q1 P F.bM [l,n] w fun f w=>Q3 P .geq T.d (.tmp 11) (.const (.int .i64 0)) f (.int .i64 0) w fun m w=>X1 m (dr w fun e i=>Q4 e (fun h=> ∀w,i w→S1 P T.c l none (some f) none w (dk e h w)) fun h=>Q4 e (fun c=> ∀w,i w→X2 P .len [T.c] T.d [false] [n] w (dk e c w)) fun c=>Q4 e (fun d=> ∀a w,i w→c a w→Q3 P .add T.d (.tmp 17) (.tmp 19) f a w (dk e d w)) fun d=>Q4 e (fun g=> ∀b w,i w→d b w→S1 P T.c l (some b) none none w (dk e g w)) fun g=>∀k a b j w,i w→h k w→c a w→d b w→g j w→ K (.tuple #[k,j,(.bool true)]) w) (K (.tuple #[l,(.string ⟨#[]⟩),(.bool false)]) w)
theorem Q1X {b a:Value} {w:World} {K:Value→World→Prop} (h:Hu b a w K):Q1 P F.cJ [b,a] w K:=Q9 (List.replicate 6 none) Tryz.func229 rfl (by decide) (by kernel_rfl) h
def Tm (f e:Value) (w:World) (K:Value→World→Prop):Prop:= Q1 P F.cJ [f,e] w fun d w=>ext P d 0 w fun a w=>ext P d 1 w fun c w=>ext P d 2 w fun b w=>K (.tuple #[a,c,b]) w
theorem Q4U {b a:Value} {w:World} {K:Value→World→Prop} (h:Tm b a w K):Q1 P F.cB [b,a] w K:=Q9 (List.replicate 2 none) Tryz.func224 rfl (by decide) (by kernel_rfl) h
end Go.Proofs.YtjdiakhipmggjaaGreatDoor

set_option maxRecDepth 100000
namespace Go.Proofs.YtjdiakhipmggjaaGreatDoor
open Go.Emb
def Q0W (t:Value) (w:World) (K:Value→World→Prop):Prop:= Q1 P F.cB [t,(.string ⟨#[46]⟩)] w fun d w=>ext P d 0 w fun f w=>ext P d 1 w fun e w=>ext P d 2 w fun s w=>J8 P .not s w fun c w=>Q0 c false w (fun w J=>J f w) fun k w=>Q0 c false w (Q1 P F.am [k]) fun q w=>Q0 c false w (J8 P .not q) fun o w=>pick P c (.bool true) o w fun b w=>Q0 b false w (fun w J=>J e w) fun g w=>Q0 b false w (Q1 P F.c6 [g]) fun r w=>Q0 b false w (J8 P .not r) fun i w=>pick P b (.bool true) i w fun a w=>Q0 a false w (fun w J=>J e w) fun p w=>Q0 a false w (C5 P T.c p (.int .i64 0)) fun h w=>Q0 a false w (conv P T.a3 T.an h) fun n w=>Q0 a false w (Q1 P F.cl [n]) fun j w=>Q0 a false w (J8 P .not j) fun l w=>pick P a (.bool true) l w fun m w=>X1 m (K (.tuple #[(.string ⟨#[]⟩),(.string ⟨#[]⟩),(.int .i64 30)]) w) (K (.tuple #[f,e,(.int .i64 0)]) w)
theorem Q5S {a:Value} {w:World} {K:Value→World→Prop} (h:Q0W a w K):Q1 P F.cI [a] w K:=Q9 (List.replicate 6 none) Tryz.func211 rfl (by decide) (by kernel_rfl) h
def Q6K:V5:=[none,none,none,none,none,none,none,some ([27],[27,28,29]),none,none,none,none,none,none]
def Q2q (h a:Value) (w:World) (K:Value→World→Prop):Prop:= Q3 P .eql T.c (.tmp 8) (.const (.string ⟨#[119,111,114,100]⟩)) h (.string ⟨#[119,111,114,100]⟩) w fun o w=>X1 o (X2 P .len [T.c] T.d [false] [a] w fun A w=>Q3 P .leq T.d (.tmp 12) (.const (.int .i64 64)) A (.int .i64 64) w fun f w=>Q0 f true w (fun w J=>J a w) fun E w=>Q0 f true w (Q1 P F.b0 [E]) fun k w=>pick P f k (.bool false) w fun b w=>Q0 b true w (fun w J=>J a w) fun u w=>Q0 b true w (Q1 P F.cE [u,(.string ⟨#[10]⟩)]) fun v w=>Q0 b true w (J8 P .not v) fun p w=>pick P b p (.bool false) w fun l w=>K l w) (Q3 P .eql T.c (.tmp 8) (.const (.string ⟨#[110,101,119]⟩)) h (.string ⟨#[110,101,119]⟩) w fun n w=>X1 n (Q1 P F.am [a] w fun B w=>K B w) (jn (α:=Value) w (fun L w=>Q3 P .eql T.c (.tmp 8) (.const (.string ⟨#[105,115]⟩)) h (.string ⟨#[105,115]⟩) w fun g w=>X1 g (L g w) (Q3 P .eql T.c (.tmp 8) (.const (.string ⟨#[99,97,115,116]⟩)) h (.string ⟨#[99,97,115,116]⟩) w fun r w=>L r w)) fun N Q w=>X1 N (Q1 P F.a0 [a] w fun c w=>Q0 c true w (fun w J=>J a w) fun t w=>Q0 c true w (Q1 P F.aO [t]) fun s w=>Q0 c true w (J8 P .not s) fun j w=>pick P c j (.bool false) w fun D w=>K D w) (Q3 P .eql T.c (.tmp 8) (.const (.string ⟨#[97,114,114,97,121]⟩)) h (.string ⟨#[97,114,114,97,121]⟩) w fun y w=>X1 y (Q1 P F.a0 [a] w fun d w=>Q0 d true w (fun w J=>J a w) fun q w=>Q0 d true w (Q1 P F.cw [q]) fun C w=>Q0 d true w (Q3 P .lss T.d (.tmp 43) (.const (.int .i64 3)) C (.int .i64 3)) fun i w=>pick P d i (.bool false) w fun H w=>K H w) (Q1 P F.cI [a] w fun e w=>ext P e 0 w fun M w=>ext P e 1 w fun O w=>ext P e 2 w fun m w=>Q3 P .eql T.w (.tmp 52) (.const (.int .i64 0)) m (.int .i64 0) w fun z w=>K z w))))
theorem Q6Z {b a:Value} {w:World} {K:Value→World→Prop} (h:Q2q b a w K):Q1 P F.cL [b,a] w K:=Q9 Q6K Tryz.func197 rfl (by decide) (by kernel_rfl) h
def Q5K:V5:=[none,none,none,none,none,some ([16],[16,17,18,19,20,21,22,23,24,25,26,27,28,29,30,31,32,33,34,35,36,37,38,39]),none,none,none,none]
def Q15 (C:Value) (w:World) (K:Value→World→Prop):Prop:= box P T.v C w fun a w=>fieldAddr P T.v a 0 w fun D w=>Q2 P T.c D w fun A w=>Q1 P F.cm [A] w fun n w=>ext P n 0 w fun k w=>ext P n 1 w fun b w=>ext P n 2 w fun u w=>J8 P .not u w fun y w=>X1 y (K (.int .i64 40) w) (jn (α:=Value) w (fun z w=>J8 P .not k w fun d w=>Q0 d true w (fieldAddr P T.v a 1) fun r w=>Q0 d true w (Q2 P T.a0 r) fun l w=>Q0 d true w (Q3 P .neq T.a0 (.tmp 21) (.const (.int .i64 0)) l (.int .i64 0)) fun i w=>pick P d i (.bool false) w fun f w=>X1 f (z f w) (J8 P .not b w fun c w=>Q0 c true w (fieldAddr P T.v a 2) fun q w=>Q0 c true w (Q2 P T.c q) fun j w=>Q0 c true w (Q3 P .neq T.c (.tmp 28) (.const (.string ⟨#[]⟩)) j (.string ⟨#[]⟩)) fun m w=>pick P c m (.bool false) w fun e w=>X1 e (z e w) (Q0 b true w (fieldAddr P T.v a 0) fun p w=>Q0 b true w (Q2 P T.c p) fun o w=>Q0 b true w (fieldAddr P T.v a 2) fun g w=>Q0 b true w (Q2 P T.c g) fun v w=>Q0 b true w (Q1 P F.cL [o,v]) fun s w=>Q0 b true w (J8 P .not s) fun t w=>pick P b t (.bool false) w fun h w=>z h w))) fun B E w=>X1 B (K (.int .i64 41) w) (K (.int .i64 0) w))
theorem Q6h {a:Value} {w:World} {K:Value→World→Prop} (h:Q15 a w K):Q1 P F.cH [a] w K:=Q9 Q5K Tryz.func174 rfl (by decide) (by kernel_rfl) h
def Sb (e:Value) (w:World) (K:Value→World→Prop):Prop:= box P T.v e w fun a w=>Q2 P T.v a w fun d w=>Q1 P F.cH [d] w fun b w=>Q3 P .eql T.w (.tmp 4) (.const (.int .i64 0)) b (.int .i64 0) w fun c w=>K c w
theorem Q2J {a:Value} {w:World} {K:Value→World→Prop} (h:Sb a w K):Q1 P F.bi [a] w K:=Q9 (List.replicate 2 none) Tryz.func173 rfl (by decide) (by kernel_rfl) h
def Ys:V5:=[none,none,none,some ([8],[4,5,8,9,10,11,12,13,14,15,16,17,18]),none,none,none,none,none,none,none]
def G0 (g h:Value) (w:World) (K:Value→World→Prop):Prop:= X2 P .len [T.s] T.d [false] [g] w fun i w=>lp (α:=Value) (.int .i64 0) w fun a b k w=>Q3 P .lss T.d (.tmp 8) (.tmp 7) b i w fun j w=>X1 j (indexAddr P T.s g b w fun c w=>Q2 P T.t c w fun e w=>Z3 P h [e] w fun d w=>X1 d (K b w) (Q3 P .add T.d (.tmp 8) (.const (.int .i64 1)) b (.int .i64 1) w fun f w=>a f w)) (K (.int .i64 (-1)) w)
theorem Yx {b a:Value} {w:World} {K:Value→World→Prop} (h:G0 b a w K):Q1 P F.a7 [b,a] w K:=Q9 Ys Tryz.func212 rfl (by decide) (by kernel_rfl) h
def B4 (d a:Value) (w:World) (K:Value→World→Prop):Prop:= Q1 P F.a7 [d,a] w fun b w=>Q3 P .geq T.d (.tmp 7) (.const (.int .i64 0)) b (.int .i64 0) w fun c w=>K c w
theorem Xh {b a:Value} {w:World} {K:Value→World→Prop} (h:B4 b a w K):Q1 P F.m [b,a] w K:=Q9 (List.replicate 2 none) Tryz.func198 rfl (by decide) (by kernel_rfl) h
def Jd (g d:Value) (w:World) (K:Value→World→Prop):Prop:= box P T.t g w fun a w=>Q2 P T.ah d w fun c w=>Q2 P T.t a w fun f w=>Z3 P c [f] w fun b w=>J8 P .not b w fun e w=>K e w
theorem Re {b a:Value} {w:World} {K:Value→World→Prop} (h:Jd b a w K):Q1 P F.c0 [b,a] w K:=Q9 (List.replicate 2 none) Tryz.func199 rfl (by decide) (by kernel_rfl) h
def Vi (f c:Value) (w:World) (K:Value→World→Prop):Prop:= box P T.ah c w fun a w=>H1 P (.func F.c0) [] [a] w fun b w=>Q1 P F.m [f,b] w fun d w=>J8 P .not d w fun e w=>K e w
theorem Ck {b a:Value} {w:World} {K:Value→World→Prop} (h:Vi b a w K):Q1 P F.ax [b,a] w K:=Q9 (List.replicate 2 none) Tryz.func175 rfl (by decide) (by kernel_rfl) h
def Gv (a0:Value) (w:World) (K:Value→World→Prop):Prop:= box P T.e a0 w fun c w=>fieldAddr P T.e c 0 w fun t5 w=>Q2 P T.c t5 w fun t6 w=>Q1 P F.bU [t6] w fun t7 w=>J8 P .not t7 w fun i w=>Q0 i false w (fieldAddr P T.e c 1) fun v w=>Q0 i false w (Q2 P T.h v) fun af w=>Q0 i false w (Q1 P F.aa [af,(.func (.func F.a0) #[] #[])]) fun ae w=>Q0 i false w (J8 P .not ae) fun ab w=>pick P i (.bool true) ab w fun b w=>Q0 b false w (fieldAddr P T.e c 2) fun p w=>Q0 b false w (Q2 P T.c p) fun u w=>Q0 b false w (Q3 P .neq T.c (.tmp 17) (.const (.string ⟨#[]⟩)) u (.string ⟨#[]⟩)) fun X w=>Q0 b false w (fun w J=>J X w) fun e w=>Q0 e true w (fieldAddr P T.e c 2) fun W w=>Q0 e true w (Q2 P T.c W) fun B w=>Q0 e true w (Q1 P F.a0 [B]) fun aj w=>Q0 e true w (J8 P .not aj) fun Y w=>Q0 b false w (pick P e Y (.bool false)) fun s w=>pick P b (.bool true) s w fun D w=>X1 D (K (.bool false) w) (fieldAddr P T.e c 3 w fun ag w=>Q2 P T.u ag w fun U w=>X1 U (fieldAddr P T.e c 4 w fun q w=>Q2 P T.d q w fun M w=>Q3 P .eql T.d (.tmp 29) (.const (.int .i64 0)) M (.int .i64 0) w fun d w=>Q0 d true w (fieldAddr P T.e c 5) fun E w=>Q0 d true w (Q2 P T.q E) fun Q w=>Q0 d true w (X2 P .len [T.q] T.d [false] [Q]) fun O w=>Q0 d true w (Q3 P .eql T.d (.tmp 34) (.const (.int .i64 0)) O (.int .i64 0)) fun m w=>pick P d m (.bool false) w fun g w=>Q0 g true w (fieldAddr P T.e c 6) fun Z w=>Q0 g true w (Q2 P T.s Z) fun o w=>Q0 g true w (X2 P .len [T.s] T.d [false] [o]) fun am w=>Q0 g true w (Q3 P .eql T.d (.tmp 40) (.const (.int .i64 0)) am (.int .i64 0)) fun l w=>pick P g l (.bool false) w fun L w=>K L w) (fieldAddr P T.e c 5 w fun ah w=>Q2 P T.q ah w fun j w=>X2 P .len [T.q] T.d [false] [j] w fun ak w=>W0 P T.d w fun A w=>Y0 P T.d A ak w fun _u w=>H1 P (.func F.bh) [] [A] w fun al w=>Q2 P T.d A w fun aa w=>Q3 P .gtr T.d (.tmp 47) (.const (.int .i64 0)) aa (.int .i64 0) w fun a w=>Q0 a true w (fieldAddr P T.e c 4) fun ai w=>Q0 a true w (Q2 P T.d ai) fun r w=>Q0 a true w (fieldAddr P T.e c 1) fun ac w=>Q0 a true w (Q2 P T.h ac) fun ad w=>Q0 a true w (X2 P .len [T.h] T.d [false] [ad]) fun z w=>Q0 a true w (Q3 P .gtr T.d (.tmp 51) (.tmp 54) r z) fun R w=>pick P a R (.bool false) w fun h w=>Q0 h true w (fieldAddr P T.e c 5) fun H w=>Q0 h true w (Q2 P T.q H) fun n w=>Q0 h true w (Q1 P F.aw [n,(.func (.func F.bi) #[] #[])]) fun C w=>pick P h C (.bool false) w fun f w=>Q0 f true w (fieldAddr P T.e c 6) fun t w=>Q0 f true w (Q2 P T.s t) fun k w=>Q0 f true w (fun w J=>J al w) fun V w=>Q0 f true w (Q1 P F.ax [k,V]) fun y w=>pick P f y (.bool false) w fun N w=>K N w))
theorem Q3Z {a:Value} {w:World} {K:Value→World→Prop} (h:Gv a w K):Q1 P F.ba [a] w K:=Q9 (List.replicate 10 none) Tryz.func135 rfl (by decide) (by kernel_rfl) h
def Tg (a0:Value) (w:World) (K:Value→World→Prop):Prop:= box P T.b a0 w fun b w=>fieldAddr P T.b b 0 w fun t7 w=>Q2 P T.c t7 w fun t8 w=>fieldAddr P T.b b 1 w fun t9 w=>Q2 P T.c t9 w fun ao w=>buildSlice P T.h 2 [(0,t8),(1,ao)] w fun ad w=>fieldAddr P T.b b 2 w fun ba w=>Q2 P T.h ba w fun aa w=>X2 P .append [T.h,T.h] T.h [false,false] [ad,aa] w fun q w=>dr w fun o u=>Q4 o (fun n=> ∀w,u w→S1 P T.h q (some (.int .i64 1)) none none w (dk o n w)) fun n=>Q4 o (fun j=> ∀w,u w→fieldAddr P T.b b 0 w (dk o j w)) fun j=>Q4 o (fun l=> ∀i w,u w→j i w→Q2 P T.c i w (dk o l w)) fun l=>∀p i t w,u w→n p w→j i w→l t w→ Q1 P F.ah [p,t] w fun W w=>fieldAddr P T.b b 7 w fun ay w=>Q2 P T.j ay w fun M w=>Q1 P F.a [M,(.func (.func F.cn) #[] #[])] w fun bd w=>fieldAddr P T.b b 7 w fun a2 w=>Q2 P T.j a2 w fun am w=>Q1 P F.a [am,(.func (.func F.co) #[] #[])] w fun O w=>Q1 P F.aa [q,(.func (.func F.am) #[] #[])] w fun al w=>J8 P .not al w fun s w=>Q0 s false w (fun w J=>J W w) fun ap w=>pick P s (.bool true) ap w fun d w=>Q0 d false w (fieldAddr P T.b b 2) fun V w=>Q0 d false w (Q2 P T.h V) fun y w=>Q0 d false w (Q1 P F.aU [y,(.func (.func F.cp) #[] #[])]) fun bc w=>Q0 d false w (J8 P .not bc) fun a3 w=>pick P d (.bool true) a3 w fun a5 w=>X1 a5 (K (.bool false) w) (fieldAddr P T.b b 3 w fun ag w=>Q2 P T.u ag w fun a w=>Q0 a true w (fieldAddr P T.b b 4) fun bb w=>Q0 a true w (Q2 P T.u bb) fun v w=>Q0 a true w (J8 P .not v) fun af w=>Q0 a true w (fun w J=>J af w) fun h w=>Q0 h false w (fieldAddr P T.b b 1) fun a6 w=>Q0 h false w (Q2 P T.c a6) fun Y w=>Q0 h false w (Q3 P .neq T.c (.tmp 48) (.const (.string ⟨#[79,98,106,101,99,116]⟩)) Y (.string ⟨#[79,98,106,101,99,116]⟩)) fun ak w=>Q0 a true w (pick P h (.bool true) ak) fun ae w=>Q0 a true w (fun w J=>J ae w) fun c w=>Q0 c false w (fieldAddr P T.b b 6) fun a9 w=>Q0 c false w (Q2 P T.k a9) fun ab w=>Q0 c false w (X2 P .len [T.k] T.d [false] [ab]) fun H w=>Q0 c false w (Q3 P .gtr T.d (.tmp 54) (.const (.int .i64 0)) H (.int .i64 0)) fun aw w=>Q0 a true w (pick P c (.bool true) aw) fun X w=>Q0 a true w (fun w J=>J X w) fun r w=>Q0 r false w (fun w J=>J O w) fun Q w=>Q0 a true w (pick P r (.bool true) Q) fun z w=>pick P a z (.bool false) w fun N w=>X1 N (K (.bool false) w) (fieldAddr P T.b b 4 w fun B w=>Q2 P T.u B w fun m w=>Q0 m true w (fieldAddr P T.b b 5) fun ax w=>Q0 m true w (Q2 P T.u ax) fun D w=>pick P m D (.bool false) w fun k w=>Q0 k false w (fun w J=>J bd w) fun a1 w=>Q0 k false w (fun w J=>J a1 w) fun g w=>Q0 g true w (fieldAddr P T.b b 4) fun a8 w=>Q0 g true w (Q2 P T.u a8) fun a7 w=>Q0 g true w (J8 P .not a7) fun ac w=>Q0 k false w (pick P g ac (.bool false)) fun E w=>pick P k (.bool true) E w fun U w=>X1 U (K (.bool false) w) (fieldAddr P T.b b 6 w fun ai w=>Q2 P T.k ai w fun aj w=>Q1 P F.aF [aj,(.func (.func F.cq) #[] #[])] w fun az w=>J8 P .not az w fun e w=>Q0 e false w (fieldAddr P T.b b 7) fun ah w=>Q0 e false w (Q2 P T.j ah) fun Z w=>Q0 e false w (Q1 P F.ar [Z,(.func (.func F.cr) #[] #[])]) fun A w=>Q0 e false w (J8 P .not A) fun an w=>pick P e (.bool true) an w fun a4 w=>X1 a4 (K (.bool false) w) (fieldAddr P T.b b 6 w fun aq w=>Q2 P T.k aq w fun C w=>Q1 P F.au [C,(.func (.func F.bx) #[] #[])] w fun f w=>Q0 f true w (fieldAddr P T.b b 7) fun av w=>Q0 f true w (Q2 P T.j av) fun R w=>Q0 f true w (Q1 P F.ap [R,(.func (.func F.ba) #[] #[])]) fun ar w=>pick P f ar (.bool false) w fun L w=>K L w))))
theorem Q4Q {a:Value} {w:World} {K:Value→World→Prop} (h:Tg a w K):Q1 P F.cA [a] w K:=Q9 (List.replicate 15 none) Tryz.func78 rfl (by decide) (by kernel_rfl) h
def Th (f:Value) (w:World) (K:Value→World→Prop):Prop:= box P T.b f w fun a w=>Q2 P T.b a w fun b w=>Q1 P F.cG [b] w fun d w=>X1 d (K (.int .i64 51) w) (Q2 P T.b a w fun c w=>Q1 P F.cA [c] w fun e w=>J8 P .not e w fun g w=>X1 g (K (.int .i64 50) w) (K (.int .i64 0) w))
theorem Q4N {a:Value} {w:World} {K:Value→World→Prop} (h:Th a w K):Q1 P F.cy [a] w K:=Q9 (List.replicate 7 none) Tryz.func42 rfl (by decide) (by kernel_rfl) h
def Ql (a:Value) (w:World) (K:Value→World→Prop):Prop:= Q3 P .eql T.h (.tmp 3) (.const (.slice none 0 0)) a (.slice none 0 0) w fun b w=>X1 b (K (.slice none 0 0) w) (buildSlice P T.h 0 [] w fun d w=>X2 P .append [T.h,T.h] T.h [false,false] [d,a] w fun c w=>K c w)
theorem Mz {a:Value} {w:World} {K:Value→World→Prop} (h:Ql a w K):Q1 P F.a8 [a] w K:=Q9 (List.replicate 5 none) Tryz.func79 rfl (by decide) (by kernel_rfl) h
def K9 (a:Value) (w:World) (K:Value→World→Prop):Prop:= Q3 P .eql T.k (.tmp 3) (.const (.slice none 0 0)) a (.slice none 0 0) w fun b w=>X1 b (K (.slice none 0 0) w) (buildSlice P T.k 0 [] w fun d w=>X2 P .append [T.k,T.k] T.k [false,false] [d,a] w fun c w=>K c w)
theorem Ud {a:Value} {w:World} {K:Value→World→Prop} (h:K9 a w K):Q1 P F.ad [a] w K:=Q9 (List.replicate 5 none) Tryz.func80 rfl (by decide) (by kernel_rfl) h
def P2 (a:Value) (w:World) (K:Value→World→Prop):Prop:= Q3 P .eql T.q (.tmp 3) (.const (.slice none 0 0)) a (.slice none 0 0) w fun b w=>X1 b (K (.slice none 0 0) w) (buildSlice P T.q 0 [] w fun d w=>X2 P .append [T.q,T.q] T.q [false,false] [d,a] w fun c w=>K c w)
theorem Ue {a:Value} {w:World} {K:Value→World→Prop} (h:P2 a w K):Q1 P F.ae [a] w K:=Q9 (List.replicate 5 none) Tryz.func136 rfl (by decide) (by kernel_rfl) h
def K8 (a:Value) (w:World) (K:Value→World→Prop):Prop:= Q3 P .eql T.s (.tmp 3) (.const (.slice none 0 0)) a (.slice none 0 0) w fun b w=>X1 b (K (.slice none 0 0) w) (buildSlice P T.s 0 [] w fun d w=>X2 P .append [T.s,T.s] T.s [false,false] [d,a] w fun c w=>K c w)
theorem Uf {a:Value} {w:World} {K:Value→World→Prop} (h:K8 a w K):Q1 P F.af [a] w K:=Q9 (List.replicate 5 none) Tryz.func137 rfl (by decide) (by kernel_rfl) h
def Tn (E:Value) (w:World) (K:Value→World→Prop):Prop:= box P T.e E w fun a w=>W0 P T.e w fun C w=>dr w fun b c=>Q4 b (fun s=> ∀w,c w→fieldAddr P T.e a 1 w (dk b s w)) fun s=>Q4 b (fun m=> ∀w,c w→fieldAddr P T.e a 5 w (dk b m w)) fun m=>Q4 b (fun p=> ∀w,c w→fieldAddr P T.e a 6 w (dk b p w)) fun p=>Q4 b (fun l=> ∀j w,c w→s j w→Q2 P T.h j w (dk b l w)) fun l=>Q4 b (fun u=> ∀r w,c w→l r w→Q1 P F.a8 [r] w (dk b u w)) fun u=>Q4 b (fun k=> ∀q w,c w→m q w→Q2 P T.q q w (dk b k w)) fun k=>Q4 b (fun y=> ∀o w,c w→k o w→Q1 P F.ae [o] w (dk b y w)) fun y=>Q4 b (fun e=> ∀n w,c w→p n w→Q2 P T.s n w (dk b e w)) fun e=>Q4 b (fun g=> ∀w,c w→fieldAddr P T.e a 1 w (dk b g w)) fun g=>Q4 b (fun f=> ∀d w,c w→e d w→Q1 P F.af [d] w (dk b f w)) fun f=>∀j q n r B o A d h i w,c w→s j w→m q w→p n w→l r w→u B w→k o w→y A w→e d w→g h w→f i w→ Y0 P T.h h B w fun _u w=>fieldAddr P T.e a 5 w fun v w=>Y0 P T.q v A w fun _u w=>fieldAddr P T.e a 6 w fun t w=>Y0 P T.s t i w fun _u w=>Q2 P T.e a w fun z w=>Y0 P T.e C z w fun _u w=>Y8 P T.e C w fun D=>K D w
theorem Q4O {a:Value} {w:World} {K:Value→World→Prop} (h:Tn a w K):Q1 P F.c7 [a] w K:=Q9 (List.replicate 3 none) Tryz.func81 rfl (by decide) (by kernel_rfl) h
def Q4P:V5:=[none,none,none,none,none,some ([3,17],[3,5,17,18,19,20,21,22,23,24,25,26]),none,none,none,none,none,none]
def Tl (R:Value) (w:World) (K:Value→World→Prop):Prop:= box P T.b R w fun a w=>W0 P T.b w fun O w=>dr w fun b g=>Q4 b (fun o=> ∀w,g w→fieldAddr P T.b a 2 w (dk b o w)) fun o=>Q4 b (fun r=> ∀w,g w→fieldAddr P T.b a 6 w (dk b r w)) fun r=>Q4 b (fun n=> ∀s w,g w→o s w→Q2 P T.h s w (dk b n w)) fun n=>Q4 b (fun J=> ∀q w,g w→n q w→Q1 P F.a8 [q] w (dk b J w)) fun J=>Q4 b (fun f=> ∀p w,g w→r p w→Q2 P T.k p w (dk b f w)) fun f=>Q4 b (fun i=> ∀w,g w→fieldAddr P T.b a 2 w (dk b i w)) fun i=>Q4 b (fun h=> ∀e w,g w→f e w→Q1 P F.ad [e] w (dk b h w)) fun h=>∀s p q N e l m w,g w→o s w→r p w→n q w→J N w→f e w→i l w→h m w→ Y0 P T.h l N w fun _u w=>fieldAddr P T.b a 6 w fun H w=>Y0 P T.k H m w fun _u w=>fieldAddr P T.b a 7 w fun y w=>Q2 P T.j y w fun j w=>X2 P .len [T.j] T.d [false] [j] w fun t w=>lp (α:=Value×Value) ((.slice none 0 0),(.int .i64 0)) w fun d k U w=>Q3 P .lss T.d (.tmp 17) (.tmp 16) k.2 t w fun D w=>X1 D (indexAddr P T.j j k.2 w fun B w=>Q2 P T.e B w fun C w=>W0 P T.e w fun c w=>Y0 P T.e c C w fun _u w=>Q2 P T.e c w fun M w=>Q1 P F.c7 [M] w fun E w=>buildSlice P T.j 1 [(0,E)] w fun v w=>X2 P .append [T.j,T.j] T.j [false,false] [k.1,v] w fun z w=>Q3 P .add T.d (.tmp 17) (.const (.int .i64 1)) k.2 (.int .i64 1) w fun L w=>d (z,L) w) (fieldAddr P T.b a 7 w fun u w=>Y0 P T.j u k.1 w fun _u w=>Q2 P T.b a w fun A w=>Y0 P T.b O A w fun _u w=>Y8 P T.b O w fun Q=>K Q w)
theorem Q4T {a:Value} {w:World} {K:Value→World→Prop} (h:Tl a w K):Q1 P F.cz [a] w K:=Q9 Q4P Tryz.func43 rfl (by decide) (by kernel_rfl) h
def Uk (g e:Value) (w:World) (K:Value→World→Prop):Prop:= nilCheck P g w fun h w=>fieldAddr P T.a1 h 1 w fun b w=>Q2 P T.a2 b w fun c w=>lookup P T.a2 c e true w fun a w=>ext P a 0 w fun f w=>ext P a 1 w fun d w=>K d w
theorem Ez {b a:Value} {w:World} {K:Value→World→Prop} (h:Uk b a w K):Q1 P F.j [b,a] w K:=Q9 (List.replicate 3 none) Tryz.func44 rfl (by decide) (by kernel_rfl) h
def Mx (s u:Value) (w:World) (K:Value→World→Prop):Prop:= W0 P T.b w fun t w=>dr w fun a h=>Q4 a (fun l=> ∀w,h w→nilCheck P s w (dk a l w)) fun l=>Q4 a (fun k=> ∀n w,h w→l n w→fieldAddr P T.a1 n 0 w (dk a k w)) fun k=>Q4 a (fun d=> ∀w,h w→nilCheck P s w (dk a d w)) fun d=>Q4 a (fun c=> ∀b w,h w→d b w→fieldAddr P T.a1 b 1 w (dk a c w)) fun c=>Q4 a (fun p=> ∀m w,h w→k m w→Q2 P T.i m w (dk a p w)) fun p=>Q4 a (fun e=> ∀f w,h w→c f w→Q2 P T.a2 f w (dk a e w)) fun e=>Q4 a (fun i=> ∀g w,h w→e g w→lookup P T.a2 g u false w (dk a i w)) fun i=>∀n m b f r g j w,h w→l n w→k m w→d b w→c f w→p r w→e g w→i j w→ indexAddr P T.i r j w fun q w=>Q2 P T.b q w fun o w=>Y0 P T.b t o w fun _u w=>Y8 P T.b t w fun v=>K v w
theorem Pd {b a:Value} {w:World} {K:Value→World→Prop} (h:Mx b a w K):Q1 P F.h [b,a] w K:=Q9 (List.replicate 2 none) Tryz.func82 rfl (by decide) (by kernel_rfl) h
def Ft:V5:=[none,none,none,none,none,none,some ([29],[4,6,29,30,31,32,33,34,35,36,37,38,39,40,41,42,43,44]),none,none,none,none,none,none,none]
def Ld (f Q:Value) (w:World) (K:Value→World→Prop):Prop:= box P T.b Q w fun a w=>fieldAddr P T.b a 1 w fun O w=>Q2 P T.c O w fun R w=>Q1 P F.j [f,R] w fun s w=>J8 P .not s w fun c w=>Q0 c false w (fun w J=>J f w) fun D w=>Q0 c false w (fieldAddr P T.b a 1) fun u w=>Q0 c false w (Q2 P T.c u) fun M w=>Q0 c false w (Q1 P F.h [D,M]) fun m w=>Q0 c false w (F2 P T.b m 3) fun r w=>pick P c (.bool true) r w fun b w=>Q0 b false w (fun w J=>J f w) fun A w=>Q0 b false w (fieldAddr P T.b a 1) fun v w=>Q0 b false w (Q2 P T.c v) fun n w=>Q0 b false w (Q1 P F.h [A,n]) fun B w=>Q0 b false w (F2 P T.b B 5) fun p w=>pick P b (.bool true) p w fun y w=>X1 y (K (.int .i64 61) w) (fieldAddr P T.b a 2 w fun H w=>Q2 P T.h H w fun h w=>X2 P .len [T.h] T.d [false] [h] w fun o w=>lp (α:=Value) (.int .i64 0) w fun e E U w=>Q3 P .lss T.d (.tmp 29) (.tmp 28) E o w fun q w=>X1 q (indexAddr P T.h h E w fun t w=>Q2 P T.c t w fun g w=>Q1 P F.j [f,g] w fun k w=>J8 P .not k w fun d w=>Q0 d false w (fun w J=>J f w) fun C w=>Q0 d false w (fun w J=>J g w) fun l w=>Q0 d false w (Q1 P F.h [C,l]) fun N w=>Q0 d false w (F2 P T.b N 3) fun j w=>Q0 d false w (J8 P .not j) fun z w=>pick P d (.bool true) z w fun L w=>X1 L (K (.int .i64 62) w) (Q3 P .add T.d (.tmp 29) (.const (.int .i64 1)) E (.int .i64 1) w fun i w=>e i w)) (K (.int .i64 0) w))
theorem Ga {b a:Value} {w:World} {K:Value→World→Prop} (h:Ld b a w K):Q1 P F.bb [b,a] w K:=Q9 Ft Tryz.func45 rfl (by decide) (by kernel_rfl) h
def Yz:V5:=[none,none,none,some ([8],[4,5,8,9,10,11,12,13,14,15,16,17,18]),none,none,none,none,none,none,none]
def G7 (g h:Value) (w:World) (K:Value→World→Prop):Prop:= X2 P .len [T.i] T.d [false] [g] w fun i w=>lp (α:=Value) (.int .i64 0) w fun a b k w=>Q3 P .lss T.d (.tmp 8) (.tmp 7) b i w fun j w=>X1 j (indexAddr P T.i g b w fun c w=>Q2 P T.b c w fun e w=>Z3 P h [e] w fun d w=>X1 d (K b w) (Q3 P .add T.d (.tmp 8) (.const (.int .i64 1)) b (.int .i64 1) w fun f w=>a f w)) (K (.int .i64 (-1)) w)
theorem Zc {b a:Value} {w:World} {K:Value→World→Prop} (h:G7 b a w K):Q1 P F.o [b,a] w K:=Q9 Yz Tryz.func46 rfl (by decide) (by kernel_rfl) h
def Ky:V5:=[none,none,none,some ([7],[6,7,9,10,11,12,16,17,18,19,20,21,22,23,24,25,26,27,28,29,30,31,32,33,34,35,36,37,38,39,40,41,42,43,44,45,46,47,48,49,50,51,52]),none,none,none,none,none,none,none,none,none,none,none,none,none]
def Mv (R V W:Value) (w:World) (K:Value→World→Prop):Prop:= buildSlice P T.h 1 [(0,V)] w fun C w=>Pl P T.a2 none w fun u w=>lp (α:=Value) C w fun b B X w=>X2 P .len [T.h] T.d [false] [B] w fun A w=>Q3 P .gtr T.d (.tmp 17) (.const (.int .i64 0)) A (.int .i64 0) w fun M w=>X1 M (indexAddr P T.h B (.int .i64 0) w fun L w=>Q2 P T.c L w fun g w=>S1 P T.h B (some (.int .i64 1)) none none w fun t w=>lookup P T.a2 u g true w fun s w=>ext P s 0 w fun U w=>ext P s 1 w fun d w=>Q0 d false w (fun w J=>J R w) fun D w=>Q0 d false w (fun w J=>J g w) fun H w=>Q0 d false w (Q1 P F.j [D,H]) fun E w=>Q0 d false w (J8 P .not E) fun z w=>pick P d (.bool true) z w fun Q w=>X1 Q (b t w) (mapUpdate P T.a2 u g (.int .i64 1) w fun _u w=>Q1 P F.h [R,g] w fun y w=>W0 P T.b w fun a w=>Y0 P T.b a y w fun _u w=>Q2 P T.b a w fun O w=>Z3 P W [O] w fun v w=>X1 v (K (.bool true) w) (dr w fun c p=>Q4 c (fun k=> ∀w,p w→fieldAddr P T.b a 1 w (dk c k w)) fun k=>Q4 c (fun h=> ∀w,p w→fieldAddr P T.b a 2 w (dk c h w)) fun h=>Q4 c (fun e=> ∀m w,p w→k m w→Q2 P T.c m w (dk c e w)) fun e=>Q4 c (fun f=> ∀j w,p w→e j w→buildSlice P T.h 1 [(0,j)] w (dk c f w)) fun f=>Q4 c (fun n=> ∀i w,p w→f i w→X2 P .append [T.h,T.h] T.h [false,false] [t,i] w (dk c n w)) fun n=>Q4 c (fun o=> ∀l w,p w→h l w→Q2 P T.h l w (dk c o w)) fun o=>∀m l j i q r w,p w→k m w→h l w→e j w→f i w→n q w→o r w→ X2 P .append [T.h,T.h] T.h [false,false] [q,r] w fun N w=>b N w))) (K (.bool false) w)
theorem Ic {c a b:Value} {w:World} {K:Value→World→Prop} (h:Mv c a b w K):Q1 P F.x [c,a,b] w K:=Q9 Ky Tryz.func84 rfl (by decide) (by kernel_rfl) h
def Jr (h d:Value) (w:World) (K:Value→World→Prop):Prop:= box P T.b h w fun a w=>fieldAddr P T.b a 0 w fun c w=>Q2 P T.c c w fun f w=>fieldAddr P T.b d 0 w fun b w=>Q2 P T.c b w fun e w=>Q3 P .eql T.c (.tmp 5) (.tmp 7) f e w fun g w=>K g w
theorem Cg {b a:Value} {w:World} {K:Value→World→Prop} (h:Jr b a w K):Q1 P F.c8 [b,a] w K:=Q9 (List.replicate 2 none) Tryz.func85 rfl (by decide) (by kernel_rfl) h
def We (f a b:Value) (w:World) (K:Value→World→Prop):Prop:= Q2 P T.r a w fun d w=>H1 P (.func F.c8) [] [b] w fun c w=>Q1 P F.x [d,f,c] w fun e w=>K e w
theorem Fg {c a b:Value} {w:World} {K:Value→World→Prop} (h:We c a b w K):Q1 P F.b8 [c,a,b] w K:=Q9 (List.replicate 2 none) Tryz.func83 rfl (by decide) (by kernel_rfl) h
def Me (l j:Value) (w:World) (K:Value→World→Prop):Prop:= box P T.r l w fun c w=>box P T.b j w fun a w=>H1 P (.func F.b8) [] [c,a] w fun i w=>fieldAddr P T.b a 1 w fun k w=>Q2 P T.c k w fun m w=>Z3 P i [m] w fun b w=>Q0 b false w (fieldAddr P T.b a 2) fun e w=>Q0 b false w (Q2 P T.h e) fun d w=>Q0 b false w (fun w J=>J i w) fun f w=>Q0 b false w (Q1 P F.c [d,f]) fun h w=>pick P b (.bool true) h w fun g w=>K g w
theorem Iw {b a:Value} {w:World} {K:Value→World→Prop} (h:Me b a w K):Q1 P F.bj [b,a] w K:=Q9 (List.replicate 3 none) Tryz.func47 rfl (by decide) (by kernel_rfl) h
def Rq:V5:=[none,none,none,some ([8],[4,5,8,9,10,11,12,13,14,15,16,17,18]),none,none,none,none,none,none,none]
def Ug (g h:Value) (w:World) (K:Value→World→Prop):Prop:= X2 P .len [T.a7] T.d [false] [g] w fun i w=>lp (α:=Value) (.int .i64 0) w fun a b k w=>Q3 P .lss T.d (.tmp 8) (.tmp 7) b i w fun j w=>X1 j (indexAddr P T.a7 g b w fun c w=>Q2 P T.d c w fun e w=>Q3 P .eql T.d (.tmp 11) (.tmp 15) h e w fun d w=>X1 d (K b w) (Q3 P .add T.d (.tmp 8) (.const (.int .i64 1)) b (.int .i64 1) w fun f w=>a f w)) (K (.int .i64 (-1)) w)
theorem Rt {b a:Value} {w:World} {K:Value→World→Prop} (h:Ug b a w K):Q1 P F.c9 [b,a] w K:=Q9 Rq Tryz.func139 rfl (by decide) (by kernel_rfl) h
def Yi (d a:Value) (w:World) (K:Value→World→Prop):Prop:= Q1 P F.c9 [d,a] w fun b w=>Q3 P .geq T.d (.tmp 7) (.const (.int .i64 0)) b (.int .i64 0) w fun c w=>K c w
theorem Eg {b a:Value} {w:World} {K:Value→World→Prop} (h:Yi b a w K):Q1 P F.aI [b,a] w K:=Q9 (List.replicate 2 none) Tryz.func88 rfl (by decide) (by kernel_rfl) h
def Bp:V5:=[none,none,none,none,some ([35],[7,35,36,37,38,39,40,41,42,43,44,45,46,47]),none,none,none,none]
def Qx (a0 a1 a2 a3 a4:Value) (w:World) (K:Value→World→Prop):Prop:= Q2 P T.d a1 w fun t9 w=>Q3 P .lss T.d (.tmp 8) (.tmp 9) a0 t9 w fun k w=>Q0 k false w (Q2 P T.a7 a2) fun aw w=>Q0 k false w (fun w J=>J a0 w) fun av w=>Q0 k false w (Q1 P F.aI [aw,av]) fun ak w=>pick P k (.bool true) ak w fun ag w=>X1 ag (K (.tuple #[]) w) (dr w fun a b=>Q4 a (fun N=> ∀w,b w→Q2 P T.r a3 w (dk a N w)) fun N=>Q4 a (fun n=> ∀g w,b w→N g w→nilCheck P g w (dk a n w)) fun n=>Q4 a (fun C=> ∀j w,b w→n j w→fieldAddr P T.a1 j 0 w (dk a C w)) fun C=>Q4 a (fun u=> ∀H w,b w→C H w→Q2 P T.i H w (dk a u w)) fun u=>Q4 a (fun f=> ∀A w,b w→u A w→indexAddr P T.i A a0 w (dk a f w)) fun f=>Q4 a (fun d=> ∀s w,b w→f s w→fieldAddr P T.b s 1 w (dk a d w)) fun d=>Q4 a (fun p=> ∀U w,b w→d U w→Q2 P T.c U w (dk a p w)) fun p=>Q4 a (fun Y=> ∀M w,b w→p M w→buildSlice P T.h 1 [(0,M)] w (dk a Y w)) fun Y=>Q4 a (fun r=> ∀w,b w→Q2 P T.r a3 w (dk a r w)) fun r=>Q4 a (fun m=> ∀t w,b w→r t w→nilCheck P t w (dk a m w)) fun m=>Q4 a (fun L=> ∀O w,b w→m O w→fieldAddr P T.a1 O 0 w (dk a L w)) fun L=>Q4 a (fun c=> ∀B w,b w→L B w→Q2 P T.i B w (dk a c w)) fun c=>Q4 a (fun y=> ∀h w,b w→c h w→indexAddr P T.i h a0 w (dk a y w)) fun y=>Q4 a (fun E=> ∀i w,b w→y i w→fieldAddr P T.b i 2 w (dk a E w)) fun E=>Q4 a (fun W=> ∀o w,b w→E o w→Q2 P T.h o w (dk a W w)) fun W=>∀g j H A s U M ab t O B h i o ad w,b w→N g w→n j w→C H w→u A w→f s w→d U w→p M w→Y ab w→r t w→m O w→L B w→c h w→y i w→E o w→W ad w→ X2 P .append [T.h,T.h] T.h [false,false] [ab,ad] w fun ae w=>X2 P .len [T.h] T.d [false] [ae] w fun am w=>lp (α:=Value) (.int .i64 0) w fun D x4 d_ w=>Q3 P .lss T.d (.tmp 35) (.tmp 34) x4 am w fun ah w=>X1 ah (indexAddr P T.h ae x4 w fun an w=>Q2 P T.c an w fun ap w=>dr w fun a b=>Q4 a (fun X=> ∀w,b w→Q2 P T.ak a4 w (dk a X w)) fun X=>Q4 a (fun z=> ∀w,b w→Q2 P T.r a3 w (dk a z w)) fun z=>Q4 a (fun q=> ∀V w,b w→z V w→nilCheck P V w (dk a q w)) fun q=>Q4 a (fun R=> ∀e w,b w→q e w→fieldAddr P T.a1 e 1 w (dk a R w)) fun R=>Q4 a (fun l=> ∀v w,b w→R v w→Q2 P T.a2 v w (dk a l w)) fun l=>Q4 a (fun Z=> ∀Q w,b w→l Q w→lookup P T.a2 Q ap false w (dk a Z w)) fun Z=>∀aa V e v Q af w,b w→X aa w→z V w→q e w→R v w→l Q w→Z af w→ Z3 P aa [af] w fun a5 w=>Q3 P .add T.d (.tmp 35) (.const (.int .i64 1)) x4 (.int .i64 1) w fun aq w=>D aq w) (Q2 P T.a7 a2 w fun ao w=>buildSlice P T.a7 1 [(0,a0)] w fun ax w=>X2 P .append [T.a7,T.a7] T.a7 [false,false] [ao,ax] w fun aj w=>Y0 P T.a7 a2 aj w fun _u w=>K (.tuple #[]) w))
theorem Wc {c a b d e:Value} {w:World} {K:Value→World→Prop} (h:Qx c a b d e w K):Q1 P F.z [c,a,b,d,e] w K:=Q9 Bp Tryz.func87 rfl (by decide) (by kernel_rfl) h
def Pp:V5:=[none,none,none,none,none,none,some ([7],[7,10,11,12,13,14,15,16,17,18,19,20,21]),none,none,none,none]
def Ma (r q:Value) (w:World) (K:Value→World→Prop):Prop:= box P T.r r w fun d w=>box P T.d q w fun b w=>W0 P T.a7 w fun c w=>W0 P T.ak w fun a w=>H1 P (.func F.z) [] [b,c,d,a] w fun p w=>Y0 P T.ak a p w fun _u w=>Q2 P T.d b w fun t w=>lp (α:=Value) t w fun e l u w=>Q2 P T.r d w fun m w=>nilCheck P m w fun n w=>fieldAddr P T.a1 n 0 w fun k w=>Q2 P T.i k w fun h w=>X2 P .len [T.i] T.d [false] [h] w fun g w=>Q3 P .lss T.d (.tmp 10) (.tmp 15) l g w fun f w=>X1 f (Q2 P T.ak a w fun i w=>Z3 P i [l] w fun s w=>Q3 P .add T.d (.tmp 17) (.const (.int .i64 1)) l (.int .i64 1) w fun j w=>e j w) (Q2 P T.a7 c w fun o w=>K o w)
theorem Tf {b a:Value} {w:World} {K:Value→World→Prop} (h:Ma b a w K):Q1 P F.bk [b,a] w K:=Q9 Pp Tryz.func48 rfl (by decide) (by kernel_rfl) h
def Zt:V5:=[none,some ([2,3],[2,3,7,8,9,10,11,12,13,14,15,16,17,18,19,20,21,22,23,24,25,26,27]),none,none,none]
def I6 (j:Value) (w:World) (K:Value→World→Prop):Prop:= X2 P .len [T.i] T.d [false] [j] w fun r w=>Q3 P .sub T.d (.tmp 5) (.const (.int .i64 1)) r (.int .i64 1) w fun t w=>lp (α:=Value×Value) ((.int .i64 0),t) w fun c g u w=>Q3 P .lss T.d (.tmp 7) (.tmp 8) g.1 g.2 w fun s w=>X1 s (dr w fun f m=>Q4 f (fun d=> ∀w,m w→indexAddr P T.i j g.2 w (dk f d w)) fun d=>Q4 f (fun a=> ∀w,m w→indexAddr P T.i j g.1 w (dk f a w)) fun a=>Q4 f (fun h=> ∀e w,m w→d e w→Q2 P T.b e w (dk f h w)) fun h=>Q4 f (fun i=> ∀b w,m w→a b w→Q2 P T.b b w (dk f i w)) fun i=>∀e b k l w,m w→d e w→a b w→h k w→i l w→ indexAddr P T.i j g.1 w fun q w=>Y0 P T.b q k w fun _u w=>indexAddr P T.i j g.2 w fun n w=>Y0 P T.b n l w fun _u w=>Q3 P .add T.d (.tmp 10) (.const (.int .i64 1)) g.1 (.int .i64 1) w fun p w=>Q3 P .sub T.d (.tmp 12) (.const (.int .i64 1)) g.2 (.int .i64 1) w fun o w=>c (p,o) w) (K (.tuple #[]) w)
theorem Zs {a:Value} {w:World} {K:Value→World→Prop} (h:I6 a w K):Q1 P F.q [a] w K:=Q9 Zt Tryz.func117 rfl (by decide) (by kernel_rfl) h
def Aj:V5:=[none,none,none,none,some ([5,6],[5,6,8,9,10,11,12,13,14,15,16,17,18,19,20]),none,none,none,none,none]
def Oj (h j:Value) (w:World) (K:Value→World→Prop):Prop:= lp (α:=Value×Value) ((.slice none 0 0),j) w fun a b l w=>Q1 P F.j [h,b.2] w fun d w=>X1 d (Q1 P F.h [h,b.2] w fun i w=>buildSlice P T.i 1 [(0,i)] w fun c w=>X2 P .append [T.i,T.i] T.i [false,false] [b.1,c] w fun f w=>Q1 P F.h [h,b.2] w fun e w=>F2 P T.b e 1 w fun g w=>a (f,g) w) (Q1 P F.q [b.1] w fun k w=>K b.1 w)
theorem Tp {b a:Value} {w:World} {K:Value→World→Prop} (h:Oj b a w K):Q1 P F.aT [b,a] w K:=Q9 Aj Tryz.func70 rfl (by decide) (by kernel_rfl) h
def Gp:V5:=[none,none,none,none,some ([5,12],[5,7,12,13,14,15,16,17,18,19,20]),none,none,none,none,none]
def Ln (n m:Value) (w:World) (K:Value→World→Prop):Prop:= Q1 P F.aT [n,m] w fun c w=>X2 P .len [T.i] T.d [false] [c] w fun i w=>lp (α:=Value×Value) ((.slice none 0 0),(.int .i64 0)) w fun b d o w=>Q3 P .lss T.d (.tmp 12) (.tmp 11) d.2 i w fun g w=>X1 g (indexAddr P T.i c d.2 w fun j w=>Q2 P T.b j w fun k w=>W0 P T.b w fun a w=>Y0 P T.b a k w fun _u w=>fieldAddr P T.b a 6 w fun e w=>Q2 P T.k e w fun l w=>X2 P .append [T.k,T.k] T.k [false,false] [d.1,l] w fun f w=>Q3 P .add T.d (.tmp 12) (.const (.int .i64 1)) d.2 (.int .i64 1) w fun h w=>b (f,h) w) (K d.1 w)
theorem Gb {b a:Value} {w:World} {K:Value→World→Prop} (h:Ln b a w K):Q1 P F.a3 [b,a] w K:=Q9 Gp Tryz.func36 rfl (by decide) (by kernel_rfl) h
def Vt (g d:Value) (w:World) (K:Value→World→Prop):Prop:= box P T.o g w fun a w=>fieldAddr P T.o a 0 w fun c w=>Q2 P T.c c w fun f w=>Q2 P T.c d w fun b w=>Q3 P .eql T.c (.tmp 5) (.tmp 6) f b w fun e w=>K e w
theorem Fc {b a:Value} {w:World} {K:Value→World→Prop} (h:Vt b a w K):Q1 P F.ch [b,a] w K:=Q9 (List.replicate 2 none) Tryz.func141 rfl (by decide) (by kernel_rfl) h
def Mt (g d e:Value) (w:World) (K:Value→World→Prop):Prop:= box P T.c e w fun a w=>Q1 P F.a3 [g,d] w fun f w=>H1 P (.func F.ch) [] [a] w fun b w=>Q1 P F.i [f,b] w fun c w=>K c w
theorem Kc {c a b:Value} {w:World} {K:Value→World→Prop} (h:Mt c a b w K):Q1 P F.bm [c,a,b] w K:=Q9 (List.replicate 2 none) Tryz.func89 rfl (by decide) (by kernel_rfl) h
def Xd (d a:Value) (w:World) (K:Value→World→Prop):Prop:= nilCheck P d w fun b w=>indexAddr P T.ab b a w fun c w=>Q2 P T.u c w fun e w=>K e w
theorem Of {b a:Value} {w:World} {K:Value→World→Prop} (h:Xd b a w K):Q1 P F.az [b,a] w K:=Q9 (List.replicate 2 none) Tryz.func187 rfl (by decide) (by kernel_rfl) h
def Rx:V5:=[none,some ([0],[0,5,6,7,8,9,10,11,12,13,14,15,16,17,18,19,20]),some ([0],[0,5,6,7,8,9,10,11,12,13,14,15,16,17,18,19,20]),none,none,none,none,none]
def Jq (o m:Value) (w:World) (K:Value→World→Prop):Prop:= jn (α:=Value) w (fun k w=>lp (α:=Value) o w fun a b n w=>X2 P .len [T.c] T.d [false] [b] w fun q w=>Q3 P .gtr T.d (.tmp 6) (.const (.int .i64 0)) q (.int .i64 0) w fun p w=>X1 p (X2 P .len [T.c] T.d [false] [b] w fun i w=>Q3 P .sub T.d (.tmp 11) (.const (.int .i64 1)) i (.int .i64 1) w fun h w=>C5 P T.c b h w fun g w=>Q1 P F.az [m,g] w fun c w=>J8 P .not c w fun j w=>X1 j (k b w) (X2 P .len [T.c] T.d [false] [b] w fun f w=>Q3 P .sub T.d (.tmp 18) (.const (.int .i64 1)) f (.int .i64 1) w fun d w=>S1 P T.c b none (some d) none w fun e w=>a e w)) (k b w)) fun l n w=>K l w
theorem Su {b a:Value} {w:World} {K:Value→World→Prop} (h:Jq b a w K):Q1 P F.aq [b,a] w K:=Q9 Rx Tryz.func158 rfl (by decide) (by kernel_rfl) h
end Go.Proofs.YtjdiakhipmggjaaGreatDoor

set_option maxRecDepth 100000
namespace Go.Proofs.YtjdiakhipmggjaaGreatDoor
open Go.Emb
def Ot (e c:Value) (w:World) (K:Value→World→Prop):Prop:= Q3 P .eql T.c (.tmp 7) (.const (.string ⟨#[]⟩)) e (.string ⟨#[]⟩) w fun f w=>Q0 f false w (fun w J=>J c w) fun i w=>Q0 f false w (Q3 P .eql T.c (.tmp 10) (.const (.string ⟨#[]⟩)) i (.string ⟨#[]⟩)) fun r w=>pick P f (.bool true) r w fun q w=>X1 q (K e w) (X2 P .len [T.c] T.d [false] [c] w fun t w=>Q3 P .eql T.d (.tmp 15) (.const (.int .i64 1)) t (.int .i64 1) w fun b w=>Q0 b true w (fun w J=>J c w) fun p w=>Q0 b true w (C5 P T.c p (.int .i64 0)) fun n w=>Q0 b true w (Q3 P .lss T.a3 (.tmp 19) (.const (.int .u8 128)) n (.int .u8 128)) fun o w=>pick P b o (.bool false) w fun j w=>X1 j (C5 P T.c c (.int .i64 0) w fun g w=>Q1 P F.cT [e,g] w fun k w=>K k w) (Q1 P F.ci [c] w fun d w=>ext P d 0 w fun l w=>ext P d 1 w fun h w=>W0 P T.ab w fun a w=>Y0 P T.ab a l w fun _u w=>X1 h (Q1 P F.aq [e,a] w fun m w=>K m w) (Q1 P F.cQ [e,c] w fun s w=>K s w)))
theorem Ah {b a:Value} {w:World} {K:Value→World→Prop} (h:Ot b a w K):Q1 P F.bI [b,a] w K:=Q9 (List.replicate 12 none) Tryz.func116 rfl (by decide) (by kernel_rfl) h
def Oz (m c:Value) (w:World) (K:Value→World→Prop):Prop:= Q3 P .eql T.c (.tmp 6) (.const (.string ⟨#[110,117,108,108]⟩)) c (.string ⟨#[110,117,108,108]⟩) w fun l w=>X1 l (K (.bool true) w) (Q1 P F.bI [c,(.string ⟨#[91,93]⟩)] w fun k w=>Q1 P F.a0 [c] w fun a w=>Q0 a true w (fun w J=>J k w) fun f w=>Q0 a true w (Q1 P F.aO [f]) fun h w=>Q0 a true w (fun w J=>J h w) fun b w=>Q0 b false w (fun w J=>J m w) fun i w=>Q0 b false w (fun w J=>J k w) fun d w=>Q0 b false w (Q1 P F.j [i,d]) fun j w=>Q0 a true w (pick P b (.bool true) j) fun e w=>pick P a e (.bool false) w fun g w=>K g w)
theorem Q08 {b a:Value} {w:World} {K:Value→World→Prop} (h:Oz b a w K):Q1 P F.s [b,a] w K:=Q9 (List.replicate 6 none) Tryz.func69 rfl (by decide) (by kernel_rfl) h
def Jt (c d:Value) (w:World) (K:Value→World→Prop):Prop:= Q3 P .neq T.c (.tmp 4) (.const (.string ⟨#[110,117,108,108]⟩)) c (.string ⟨#[110,117,108,108]⟩) w fun a w=>Q0 a true w (Q2 P T.r d) fun e w=>Q0 a true w (fun w J=>J c w) fun f w=>Q0 a true w (Q1 P F.s [e,f]) fun g w=>pick P a g (.bool false) w fun b w=>K b w
theorem St {b a:Value} {w:World} {K:Value→World→Prop} (h:Jt b a w K):Q1 P F.an [b,a] w K:=Q9 (List.replicate 2 none) Tryz.func90 rfl (by decide) (by kernel_rfl) h
def Jl (e c:Value) (w:World) (K:Value→World→Prop):Prop:= Q2 P T.a4 c w fun b w=>Z3 P b [e] w fun a w=>J8 P .not a w fun d w=>K d w
theorem Sk {b a:Value} {w:World} {K:Value→World→Prop} (h:Jl b a w K):Q1 P F.ao [b,a] w K:=Q9 (List.replicate 2 none) Tryz.func91 rfl (by decide) (by kernel_rfl) h
def Q0f (s:Value) (w:World) (K:Value→World→Prop):Prop:= box P T.e s w fun b w=>dr w fun a c=>Q4 a (fun l=> ∀w,c w→fieldAddr P T.e b 1 w (dk a l w)) fun l=>Q4 a (fun m=> ∀w,c w→fieldAddr P T.e b 2 w (dk a m w)) fun m=>Q4 a (fun g=> ∀f w,c w→l f w→Q2 P T.h f w (dk a g w)) fun g=>Q4 a (fun i=> ∀k w,c w→g k w→Q1 P F.cP [k,(.string ⟨#[44]⟩)] w (dk a i w)) fun i=>Q4 a (fun h=> ∀e w,c w→i e w→Q3 P .add T.c (.const (.string ⟨#[40]⟩)) (.tmp 5) (.string ⟨#[40]⟩) e w (dk a h w)) fun h=>Q4 a (fun o=> ∀j w,c w→h j w→Q3 P .add T.c (.tmp 6) (.const (.string ⟨#[41]⟩)) j (.string ⟨#[41]⟩) w (dk a o w)) fun o=>Q4 a (fun p=> ∀d w,c w→m d w→Q2 P T.c d w (dk a p w)) fun p=>∀f d k e j r q w,c w→l f w→m d w→g k w→i e w→h j w→o r w→p q w→ Q3 P .add T.c (.tmp 7) (.tmp 9) r q w fun n w=>K n w
theorem Q5Q {a:Value} {w:World} {K:Value→World→Prop} (h:Q0f a w K):Q1 P F.cg [a] w K:=Q9 (List.replicate 2 none) Tryz.func95 rfl (by decide) (by kernel_rfl) h
def Zh (Z X a2 Y:Value) (w:World) (K:Value→World→Prop):Prop:= box P T.e Z w fun b w=>Q2 P T.y X w fun t9 w=>fieldAddr P T.e b 0 w fun M w=>Q2 P T.c M w fun W w=>lookup P T.y t9 W true w fun H w=>ext P H 0 w fun V w=>ext P H 1 w fun e w=>dr w fun a d=>Q4 a (fun u=> ∀w,d w→fieldAddr P T.e b 0 w (dk a u w)) fun u=>Q4 a (fun r=> ∀w,d w→fieldAddr P T.e b 0 w (dk a r w)) fun r=>Q4 a (fun n=> ∀w,d w→fieldAddr P T.b a2 0 w (dk a n w)) fun n=>Q4 a (fun f=> ∀w,d w→Q2 P T.y X w (dk a f w)) fun f=>Q4 a (fun m=> ∀j w,d w→u j w→Q2 P T.c j w (dk a m w)) fun m=>Q4 a (fun B=> ∀w,d w→Q2 P T.y Y w (dk a B w)) fun B=>Q4 a (fun A=> ∀s w,d w→r s w→Q2 P T.c s w (dk a A w)) fun A=>Q4 a (fun i=> ∀w,d w→Q2 P T.e b w (dk a i w)) fun i=>Q4 a (fun h=> ∀o w,d w→i o w→Q1 P F.cg [o] w (dk a h w)) fun h=>Q4 a (fun z=> ∀t w,d w→n t w→Q2 P T.c t w (dk a z w)) fun z=>Q4 a (fun p=> ∀c k w,d w→f c w→m k w→mapEntry P T.y c k w (dk a p w)) fun p=>Q4 a (fun l=> ∀q w,d w→p q w→ext P q 1 w (dk a l w)) fun l=>Q4 a (fun g=> ∀c v y w,d w→f c w→l v w→h y w→entryStore P T.y c v y w (dk a g w)) fun g=>∀j s t c k E D o y C q v N w,d w→u j w→r s w→n t w→f c w→m k w→B E w→A D w→i o w→h y w→z C w→p q w→l v w→g N w→ mapUpdate P T.y E D C w fun _u w=>Q0 e true w (fun w J=>J V w) fun R w=>Q0 e true w (Q2 P T.e b) fun L w=>Q0 e true w (Q1 P F.cg [L]) fun O w=>Q0 e true w (Q3 P .neq T.c (.tmp 29) (.tmp 31) R O) fun Q w=>pick P e Q (.bool false) w fun U w=>K U w
theorem Ho {c a b d:Value} {w:World} {K:Value→World→Prop} (h:Zh c a b d w K):Q1 P F.aL [c,a,b,d] w K:=Q9 (List.replicate 4 none) Tryz.func94 rfl (by decide) (by kernel_rfl) h
def Uh (h c d:Value) (w:World) (K:Value→World→Prop):Prop:= box P T.b h w fun a w=>fieldAddr P T.b a 7 w fun f w=>Q2 P T.j f w fun b w=>H1 P (.func F.aL) [] [c,a,d] w fun e w=>Q1 P F.a [b,e] w fun g w=>K g w
theorem Sa {c a b:Value} {w:World} {K:Value→World→Prop} (h:Uh c a b w K):Q1 P F.aZ [c,a,b] w K:=Q9 (List.replicate 2 none) Tryz.func92 rfl (by decide) (by kernel_rfl) h
def Q0q (g d:Value) (w:World) (K:Value→World→Prop):Prop:= box P T.e g w fun a w=>fieldAddr P T.e a 0 w fun c w=>Q2 P T.c c w fun f w=>Q2 P T.c d w fun b w=>Q3 P .eql T.c (.tmp 5) (.tmp 6) f b w fun e w=>K e w
theorem Q5k {b a:Value} {w:World} {K:Value→World→Prop} (h:Q0q b a w K):Q1 P F.cU [b,a] w K:=Q9 (List.replicate 2 none) Tryz.func179 rfl (by decide) (by kernel_rfl) h
def Q30 (o n:Value) (w:World) (K:Value→World→Prop):Prop:= box P T.b o w fun b w=>box P T.c n w fun a w=>W0 P T.e w fun d w=>fieldAddr P T.b b 7 w fun q w=>Q2 P T.j q w fun m w=>H1 P (.func F.cU) [] [a] w fun p w=>Q1 P F.g [m,p] w fun c w=>Q3 P .lss T.d (.tmp 11) (.const (.int .i64 0)) c (.int .i64 0) w fun k w=>X1 k (H3 P T.e [] w fun j w=>Y0 P T.e d j w fun _u w=>Y8 P T.e d w fun f=>K (.tuple #[f,(.bool false)]) w) (fieldAddr P T.b b 7 w fun g w=>Q2 P T.j g w fun l w=>indexAddr P T.j l c w fun e w=>Q2 P T.e e w fun i w=>Q1 P F.c7 [i] w fun h w=>Y0 P T.e d h w fun _u w=>Y8 P T.e d w fun f=>K (.tuple #[f,(.bool true)]) w)
theorem Q8O {b a:Value} {w:World} {K:Value→World→Prop} (h:Q30 b a w K):Q1 P F.cC [b,a] w K:=Q9 (List.replicate 6 none) Tryz.func144 rfl (by decide) (by kernel_rfl) h
def Am:V5:=[none,none,none,some ([19],[6,8,10,11,12,13,14,15,19,20,21,22,23,24,25,26,27,28,29,30,31,32,33,34,35,36,37,38,39,40,41,42,43,44,45,46,47]),none,none,none,none,none,none,none,none,none,none,none,none]
def Ol (u M L:Value) (w:World) (K:Value→World→Prop):Prop:= box P T.b M w fun e w=>W0 P T.e w fun i w=>fieldAddr P T.b e 2 w fun r w=>Q2 P T.h r w fun k w=>X2 P .len [T.h] T.d [false] [k] w fun B w=>lp (α:=Value) (.int .i64 0) w fun c t N w=>Q3 P .lss T.d (.tmp 19) (.tmp 18) t B w fun A w=>X1 A (indexAddr P T.h k t w fun v w=>Q2 P T.c v w fun g w=>Q1 P F.h [u,g] w fun H w=>Q1 P F.cC [H,L] w fun j w=>ext P j 0 w fun z w=>ext P j 1 w fun s w=>W0 P T.e w fun a w=>Y0 P T.e a z w fun _u w=>X1 s (dr w fun m o=>Q4 m (fun d=> ∀w,o w→Q2 P T.e a w (dk m d w)) fun d=>∀n w,o w→d n w→ Y0 P T.e i n w fun _u w=>Y8 P T.e i w fun l=>K (.tuple #[g,l,(.bool true)]) w) (Q1 P F.h [u,g] w fun D w=>Q1 P F.aV [u,D,L] w fun h w=>ext P h 0 w fun q w=>ext P h 1 w fun y w=>ext P h 2 w fun J w=>W0 P T.e w fun b w=>Y0 P T.e b y w fun _u w=>X1 J (dr w fun m o=>Q4 m (fun f=> ∀w,o w→Q2 P T.e b w (dk m f w)) fun f=>∀p w,o w→f p w→ Y0 P T.e i p w fun _u w=>Y8 P T.e i w fun l=>K (.tuple #[q,l,(.bool true)]) w) (Q3 P .add T.d (.tmp 19) (.const (.int .i64 1)) t (.int .i64 1) w fun E w=>c E w))) (H3 P T.e [] w fun C w=>Y0 P T.e i C w fun _u w=>Y8 P T.e i w fun l=>K (.tuple #[(.string ⟨#[]⟩),l,(.bool false)]) w)
theorem Q02 {c a b:Value} {w:World} {K:Value→World→Prop} (h:Ol c a b w K):Q1 P F.aV [c,a,b] w K:=Q9 Am Tryz.func145 rfl (by decide) (by kernel_rfl) h
def Fl:V5:=[none,none,none,none,none,some ([26],[6,8,11,12,13,26,27,28,29,30,31,32,33,34,35,36,37,38,39,40]),none,none,none,none,none,none,none,none,none,some ([43],[6,8,15,16,17,18,43,44,45,46,47,48,49,50,51,52,53,54,55,56,57,58]),none,none,none,none,none,none,none,none]
def Lv (Y a1 Z:Value) (w:World) (K:Value→World→Prop):Prop:= W0 P T.e w fun q w=>Q1 P F.aT [Y,a1] w fun e w=>Q1 P F.q [e] w fun ac w=>X2 P .len [T.i] T.d [false] [e] w fun H w=>lp (α:=Value) (.int .i64 0) w fun g Q d_ w=>Q3 P .lss T.d (.tmp 26) (.tmp 25) Q H w fun O w=>X1 O (indexAddr P T.i e Q w fun C w=>Q2 P T.b C w fun M w=>W0 P T.b w fun a w=>Y0 P T.b a M w fun _u w=>Q2 P T.b a w fun D w=>Q1 P F.cC [D,Z] w fun u w=>ext P u 0 w fun N w=>ext P u 1 w fun A w=>W0 P T.e w fun d w=>Y0 P T.e d N w fun _u w=>X1 A (dr w fun i o=>Q4 i (fun h=> ∀w,o w→fieldAddr P T.b a 0 w (dk i h w)) fun h=>Q4 i (fun m=> ∀j w,o w→h j w→Q2 P T.c j w (dk i m w)) fun m=>Q4 i (fun k=> ∀w,o w→Q2 P T.e d w (dk i k w)) fun k=>∀j v r w,o w→h j w→m v w→k r w→ Y0 P T.e q r w fun _u w=>Y8 P T.e q w fun t=>K (.tuple #[v,t,(.bool true)]) w) (Q3 P .add T.d (.tmp 26) (.const (.int .i64 1)) Q (.int .i64 1) w fun X w=>g X w)) (X2 P .len [T.i] T.d [false] [e] w fun L w=>lp (α:=Value) (.int .i64 0) w fun f n d_ w=>Q3 P .lss T.d (.tmp 43) (.tmp 42) n L w fun y w=>X1 y (indexAddr P T.i e n w fun V w=>Q2 P T.b V w fun W w=>W0 P T.b w fun b w=>Y0 P T.b b W w fun _u w=>Q2 P T.b b w fun B w=>Q1 P F.aV [Y,B,Z] w fun l w=>ext P l 0 w fun R w=>ext P l 1 w fun U w=>ext P l 2 w fun E w=>W0 P T.e w fun c w=>Y0 P T.e c U w fun _u w=>X1 E (dr w fun i o=>Q4 i (fun p=> ∀w,o w→Q2 P T.e c w (dk i p w)) fun p=>∀s w,o w→p s w→ Y0 P T.e q s w fun _u w=>Y8 P T.e q w fun t=>K (.tuple #[R,t,(.bool true)]) w) (Q3 P .add T.d (.tmp 43) (.const (.int .i64 1)) n (.int .i64 1) w fun J w=>f J w)) (H3 P T.e [] w fun z w=>Y0 P T.e q z w fun _u w=>Y8 P T.e q w fun t=>K (.tuple #[(.string ⟨#[]⟩),t,(.bool false)]) w))
theorem Fp {c a b:Value} {w:World} {K:Value→World→Prop} (h:Lv c a b w K):Q1 P F.bd [c,a,b] w K:=Q9 Fl Tryz.func96 rfl (by decide) (by kernel_rfl) h
def Bq:V5:=[none,none,none,some ([21],[4,6,21,22,23,24,25,26,27,28,29,30,31,32]),none,none,none,none,none,none,none,none,none,some ([37],[4,9,37,38,39,40,41,42,43,44,45,46]),none,none,none,none,none,none,none,none,some ([50],[4,11,50,51,52,53,54,55,56,57,58,59,60,61,62,63,64,65,66,67,68,69,70]),none,none,none,none,none,none,none,none,none,none,none,none,none,none,none,some ([],[4,14,15,16,17,82,83,84,85,86,87,88,89,90,91,92,93,94,95,96,97,98,99,100]),none,none,none,none,none,none,none]
def Vy (a0 a1:Value) (w:World) (K:Value→World→Prop):Prop:= box P T.r a0 w fun v w=>box P T.b a1 w fun i w=>fieldAddr P T.b i 6 w fun be w=>Q2 P T.k be w fun q w=>X2 P .len [T.k] T.d [false] [q] w fun bb w=>lp (α:=Value) (.int .i64 0) w fun e L O w=>Q3 P .lss T.d (.tmp 21) (.tmp 20) L bb w fun bn w=>X1 bn (indexAddr P T.k q L w fun bg w=>Q2 P T.o bg w fun ay w=>W0 P T.o w fun t6 w=>Y0 P T.o t6 ay w fun _u w=>Q2 P T.r v w fun V w=>fieldAddr P T.b i 1 w fun ah w=>Q2 P T.c ah w fun ab w=>fieldAddr P T.o t6 0 w fun ax w=>Q2 P T.c ax w fun a7 w=>Q1 P F.bm [V,ab,a7] w fun a2 w=>Q3 P .geq T.d (.tmp 30) (.const (.int .i64 0)) a2 (.int .i64 0) w fun a3 w=>X1 a3 (K (.int .i64 64) w) (Q3 P .add T.d (.tmp 21) (.const (.int .i64 1)) L (.int .i64 1) w fun W w=>e W w)) (H1 P (.func F.an) [] [v] w fun Z w=>W0 P T.a4 w fun u w=>Y0 P T.a4 u Z w fun _u w=>fieldAddr P T.b i 6 w fun Y w=>Q2 P T.k Y w fun o w=>X2 P .len [T.k] T.d [false] [o] w fun aw w=>lp (α:=Value) (.int .i64 0) w fun b k O w=>Q3 P .lss T.d (.tmp 37) (.tmp 36) k aw w fun bh w=>X1 bh (indexAddr P T.k o k w fun A w=>Q2 P T.o A w fun al w=>W0 P T.o w fun t9 w=>Y0 P T.o t9 al w fun _u w=>Q2 P T.a4 u w fun an w=>fieldAddr P T.o t9 1 w fun a5 w=>Q2 P T.c a5 w fun bm w=>Z3 P an [bm] w fun y w=>J8 P .not y w fun aj w=>X1 aj (K (.int .i64 65) w) (Q3 P .add T.d (.tmp 37) (.const (.int .i64 1)) k (.int .i64 1) w fun ak w=>b ak w)) (fieldAddr P T.b i 7 w fun bi w=>Q2 P T.j bi w fun r w=>X2 P .len [T.j] T.d [false] [r] w fun ar w=>lp (α:=Value) (.int .i64 0) w fun d m O w=>Q3 P .lss T.d (.tmp 50) (.tmp 49) m ar w fun D w=>X1 D (indexAddr P T.j r m w fun bk w=>Q2 P T.e bk w fun af w=>W0 P T.e w fun g w=>Y0 P T.e g af w fun _u w=>Q2 P T.a4 u w fun Q w=>fieldAddr P T.e g 2 w fun a9 w=>Q2 P T.c a9 w fun ac w=>Z3 P Q [ac] w fun av w=>J8 P .not av w fun f w=>Q0 f true w (fieldAddr P T.e g 2) fun U w=>Q0 f true w (Q2 P T.c U) fun bf w=>Q0 f true w (Q3 P .neq T.c (.tmp 61) (.const (.string ⟨#[]⟩)) bf (.string ⟨#[]⟩)) fun E w=>pick P f E (.bool false) w fun a w=>Q0 a false w (fieldAddr P T.e g 1) fun ba w=>Q0 a false w (Q2 P T.h ba) fun J w=>Q0 a false w (H1 P (.func F.ao) [] [u]) fun a8 w=>Q0 a false w (Q1 P F.c [J,a8]) fun ai w=>pick P a (.bool true) ai w fun bd w=>X1 bd (K (.int .i64 65) w) (Q3 P .add T.d (.tmp 50) (.const (.int .i64 1)) m (.int .i64 1) w fun M w=>d M w)) (Pl P T.y none w fun bl w=>Pl P T.y none w fun bj w=>W0 P T.y w fun t w=>W0 P T.y w fun j w=>Y0 P T.y t bl w fun _u w=>Y0 P T.y j bj w fun _u w=>Q2 P T.r v w fun ag w=>fieldAddr P T.b i 0 w fun N w=>Q2 P T.c N w fun X w=>H1 P (.func F.aZ) [] [t,j] w fun ad w=>Q1 P F.x [ag,X,ad] w fun ao w=>X1 ao (K (.int .i64 66) w) (fieldAddr P T.b i 4 w fun ap w=>Q2 P T.u ap w fun bc w=>X1 bc (K (.int .i64 0) w) (Q2 P T.y j w fun aq w=>rng P T.y aq w fun n w=>lp (α:=Unit) () w fun c bu O w=>W6 P n false T.x w fun am w=>ext P am 0 w fun ae w=>X1 ae (Q81 P n w fun B w=>ext P B 0 w fun az w=>Q2 P T.r v w fun a4 w=>fieldAddr P T.b i 0 w fun H w=>Q2 P T.c H w fun z w=>Q1 P F.bd [a4,z,az] w fun l w=>ext P l 0 w fun bq w=>ext P l 1 w fun a6 w=>ext P l 2 w fun R w=>W0 P T.e w fun p w=>Y0 P T.e p a6 w fun _u w=>J8 P .not R w fun h w=>Q0 h false w (fieldAddr P T.e p 3) fun C w=>Q0 h false w (Q2 P T.u C) fun aa w=>pick P h (.bool true) aa w fun s w=>X1 s (K (.int .i64 67) w) (c () w)) (K (.int .i64 0) w))))))
theorem Fb {b a:Value} {w:World} {K:Value→World→Prop} (h:Vy b a w K):Q1 P F.b5 [b,a] w K:=Q9 Bq Tryz.func49 rfl (by decide) (by kernel_rfl) h
def Q8I:V5:=[none,none,none,none,none,some ([30],[2,3,4,7,8,9,30,31,32,33,34,35,36,37,38,39,40,41,42,43,44,45,46,47,48,49,50,51,52]),none,none,none,none,none,none,none,none,none,none,some ([58],[2,3,4,10,11,58,59,60,61,62,63,64,65,66,67,68,69,70,71,72,73,74,75,76,77]),none,none,none,none,none,none,none,none,none,some ([85],[2,3,4,12,13,14,85,86,87,88,89,90,91,92,93,94,95,96,97]),none,none,none,none,none,none,none,none,none,none,none,none,none,some ([114],[2,3,4,17,18,114,115,116,117,118,119,120,121,122,123,124,125,126,127,128,129,130,131,132,133]),none,none,none,none,none,none,none,none]
def Q2S (a0:Value) (w:World) (K:Value→World→Prop):Prop:= Q1 P F.cF [] w fun bc w=>Pl P T.a2 none w fun bs w=>H3 P T.a1 [(0,bc),(1,bs)] w fun a8 w=>box P T.a1 a8 w fun a w=>nilCheck P a w fun bm w=>fieldAddr P T.a1 bm 0 w fun a9 w=>Q2 P T.i a9 w fun be w=>X2 P .len [T.i] T.d [false] [be] w fun d w=>X2 P .len [T.i] T.d [false] [a0] w fun bo w=>lp (α:=Value) (.int .i64 0) w fun r x5 d_ w=>Q3 P .lss T.d (.tmp 30) (.tmp 29) x5 bo w fun bn w=>X1 bn (indexAddr P T.i a0 x5 w fun bb w=>Q2 P T.b bb w fun ba w=>W0 P T.b w fun t8 w=>Y0 P T.b t8 ba w fun _u w=>Q2 P T.b t8 w fun ax w=>Q1 P F.cy [ax] w fun ai w=>Q3 P .neq T.w (.tmp 37) (.const (.int .i64 0)) ai (.int .i64 0) w fun bz w=>X1 bz (K (.tuple #[(.pointer none),x5,ai]) w) (dr w fun b c=>Q4 b (fun s=> ∀w,c w→nilCheck P a w (dk b s w)) fun s=>Q4 b (fun m=> ∀y w,c w→s y w→fieldAddr P T.a1 y 0 w (dk b m w)) fun m=>Q4 b (fun E=> ∀i w,c w→m i w→Q2 P T.i i w (dk b E w)) fun E=>Q4 b (fun n=> ∀w,c w→Q2 P T.b t8 w (dk b n w)) fun n=>Q4 b (fun q=> ∀p w,c w→n p w→Q1 P F.cz [p] w (dk b q w)) fun q=>Q4 b (fun L=> ∀t w,c w→q t w→buildSlice P T.i 1 [(0,t)] w (dk b L w)) fun L=>∀y i ag p t aa w,c w→s y w→m i w→E ag w→n p w→q t w→L aa w→ X2 P .append [T.i,T.i] T.i [false,false] [ag,aa] w fun bk w=>nilCheck P a w fun bf w=>fieldAddr P T.a1 bf 0 w fun a1 w=>Y0 P T.i a1 bk w fun _u w=>Q3 P .add T.d (.tmp 30) (.const (.int .i64 1)) x5 (.int .i64 1) w fun b0 w=>r b0 w)) (nilCheck P a w fun a6 w=>fieldAddr P T.a1 a6 0 w fun bq w=>Q2 P T.i bq w fun Z w=>X2 P .len [T.i] T.d [false] [Z] w fun bl w=>lp (α:=Value) (.int .i64 0) w fun h f d_ w=>Q3 P .lss T.d (.tmp 58) (.tmp 57) f bl w fun ay w=>X1 ay (indexAddr P T.i Z f w fun bw w=>Q2 P T.b bw w fun a2 w=>W0 P T.b w fun J w=>Y0 P T.b J a2 w fun _u w=>fieldAddr P T.b J 0 w fun bg w=>Q2 P T.c bg w fun br w=>Q1 P F.j [a,br] w fun a4 w=>X1 a4 (Q3 P .sub T.d (.tmp 67) (.tmp 68) f d w fun bv w=>K (.tuple #[(.pointer none),bv,(.int .i64 60)]) w) (dr w fun b c=>Q4 b (fun o=> ∀w,c w→nilCheck P a w (dk b o w)) fun o=>Q4 b (fun j=> ∀v w,c w→o v w→fieldAddr P T.a1 v 1 w (dk b j w)) fun j=>Q4 b (fun z=> ∀w,c w→fieldAddr P T.b J 0 w (dk b z w)) fun z=>Q4 b (fun N=> ∀u w,c w→j u w→Q2 P T.a2 u w (dk b N w)) fun N=>Q4 b (fun M=> ∀k w,c w→z k w→Q2 P T.c k w (dk b M w)) fun M=>∀v u k af W w,c w→o v w→j u w→z k w→N af w→M W w→ mapUpdate P T.a2 af W f w fun _u w=>Q3 P .add T.d (.tmp 58) (.const (.int .i64 1)) f (.int .i64 1) w fun bh w=>h bh w)) (nilCheck P a w fun bu w=>fieldAddr P T.a1 bu 0 w fun bj w=>Q2 P T.i bj w fun aw w=>S1 P T.i aw (some d) none none w fun ab w=>X2 P .len [T.i] T.d [false] [ab] w fun az w=>lp (α:=Value) (.int .i64 0) w fun g l d_ w=>Q3 P .lss T.d (.tmp 85) (.tmp 84) l az w fun bx w=>X1 bx (indexAddr P T.i ab l w fun a3 w=>Q2 P T.b a3 w fun ar w=>W0 P T.b w fun ad w=>Y0 P T.b ad ar w fun _u w=>Q2 P T.b ad w fun bp w=>Q1 P F.bb [a,bp] w fun V w=>Q3 P .neq T.w (.tmp 93) (.const (.int .i64 0)) V (.int .i64 0) w fun a7 w=>X1 a7 (K (.tuple #[(.pointer none),l,V]) w) (Q3 P .add T.d (.tmp 85) (.const (.int .i64 1)) l (.int .i64 1) w fun av w=>g av w)) (nilCheck P a w fun bd w=>fieldAddr P T.a1 bd 0 w fun ap w=>Q2 P T.i ap w fun X w=>S1 P T.i X (some d) none none w fun ao w=>H1 P (.func F.bj) [a] [] w fun Y w=>Q1 P F.o [ao,Y] w fun D w=>Q3 P .geq T.d (.tmp 107) (.const (.int .i64 0)) D (.int .i64 0) w fun O w=>X1 O (K (.tuple #[(.pointer none),D,(.int .i64 63)]) w) (Q1 P F.bk [a,d] w fun A w=>X2 P .len [T.a7] T.d [false] [A] w fun ae w=>lp (α:=Value) (.int .i64 0) w fun e H d_ w=>Q3 P .lss T.d (.tmp 114) (.tmp 113) H ae w fun am w=>X1 am (indexAddr P T.a7 A H w fun ah w=>Q2 P T.d ah w fun B w=>nilCheck P a w fun ac w=>fieldAddr P T.a1 ac 0 w fun R w=>Q2 P T.i R w fun aj w=>indexAddr P T.i aj B w fun Q w=>Q2 P T.b Q w fun an w=>Q1 P F.b5 [a,an] w fun C w=>Q3 P .neq T.w (.tmp 127) (.const (.int .i64 0)) C (.int .i64 0) w fun al w=>X1 al (Q3 P .sub T.d (.tmp 129) (.tmp 130) B d w fun U w=>K (.tuple #[(.pointer none),U,C]) w) (Q3 P .add T.d (.tmp 114) (.const (.int .i64 1)) H (.int .i64 1) w fun ak w=>e ak w)) (K (.tuple #[a,(.int .i64 0),(.int .i64 0)]) w)))))
theorem Q7U {a:Value} {w:World} {K:Value→World→Prop} (h:Q2S a w K):Q1 P F.cN [a] w K:=Q9 Q8I Tryz.func12 rfl (by decide) (by kernel_rfl) h
def Vx (w:World) (K:Value→World→Prop):Prop:= H3 P T.v [(0,(.string ⟨#[105,110,116]⟩)),(1,(.int .i64 1))] w fun p w=>H3 P T.v [(0,(.string ⟨#[114,101,116,117,114,110]⟩))] w fun q w=>buildSlice P T.q 2 [(0,p),(1,q)] w fun t w=>H3 P T.o [(0,(.string ⟨#[120]⟩)),(1,(.string ⟨#[105,110,116]⟩))] w fun o w=>H3 P T.o [(0,(.string ⟨#[110,101,120,116]⟩)),(1,(.string ⟨#[65]⟩))] w fun s w=>buildSlice P T.k 2 [(0,o),(1,s)] w fun r w=>buildSlice P T.h 2 [(0,(.string ⟨#[105,110,116]⟩)),(1,(.string ⟨#[65]⟩))] w fun n w=>H3 P T.e [(0,(.string ⟨#[102]⟩)),(1,n),(2,(.string ⟨#[105,110,116]⟩)),(4,(.int .i64 3)),(5,t)] w fun d w=>H3 P T.v [(0,(.string ⟨#[114,101,116,117,114,110]⟩))] w fun l w=>buildSlice P T.q 1 [(0,l)] w fun k w=>H3 P T.e [(0,(.string ⟨#[103]⟩)),(4,(.int .i64 1)),(5,k)] w fun j w=>buildSlice P T.j 2 [(0,d),(1,j)] w fun e w=>H3 P T.b [(0,(.string ⟨#[65]⟩)),(1,(.string ⟨#[79,98,106,101,99,116]⟩)),(6,r),(7,e)] w fun b w=>buildSlice P T.h 1 [(0,(.string ⟨#[73]⟩))] w fun a w=>H3 P T.o [(0,(.string ⟨#[108]⟩)),(1,(.string ⟨#[65,91,93]⟩))] w fun c w=>buildSlice P T.k 1 [(0,c)] w fun i w=>H3 P T.b [(0,(.string ⟨#[66]⟩)),(1,(.string ⟨#[65]⟩)),(2,a),(6,i)] w fun g w=>H3 P T.b [(0,(.string ⟨#[73]⟩)),(1,(.string ⟨#[79,98,106,101,99,116]⟩)),(3,(.bool true)),(4,(.bool true))] w fun h w=>H3 P T.b [(0,(.string ⟨#[68]⟩)),(1,(.string ⟨#[79,98,106,101,99,116]⟩)),(4,(.bool true))] w fun f w=>buildSlice P T.i 4 [(0,b),(1,g),(2,h),(3,f)] w fun m w=>K m w
theorem Fa {w:World} {K:Value→World→Prop} (h:Vx w K):Q1 P F.aA [] w K:=Q9 (List.replicate 3 none) Tryz.func13 rfl (by decide) (by kernel_rfl) h
def Hx (e:Value) (w:World) (K:Value→World→Prop):Prop:= nilCheck P e w fun b w=>fieldAddr P T.p b 3 w fun d w=>Q2 P T.f d w fun a w=>X2 P .len [T.f] T.d [false] [a] w fun c w=>K c w
theorem Q24 {a:Value} {w:World} {K:Value→World→Prop} (h:Hx a w K):Q1 P F.c2 [a] w K:=Q9 (List.replicate 2 none) Tryz.func17 rfl (by decide) (by kernel_rfl) h
def Ee (p:Value) (w:World) (K:Value→World→Prop):Prop:= dr w fun a b=>Q4 a (fun k=> ∀w,b w→nilCheck P p w (dk a k w)) fun k=>Q4 a (fun i=> ∀e w,b w→k e w→fieldAddr P T.p e 1 w (dk a i w)) fun i=>Q4 a (fun h=> ∀w,b w→nilCheck P p w (dk a h w)) fun h=>Q4 a (fun j=> ∀g w,b w→h g w→fieldAddr P T.p g 2 w (dk a j w)) fun j=>Q4 a (fun n=> ∀f w,b w→i f w→Q2 P T.d f w (dk a n w)) fun n=>Q4 a (fun c=> ∀l w,b w→j l w→Q2 P T.d l w (dk a c w)) fun c=>∀e f g l o d w,b w→k e w→i f w→h g w→j l w→n o w→c d w→ Q3 P .sub T.d (.tmp 6) (.tmp 10) o d w fun m w=>K m w
theorem Q0o {a:Value} {w:World} {K:Value→World→Prop} (h:Ee a w K):Q1 P F.v [a] w K:=Q9 (List.replicate 2 none) Tryz.func18 rfl (by decide) (by kernel_rfl) h
def Ht (j h:Value) (w:World) (K:Value→World→Prop):Prop:= Q3 P .geq T.d (.tmp 5) (.const (.int .i64 0)) h (.int .i64 0) w fun a w=>Q0 a true w (fun w J=>J h w) fun i w=>Q0 a true w (fun w J=>J j w) fun k w=>Q0 a true w (nilCheck P k) fun b w=>Q0 a true w (fieldAddr P T.p b 3) fun e w=>Q0 a true w (Q2 P T.f e) fun d w=>Q0 a true w (X2 P .len [T.f] T.d [false] [d]) fun c w=>Q0 a true w (Q3 P .lss T.d (.tmp 8) (.tmp 13) i c) fun f w=>pick P a f (.bool false) w fun g w=>K g w
theorem Q21 {b a:Value} {w:World} {K:Value→World→Prop} (h:Ht b a w K):Q1 P F.aH [b,a] w K:=Q9 (List.replicate 2 none) Tryz.func51 rfl (by decide) (by kernel_rfl) h
def Ek (h g:Value) (w:World) (K:Value→World→Prop):Prop:= Q1 P F.aH [h,g] w fun i w=>J8 P .not i w fun j w=>X1 j (K (.string ⟨#[]⟩) w) (nilCheck P h w fun a w=>fieldAddr P T.p a 3 w fun c w=>Q2 P T.f c w fun b w=>indexAddr P T.f b g w fun d w=>fieldAddr P T.n d 0 w fun f w=>Q2 P T.c f w fun e w=>K e w)
theorem Q0v {b a:Value} {w:World} {K:Value→World→Prop} (h:Ek b a w K):Q1 P F.aB [b,a] w K:=Q9 (List.replicate 5 none) Tryz.func20 rfl (by decide) (by kernel_rfl) h
def Ey (i h:Value) (w:World) (K:Value→World→Prop):Prop:= Q1 P F.aH [i,h] w fun j w=>J8 P .not j w fun k w=>X1 k (K (.int .i64 0) w) (nilCheck P i w fun b w=>fieldAddr P T.p b 3 w fun d w=>Q2 P T.f d w fun c w=>indexAddr P T.f c h w fun e w=>fieldAddr P T.n e 1 w fun g w=>Q2 P T.m g w fun f w=>X2 P .len [T.m] T.d [false] [f] w fun a w=>K a w)
theorem Q0z {b a:Value} {w:World} {K:Value→World→Prop} (h:Ey b a w K):Q1 P F.bN [b,a] w K:=Q9 (List.replicate 5 none) Tryz.func21 rfl (by decide) (by kernel_rfl) h
def Zv:V5:=[none,none,none,some ([8],[4,5,8,9,10,11,12,13,14,15,16,17,18]),none,none,none,none,none,none,none]
def I7 (g h:Value) (w:World) (K:Value→World→Prop):Prop:= X2 P .len [T.f] T.d [false] [g] w fun i w=>lp (α:=Value) (.int .i64 0) w fun a b k w=>Q3 P .lss T.d (.tmp 8) (.tmp 7) b i w fun j w=>X1 j (indexAddr P T.f g b w fun c w=>Q2 P T.n c w fun e w=>Z3 P h [e] w fun d w=>X1 d (K b w) (Q3 P .add T.d (.tmp 8) (.const (.int .i64 1)) b (.int .i64 1) w fun f w=>a f w)) (K (.int .i64 (-1)) w)
theorem Zu {b a:Value} {w:World} {K:Value→World→Prop} (h:I7 b a w K):Q1 P F.a9 [b,a] w K:=Q9 Zv Tryz.func98 rfl (by decide) (by kernel_rfl) h
def F8 (d a:Value) (w:World) (K:Value→World→Prop):Prop:= Q1 P F.a9 [d,a] w fun b w=>Q3 P .geq T.d (.tmp 7) (.const (.int .i64 0)) b (.int .i64 0) w fun c w=>K c w
theorem Ye {b a:Value} {w:World} {K:Value→World→Prop} (h:F8 b a w K):Q1 P F.n [b,a] w K:=Q9 (List.replicate 2 none) Tryz.func53 rfl (by decide) (by kernel_rfl) h
def Rw (R Q:Value) (w:World) (K:Value→World→Prop):Prop:= box P T.g Q w fun a w=>Q2 P T.g a w fun V w=>H3 P T.g [] w fun U w=>Q3 P .eql T.g (.tmp 6) (.tmp 7) V U w fun O w=>X1 O (K (.string ⟨#[110,117,108,108]⟩) w) (Q2 P T.g a w fun k w=>fieldAddr P T.g a 1 w fun E w=>Q2 P T.a0 E w fun D w=>H3 P T.g [(0,(.int .i64 1)),(1,D)] w fun C w=>Q3 P .eql T.g (.tmp 10) (.tmp 13) k C w fun m w=>X1 m (K (.string ⟨#[105,110,116]⟩) w) (Q2 P T.g a w fun g w=>fieldAddr P T.g a 1 w fun j w=>Q2 P T.a0 j w fun u w=>Q3 P .and T.a0 (.tmp 18) (.const (.int .i64 1)) u (.int .i64 1) w fun s w=>H3 P T.g [(0,(.int .i64 2)),(1,s)] w fun t w=>Q3 P .eql T.g (.tmp 16) (.tmp 20) g t w fun n w=>X1 n (K (.string ⟨#[98,111,111,108]⟩) w) (Q2 P T.g a w fun v w=>fieldAddr P T.g a 2 w fun h w=>Q2 P T.c h w fun o w=>H3 P T.g [(0,(.int .i64 3)),(2,o)] w fun H w=>Q3 P .eql T.g (.tmp 23) (.tmp 26) v H w fun b w=>Q0 b true w (fieldAddr P T.g a 2) fun r w=>Q0 b true w (Q2 P T.c r) fun i w=>Q0 b true w (X2 P .len [T.c] T.d [false] [i]) fun l w=>Q0 b true w (Q3 P .leq T.d (.tmp 31) (.const (.int .i64 4096)) l (.int .i64 4096)) fun p w=>pick P b p (.bool false) w fun c w=>Q0 c true w (fieldAddr P T.g a 2) fun f w=>Q0 c true w (Q2 P T.c f) fun L w=>Q0 c true w (Q1 P F.b0 [L]) fun y w=>pick P c y (.bool false) w fun A w=>X1 A (K (.string ⟨#[116,101,120,116]⟩) w) (Q2 P T.g a w fun N w=>fieldAddr P T.g a 3 w fun e w=>Q2 P T.d e w fun q w=>H3 P T.g [(0,(.int .i64 4)),(3,q)] w fun J w=>Q3 P .eql T.g (.tmp 40) (.tmp 43) N J w fun d w=>X1 d (fieldAddr P T.g a 3 w fun M w=>Q2 P T.d M w fun B w=>Q1 P F.aB [R,B] w fun z w=>K z w) (K (.string ⟨#[]⟩) w)))))
theorem Q2C {b a:Value} {w:World} {K:Value→World→Prop} (h:Rw b a w K):Q1 P F.ce [b,a] w K:=Q9 (List.replicate 13 none) Tryz.func31 rfl (by decide) (by kernel_rfl) h
def Vj (a f:Value) (w:World) (K:Value→World→Prop):Prop:= Q1 P F.ab [a,f] w fun g w=>J8 P .not g w fun h w=>X1 h (K (.tuple #[a,(.bool false)]) w) (X2 P .len [T.c] T.d [false] [a] w fun c w=>X2 P .len [T.c] T.d [false] [f] w fun e w=>Q3 P .sub T.d (.tmp 13) (.tmp 15) c e w fun d w=>S1 P T.c a none (some d) none w fun b w=>K (.tuple #[b,(.bool true)]) w)
theorem Cu {b a:Value} {w:World} {K:Value→World→Prop} (h:Vj b a w K):Q1 P F.cf [b,a] w K:=Q9 (List.replicate 5 none) Tryz.func180 rfl (by decide) (by kernel_rfl) h
def Om (d c:Value) (w:World) (K:Value→World→Prop):Prop:= Q1 P F.cf [d,c] w fun b w=>ext P b 0 w fun e w=>ext P b 1 w fun a w=>K (.tuple #[e,a]) w
theorem Q0a {b a:Value} {w:World} {K:Value→World→Prop} (h:Om b a w K):Q1 P F.bJ [b,a] w K:=Q9 (List.replicate 2 none) Tryz.func146 rfl (by decide) (by kernel_rfl) h
def Q25 (g:Value) (w:World) (K:Value→World→Prop):Prop:= Q1 P F.bJ [g,(.string ⟨#[91,93]⟩)] w fun f w=>ext P f 0 w fun h w=>ext P f 1 w fun i w=>J8 P .not i w fun a w=>Q0 a false w (fun w J=>J g w) fun b w=>Q0 a false w (Q1 P F.a0 [b]) fun c w=>Q0 a false w (J8 P .not c) fun e w=>pick P a (.bool true) e w fun d w=>X1 d (K (.string ⟨#[]⟩) w) (K h w)
theorem Q6v {a:Value} {w:World} {K:Value→World→Prop} (h:Q25 a w K):Q1 P F.c5 [a] w K:=Q9 (List.replicate 6 none) Tryz.func97 rfl (by decide) (by kernel_rfl) h
def Mo (g d:Value) (w:World) (K:Value→World→Prop):Prop:= box P T.b g w fun a w=>fieldAddr P T.b a 0 w fun c w=>Q2 P T.c c w fun f w=>Q2 P T.c d w fun b w=>Q3 P .eql T.c (.tmp 5) (.tmp 6) f b w fun e w=>K e w
theorem Kf {b a:Value} {w:World} {K:Value→World→Prop} (h:Mo b a w K):Q1 P F.bp [b,a] w K:=Q9 (List.replicate 2 none) Tryz.func110 rfl (by decide) (by kernel_rfl) h
def Ei (m d z:Value) (w:World) (K:Value→World→Prop):Prop:= box P T.c z w fun a w=>Q1 P F.s [m,d] w fun j w=>J8 P .not j w fun b w=>Q0 b false w (fun w J=>J m w) fun s w=>Q0 b false w (Q2 P T.c a) fun l w=>Q0 b false w (Q1 P F.s [s,l]) fun v w=>Q0 b false w (J8 P .not v) fun g w=>pick P b (.bool true) g w fun i w=>X1 i (K (.bool false) w) (Q2 P T.c a w fun q w=>Q3 P .eql T.c (.tmp 19) (.tmp 20) d q w fun n w=>X1 n (K (.bool true) w) (Q1 P F.aO [d] w fun c w=>Q0 c false w (Q2 P T.c a) fun t w=>Q0 c false w (Q1 P F.aO [t]) fun p w=>pick P c (.bool true) p w fun h w=>X1 h (K (.bool false) w) (Q3 P .eql T.c (.tmp 30) (.const (.string ⟨#[110,117,108,108]⟩)) d (.string ⟨#[110,117,108,108]⟩) w fun k w=>X1 k (K (.bool true) w) (Q1 P F.c5 [d] w fun o w=>Q3 P .neq T.c (.tmp 34) (.const (.string ⟨#[]⟩)) o (.string ⟨#[]⟩) w fun f w=>X1 f (Q2 P T.c a w fun u w=>Q3 P .eql T.c (.tmp 36) (.const (.string ⟨#[79,98,106,101,99,116]⟩)) u (.string ⟨#[79,98,106,101,99,116]⟩) w fun r w=>K r w) (H1 P (.func F.bp) [] [a] w fun y w=>Q1 P F.x [m,d,y] w fun e w=>K e w)))))
theorem Q17 {c a b:Value} {w:World} {K:Value→World→Prop} (h:Ei c a b w K):Q1 P F.bS [c,a,b] w K:=Q9 (List.replicate 13 none) Tryz.func62 rfl (by decide) (by kernel_rfl) h
def Ef (l m n:Value) (w:World) (K:Value→World→Prop):Prop:= box P T.g m w fun b w=>Q2 P T.g b w fun o w=>Q1 P F.ce [l,o] w fun c w=>Q3 P .neq T.c (.tmp 11) (.const (.string ⟨#[]⟩)) c (.string ⟨#[]⟩) w fun a w=>Q0 a true w (fun w J=>J l w) fun f w=>Q0 a true w (nilCheck P f) fun j w=>Q0 a true w (fieldAddr P T.p j 0) fun g w=>Q0 a true w (Q2 P T.r g) fun d w=>Q0 a true w (fun w J=>J c w) fun k w=>Q0 a true w (fun w J=>J n w) fun e w=>Q0 a true w (Q1 P F.bS [d,k,e]) fun h w=>pick P a h (.bool false) w fun i w=>K i w
theorem Q0B {c a b:Value} {w:World} {K:Value→World→Prop} (h:Ef c a b w K):Q1 P F.aC [c,a,b] w K:=Q9 (List.replicate 3 none) Tryz.func27 rfl (by decide) (by kernel_rfl) h
def Et (v u z:Value) (w:World) (K:Value→World→Prop):Prop:= box P T.n u w fun a w=>fieldAddr P T.n a 0 w fun t w=>Q2 P T.c t w fun y w=>Q1 P F.c5 [y] w fun m w=>Q3 P .neq T.c (.tmp 11) (.const (.string ⟨#[]⟩)) m (.string ⟨#[]⟩) w fun s w=>X1 s (K m w) (dr w fun b k=>Q4 b (fun d=> ∀w,k w→nilCheck P v w (dk b d w)) fun d=>Q4 b (fun g=> ∀h w,k w→d h w→fieldAddr P T.p h 0 w (dk b g w)) fun g=>Q4 b (fun e=> ∀w,k w→fieldAddr P T.n a 0 w (dk b e w)) fun e=>Q4 b (fun i=> ∀c w,k w→g c w→Q2 P T.r c w (dk b i w)) fun i=>Q4 b (fun j=> ∀f w,k w→e f w→Q2 P T.c f w (dk b j w)) fun j=>∀h c f l n w,k w→d h w→g c w→e f w→i l w→j n w→ Q1 P F.a3 [l,n] w fun q w=>indexAddr P T.k q z w fun o w=>fieldAddr P T.o o 1 w fun r w=>Q2 P T.c r w fun p w=>K p w)
theorem Q0u {c a b:Value} {w:World} {K:Value→World→Prop} (h:Et c a b w K):Q1 P F.aD [c,a,b] w K:=Q9 (List.replicate 6 none) Tryz.func52 rfl (by decide) (by kernel_rfl) h
def Wa (h g:Value) (w:World) (K:Value→World→Prop):Prop:= Q1 P F.j [h,g] w fun a w=>Q0 a true w (fun w J=>J h w) fun i w=>Q0 a true w (fun w J=>J g w) fun b w=>Q0 a true w (Q1 P F.h [i,b]) fun e w=>Q0 a true w (F2 P T.b e 4) fun d w=>Q0 a true w (J8 P .not d) fun c w=>pick P a c (.bool false) w fun f w=>K f w
theorem Fj {b a:Value} {w:World} {K:Value→World→Prop} (h:Wa b a w K):Q1 P F.aE [b,a] w K:=Q9 (List.replicate 2 none) Tryz.func66 rfl (by decide) (by kernel_rfl) h
end Go.Proofs.YtjdiakhipmggjaaGreatDoor
