/- Parts of a proof about the given program: its functions as texts of their own, what each computes, plain laws of that. The conditions of each stand in its statement. -/
import Derived.WalkKit
import Derived.Test.YtjdiakhipmggjaaGreatDoorProg
import Derived.KernelRfl
set_option linter.unnecessarySimpa false
set_option linter.defProp false
set_option linter.unusedSectionVars false
set_option linter.unusedVariables false
set_option linter.unusedSimpArgs false
namespace Go.Emb
def T2 (P:Program) (s:Sem Next) (w:World) (K:Value→World→Prop):Prop:=
 match s.run P w with
 | .ok (.value v) w'=>K v w'
 | .ok .skip w'=>K undef w'
 | .ok (.enter f a) w'=>Calls P f a w' fun e b=>match e with | .returned v=>K v b | _=>False
 | .ok (.row row a) w'=>Rows P row a w' K
 | _=>False
theorem X1y: ∃f:Program→Sem Next→World→(Value→World→Prop)→Prop,f=T2:=⟨_,rfl⟩
noncomputable def op:Program→Sem Next→World→(Value→World→Prop)→Prop:=Classical.choose X1y
theorem Qa:op=T2:=Classical.choose_spec X1y
theorem X3W {P:Program} {o:Oper} {a:Act} {w:World} {next:Act→World→Prop} {Q:Exit→Act→World→Prop}
 (h:op P (execOp a.eval o) w (fun v w=>next (a.put o.dst v) w)):o.wp P a w next Q:=by
 unfold Oper.wp
 rw[Qa] at h
 unfold T2 at h
 cases b:(execOp a.eval o).run P w with
 | halt x w'=>rw[b] at h;exact h.elim
 | ok n w'=>
  rw[b] at h
  cases n<;>simp only at h<;>try exact h.elim
  ·exact h
  ·exact h
  ·refine Calls.mono h fun e d c=>?_
   cases e<;>first | exact c | exact c.elim
  ·exact h
theorem Rt {P:Program} {s:Sem Next} {K d:Value→World→Prop} {w:World} (a: ∀v w,K v w→d v w) (h:op P s w K):op P s w d:=by
 rw[Qa] at*
 unfold T2 at*
 cases b:s.run P w with
 | halt x w'=>rw[b] at h;exact h.elim
 | ok n w'=>
  rw[b] at h
  cases n<;>simp only at h⊢ <;>try exact h.elim
  ·exact a _ _ h
  ·exact a _ _ h
  ·refine Calls.mono h fun e f c=>?_
   cases e<;>first | exact a _ _ c | exact c.elim
  ·exact h.mono a
def sv (s:Sem Value):Sem Next:=do Pure.pure (.value (←s))
def su (s:Sem Unit):Sem Next:=do s;Pure.pure .skip
section
variable (P : Program)
noncomputable def pick (c a b:Value) (w:World) (K:Value→World→Prop):Prop:=op P (do Pure.pure (.value (if←asBool c then a else b))) w K
noncomputable def V8 (e:TypeId) (w:World) (K:Value→World→Prop):Prop:=op P (sv (Instr.alloc e true (.tuple #[]))) w K
noncomputable def box (e:TypeId) (x:Value) (w:World) (K:Value→World→Prop):Prop:=op P (sv (Instr.box e x)) w K
noncomputable def H3 (t:TypeId) (a:List (Nat×Value)) (w:World) (K:Value→World→Prop):Prop:=op P (sv (Instr.build t a.toArray)) w K
noncomputable def buildSlice (t:TypeId) (n:Nat) (a:List (Nat×Value)) (w:World) (K:Value→World→Prop):Prop:=op P (sv (Instr.buildSlice t n a.toArray)) w K
noncomputable def Q2 (t:TypeId) (a:Value) (w:World) (K:Value→World→Prop):Prop:=op P (sv (Instr.loadAt t a)) w K
noncomputable def Y0 (t:TypeId) (a x:Value) (w:World) (K:Value→World→Prop):Prop:=op P (su (Instr.storeAt t a x)) w K
noncomputable def nilCheck (x:Value) (w:World) (K:Value→World→Prop):Prop:=op P (execOp (fun _=>x) {dst:=none,op:= .nilCheck (.const x),type:=0,pos:= "",after:= #[],guard:=none}) w K
noncomputable def Q3 (o:BinOp) (t:TypeId) (b a:Operand) (x y:Value) (w:World) (K:Value→World→Prop):Prop:=op P (sv (do eqGuard o t b a x y;Go.binOp o t x y)) w K
noncomputable def J8 (o:UnOp) (x:Value) (w:World) (K:Value→World→Prop):Prop:=op P (sv (Op.unary o x)) w K
noncomputable def conv (s d:TypeId) (x:Value) (w:World) (K:Value→World→Prop):Prop:=op P (sv (Go.convert s d x)) w K
noncomputable def X1Q (t:TypeId) (x:Value) (w:World) (K:Value→World→Prop):Prop:=op P (sv (Instr.makeInterface t x)) w K
noncomputable def E7 (f:Fn) (first caps:List Value) (w:World) (K:Value→World→Prop):Prop:=op P (sv (Instr.makeFunc f first.toArray caps.toArray)) w K
noncomputable def Ku (t:TypeId) (r:Option Value) (w:World) (K:Value→World→Prop):Prop:=op P (sv (Instr.makeMap t r)) w K
noncomputable def Dq (t:TypeId) (n c:Value) (w:World) (K:Value→World→Prop):Prop:=op P (sv (Instr.makeSlice t n c)) w K
noncomputable def R8 (t:TypeId) (x:Value) (b c a:Option Value) (w:World) (K:Value→World→Prop):Prop:=op P (sv (Instr.sliceAt t x b c a)) w K
noncomputable def fieldAddr (t:TypeId) (x:Value) (f:Nat) (w:World) (K:Value→World→Prop):Prop:=op P (sv (Instr.fieldAt t x f)) w K
noncomputable def F5 (t:TypeId) (x:Value) (f:Nat) (w:World) (K:Value→World→Prop):Prop:=op P (sv (Instr.field t x f)) w K
noncomputable def indexAddr (t:TypeId) (x i:Value) (w:World) (K:Value→World→Prop):Prop:=op P (sv (Instr.indexAt t x i)) w K
noncomputable def C1 (t:TypeId) (x i:Value) (w:World) (K:Value→World→Prop):Prop:=op P (sv (Instr.index t x i)) w K
noncomputable def lookup (t:TypeId) (x i:Value) (ok:Bool) (w:World) (K:Value→World→Prop):Prop:=op P (sv (Instr.lookup t x i ok)) w K
noncomputable def mapUpdate (t:TypeId) (m k x:Value) (w:World) (K:Value→World→Prop):Prop:=op P (su (Instr.mapUpdate t m k x)) w K
noncomputable def mapEntry (t:TypeId) (m k:Value) (w:World) (K:Value→World→Prop):Prop:=op P (sv (Instr.mapEntry t m k)) w K
noncomputable def entryStore (t:TypeId) (m s x:Value) (w:World) (K:Value→World→Prop):Prop:=op P (su (Instr.entryStore t m s x)) w K
noncomputable def rng (t:TypeId) (x:Value) (w:World) (K:Value→World→Prop):Prop:=op P (sv (Instr.range t x)) w K
noncomputable def V1 (b:Value) (a:Bool) (t:TypeId) (w:World) (K:Value→World→Prop):Prop:=op P (sv (Instr.next b a t)) w K
noncomputable def Q8x (a:Value) (w:World) (K:Value→World→Prop):Prop:=op P (sv (Instr.entry a)) w K
noncomputable def pnc (x:Value) (w:World) (K:Value→World→Prop):Prop:=op P (sv (Instr.panic x)) w K
noncomputable def ext (x:Value) (i:Nat) (w:World) (K:Value→World→Prop):Prop:=op P (sv (Instr.extract x i)) w K
noncomputable def X3 (b:Builtin) (a:List TypeId) (t:TypeId) (cs:List Bool) (xs:List Value) (w:World) (K:Value→World→Prop):Prop:=op P (Go.builtin b a.toArray t cs.toArray xs.toArray) w K
noncomputable def Q1 (f:FuncId) (xs:List Value) (w:World) (K:Value→World→Prop):Prop:=op P (callFunc f xs.toArray) w K
noncomputable def Z3 (f:Value) (xs:List Value) (w:World) (K:Value→World→Prop):Prop:=op P (do let d←Deferred.ofValue f xs.toArray;invoke d.target d.args) w K
end
def get (l:List Value) (t:Nat):Value:=l.getD t undef
def ev (l:List Value):Operand→Value
 | .tmp t=>get l t
 | .const v=>v
 | .global g=> .pointer (some ⟨g,0,none⟩)
 | .func f=> .func (.func f) #[] #[]
def put (l:List Value) (d:Option Tmp) (v:Value):List Value:=
 match d with
 | some d=>l.set d v
 | none=>l
def evs (l:List Value) (xs:Array Operand):List Value:=xs.toList.map (ev l)
def evp (l:List Value) (xs:Array (Nat×Operand)):List (Nat×Value):=xs.toList.map fun p=>(p.1,ev l p.2)
def evo (l:List Value) (x:Option Operand):Option Value:=match x with | some x=>some (ev l x) | none=>none
def isC:Operand→Bool | .const _=>true | _=>false
noncomputable def Dy (P:Program) (l:List Value) (o:Oper) (c:Call) (w:World) (K:Value→World→Prop):Prop:=
 match c.callee with
 | .builtin b=>X3 P b c.argTypes.toList o.type (c.args.toList.map isC) (evs l c.args) w K
 | .value (.func f)=>Q1 P f (evs l c.args) w K
 | .value f=>Z3 P (ev l f) (evs l c.args) w K
 | _=>op P (execOp (ev l) o) w K
noncomputable def W2 (P:Program) (l:List Value) (o:Oper) (w:World) (K:Value→World→Prop):Prop:=
 match o.op with
 | .move x=>K (ev l x) w
 | .assign x=>K (ev l x) w
 | .pick c a b=>pick P (ev l c) (ev l a) (ev l b) w K
 | .alloc e=>V8 P e w K
 | .box e x=>box P e (ev l x) w K
 | .build t h=>H3 P t (evp l h) w K
 | .buildSlice t n h=>buildSlice P t n (evp l h) w K
 | .load t a=>Q2 P t (ev l a) w K
 | .store t a x=>Y0 P t (ev l a) (ev l x) w K
 | .nilCheck x=>nilCheck P (ev l x) w K
 | .binOp op t x y _=>Q3 P op t x y (ev l x) (ev l y) w K
 | .unOp op _ x=>J8 P op (ev l x) w K
 | .convert s d x=>conv P s d (ev l x) w K
 | .makeInterface t x=>X1Q P t (ev l x) w K
 | .makeFunc f first caps=>E7 P f (evs l first) (evs l caps) w K
 | .makeMap t r=>Ku P t (evo l r) w K
 | .makeSlice t n c=>Dq P t (ev l n) (ev l c) w K
 | .slice t x q u p=>R8 P t (ev l x) (evo l q) (evo l u) (evo l p) w K
 | .fieldAddr t x f=>fieldAddr P t (ev l x) f w K
 | .field t x f=>F5 P t (ev l x) f w K
 | .indexAddr t x i=>indexAddr P t (ev l x) (ev l i) w K
 | .index t x i=>C1 P t (ev l x) (ev l i) w K
 | .lookup t x i ok=>lookup P t (ev l x) (ev l i) ok w K
 | .mapUpdate t m k x=>mapUpdate P t (ev l m) (ev l k) (ev l x) w K
 | .insert t m k x=>mapUpdate P t (ev l m) (ev l k) (ev l x) w K
 | .mapEntry t m k=>mapEntry P t (ev l m) (ev l k) w K
 | .entryStore t m s x=>entryStore P t (ev l m) (ev l s) (ev l x) w K
 | .range t x=>rng P t (ev l x) w K
 | .next g j=>V1 P (ev l g) j o.type w K
 | .extract x i=>ext P (ev l x) i w K
 | .entry g=>Q8x P (ev l g) w K
 | .panic x=>pnc P (ev l x) w K
 | .call c=>Dy P l o c w K
 | _=>op P (execOp (ev l) o) w K
theorem Q99 {α β:Type} (f:α→β) (a:Array α):a.map f=(a.toList.map f).toArray:=by rw[←Array.toList_map,Array.toArray_toList]
theorem X1R (l:List Value) (x:Option Operand):x.map (ev l)=evo l x:=by cases x<;>rfl
theorem Q6f {P:Program} {l:List Value} {o:Oper} {c:Call} {K g:Value→World→Prop} {w:World} (a: ∀v w,K v w→g v w) (h:Dy P l o c w K):Dy P l o c w g:=by
 obtain ⟨d,e,i⟩:=c
 cases d with
 | builtin b=>exact Rt a h
 | invoke r m=>exact Rt a h
 | value f=>cases f<;>(simp only[Dy,Z3,Q1] at h⊢;exact Rt a h)
theorem K5 {P:Program} {l:List Value} {o:Oper} {K b:Value→World→Prop} {w:World} (a: ∀v w,K v w→b v w) (h:W2 P l o w K):W2 P l o w b:=by
 obtain ⟨d,p,c,pos,e,g⟩:=o
 cases p<;>first | exact a _ _ h | exact Q6f a h | exact Rt a h | (simp only[W2] at h⊢;exact Rt a h)
theorem Q7c {P:Program} {l:List Value} {o:Oper} {K:Value→World→Prop} {w:World} (h:W2 P l o w K):op P (execOp (ev l) o) w K:=by
 unfold W2 at h
 split at h<;>rename_i a
 all_goals first
  | exact h
  | (unfold execOp;rw[a];exact h)
  | (unfold execOp;rw[a];simp only[Q99,X1R];exact h)
  | (unfold execOp;rw[a,Qa];exact h)
  | skip
 rename_i c
 unfold Dy at h
 split at h<;>rename_i b
 ·unfold execOp;rw[a];simp only[resolve,b,Q99]
  simp only[pure_bind,invoke]
  unfold X3 at h
  simp only[Array.toArray_toList] at h
  refine (congrArg (fun z=>op P (builtin _ c.argTypes o.type (List.toArray z) _) w K) (List.map_congr_left (fun x _=>?_))).mp h
  cases x<;>rfl
 ·unfold execOp;rw[a];simp only[resolve,b,Q99]
  simp only[ev,Deferred.ofValue,pure_bind,invoke]
  simpa [Q1,evs] using h
 ·unfold execOp;rw[a];simp only[resolve,b,Q99]
  exact h
 ·exact h
def Na (v:Value) (b:Bool) (w:World) (a:World→(Value→World→Prop)→Prop) (J:Value→World→Prop):Prop:=
 match v with
 | .bool c=>if c=b then a w J else J undef w
 | _=>J undef w
theorem Q9B: ∃f:Value→Bool→World→(World→(Value→World→Prop)→Prop)→(Value→World→Prop)→Prop,f=Na:=⟨_,rfl⟩
noncomputable def Q0:Value→Bool→World→(World→(Value→World→Prop)→Prop)→(Value→World→Prop)→Prop:=Classical.choose Q9B
theorem Hh:Q0=Na:=Classical.choose_spec Q9B
def Q36 (v:Value) (t e:Prop):Prop:=
 match v with
 | .bool true=>t
 | .bool false=>e
 | _=>False
theorem X0o: ∃f:Value→Prop→Prop→Prop,f=Q36:=⟨_,rfl⟩
noncomputable def X1:Value→Prop→Prop→Prop:=Classical.choose X0o
theorem Q6b:X1=Q36:=Classical.choose_spec X0o
noncomputable def Z0 (P:Program) (ops:List Oper) (next:List Value→World→Prop):List Oper→List Value→World→Prop
 | [],l,w=>next l w
 | o::a,l,w=>
  match o.guard with
  | none=>W2 P l o w (fun v w=>Z0 P ops next a (put l o.dst v) w)
  | some (j,b)=>match (ops[j]?).bind (·.dst) with
   | some d=>Q0 (get l d) b w (W2 P l o) (fun v w=>Z0 P ops next a (put l o.dst v) w)
   | none=>Z0 P ops next a (put l o.dst undef) w
def Tz:Nat→Type
 | 0=>Unit
 | 1=>Value
 | n+2=>Value×Tz (n+1)
def Dm (l:List Value):(a:List Nat)→Tz a.length
 | []=>()
 | [s]=>get l s
 | s::t::r=>(get l s,Dm l (t::r))
def Rd (i:Nat) (e:Value):(a:List Nat)→Tz a.length→Value
 | [],_=>e
 | [s],x=>if s=i then x else e
 | s::t::r,x=>if s=i then x.1 else Rd i e (t::r) x.2
def H4 (a b:List Nat) (x:Tz a.length) (d:Nat→Value):Nat→List Value→List Value
 | _,[]=>[]
 | i,v::l=>Rd i (if b.contains i then d i else v) a x::H4 a b x d (i+1) l
def X1n (α:Type) (x0:α) (w:World) (a:(α→World→Prop)→α→(Nat→Value)→World→Prop):Prop:=
 ∃(I:α→World→Prop) (μ:α→World→Nat),I x0 w∧ ∀x d w,I x w→a (fun b w'=>I b w'∧μ b w'<μ x w) x d w
theorem X1H: ∃f:(α:Type)→α→World→((α→World→Prop)→α→(Nat→Value)→World→Prop)→Prop,f=X1n:=⟨_,rfl⟩
noncomputable def lp {α:Type}:α→World→((α→World→Prop)→α→(Nat→Value)→World→Prop)→Prop:=Classical.choose X1H α
theorem X1o {α:Type} (x0:α) (w:World) (a:(α→World→Prop)→α→(Nat→Value)→World→Prop):lp x0 w a=X1n α x0 w a:=
 congrFun (congrFun (congrFun (congrFun (Classical.choose_spec X1H) α) x0) w) a
def X1t (α:Type) (w:World) (A:(α→World→Prop)→World→Prop) (B:α→(Nat→Value)→World→Prop):Prop:=
 ∃I:α→World→Prop,A I w∧ ∀x d w,I x w→B x d w
theorem X1E: ∃f:(α:Type)→World→((α→World→Prop)→World→Prop)→(α→(Nat→Value)→World→Prop)→Prop,f=X1t:=⟨_,rfl⟩
noncomputable def jn {α:Type}:World→((α→World→Prop)→World→Prop)→(α→(Nat→Value)→World→Prop)→Prop:=Classical.choose X1E α
theorem X1r {α:Type} (w:World) (A:(α→World→Prop)→World→Prop) (B:α→(Nat→Value)→World→Prop):jn w A B=X1t α w A B:=
 congrFun (congrFun (congrFun (congrFun (Classical.choose_spec X1E) α) w) A) B
theorem Yp {α:Type} {w:World} {A:(α→World→Prop)→World→Prop} {B:α→(Nat→Value)→World→Prop} (I:α→World→Prop) (h:A I w) (a: ∀x d w,I x w→B x d w):jn w A B:=by
 rw[X1r];exact ⟨I,h,a⟩
theorem Q5C {α:Type} {w:World} {A:(α→World→Prop)→World→Prop} {B:α→(Nat→Value)→World→Prop} (h:jn w A B): ∃I:α→World→Prop,A I w∧ ∀x d w,I x w→B x d w:=by
 rw[X1r] at h;exact h
theorem Wn {α:Type} {x0:α} {w:World} {a:(α→World→Prop)→α→(Nat→Value)→World→Prop} (I:α→World→Prop) (μ:α→World→Nat) (e:I x0 w)
 (c: ∀x d w,I x w→a (fun b w'=>I b w'∧μ b w'<μ x w) x d w):lp x0 w a:=by
 rw[X1o];exact ⟨I,μ,e,c⟩
theorem X04 {α:Type} {x0:α} {w:World} {a:(α→World→Prop)→α→(Nat→Value)→World→Prop} (h:lp x0 w a):
 ∃(I:α→World→Prop) (μ:α→World→Nat),I x0 w∧ ∀x d w,I x w→a (fun b w'=>I b w'∧μ b w'<μ x w) x d w:=by
 rw[X1o] at h;exact h
def R3 (ops:List Oper):List Nat:=ops.filterMap (·.dst)
def Qo:Code→Nat
 | .seq a b=>Qo a+Qo b+1
 | .cond _ a b=>Qo a+Qo b
 | .block _ c=>Qo c
 | .loop c=>Qo c+1
 | .scope c=>Qo c
 | _=>0
def O3 (d:List (Option (List Nat))):Nat→Code→List Nat
 | _, .region _ ops _=>R3 ops.toList
 | k, .seq a b=>(d.getD k none).getD []++(O3 d (k+1) a++O3 d (k+1+Qo a) b)
 | k, .cond _ a b=>O3 d k a++O3 d (k+Qo a) b
 | k, .block _ c=>O3 d k c
 | k, .loop c=>(d.getD k none).getD []++O3 d (k+1) c
 | k, .scope c=>O3 d k c
 | _,_=>[]
abbrev Hp:=Exit→List Value→World→Prop
def thn (next:List Value→World→Prop) (Q:Hp):Hp
 | .normal,a,w=>next a w
 | e,a,w=>Q e a w
def Q38 (id:Nat) (Q:Hp):Hp
 | .exit b,a,w=>if b=id then Q .normal a w else Q (.exit b) a w
 | e,a,w=>Q e a w
noncomputable def Dh (P:Program) (a:List (Option (List Nat))):Nat→Code→Hp→List Value→World→Prop
 | _, .skip,Q,l,w=>Q .normal l w
 | _, .label _,Q,l,w=>Q .normal l w
 | _, .exit id,Q,l,w=>Q (.exit id) l w
 | _, .ret,Q,l,w=>Q .ret l w
 | _, .region _ ops false,Q,l,w=>Z0 P ops.toList (fun l w=>Q .normal l w) ops.toList l w
 | _, .region _ ops true,Q,l,w=> ∀t,Z0 P ops.toList (fun l w=>Q .normal l w) ((Region.schedule (P.follows .mixedOrders) ops t).filterMap (ops[·]?)) l w.drew
 | k, .seq x y,Q,l,w=>match a.getD k none with
  | none=>Dh P a (k+1) x (thn (fun l w=>Dh P a (k+1+Qo x) y Q l w) Q) l w
  | some e=>jn w (fun J w=>Dh P a (k+1) x (thn (fun l' w'=>J (Dm l' e) w') Q) l w)
   (fun z d w=>Dh P a (k+1+Qo x) y Q (H4 e (O3 a (k+1) x) z d 0 l) w)
 | k, .cond c x y,Q,l,w=>X1 (ev l c) (Dh P a k x Q l w) (Dh P a (k+Qo x) y Q l w)
 | k, .block id c,Q,l,w=>Dh P a k c (Q38 id Q) l w
 | k, .loop c,Q,l,w=>
  lp (Dm l ((a.getD k none).getD [])) w (fun b x d w=>Dh P a (k+1) c (thn (fun l' w'=>b (Dm l' ((a.getD k none).getD [])) w') Q) (H4 ((a.getD k none).getD []) (O3 a (k+1) c) x d 0 l) w)
 | _,_,_,_,_=>False
theorem Q8R {ops:List Oper} {l:List Value} {o:Oper} {j:Nat} {b:Bool} (e:o.guard=some (j,b)) {d:Nat} (a:(ops[j]?).bind (·.dst)=some d):
 Region.wanted o (yielded ops.toArray l.toArray)=true↔get l d= .bool b:=by
 unfold Region.wanted yielded
 rw[e]
 simp only[List.getElem?_toArray]
 rw[a]
 simp only[Option.bind_some,get,List.getD_eq_getElem?_getD]
 have key: ∀x:Option Value,((match x with | some (.bool c)=>some c | _=>none)==some b)=true↔x.getD undef= .bool b:=by
  intro x
  cases x with
  | none=>simp[undef]
  | some v=>cases v<;>simp
 exact key _
theorem Q7t {ops:List Oper} {l:List Value} {o:Oper} {j:Nat} {b:Bool} (c:o.guard=some (j,b)) (a:(ops[j]?).bind (·.dst)=none):
 Region.wanted o (yielded ops.toArray l.toArray)=false:=by
 unfold Region.wanted yielded
 rw[c]
 simp only[List.getElem?_toArray]
 rw[a]
 rfl
theorem Ls {v:Value} {b:Bool} {a:World→(Value→World→Prop)→Prop} {J:Value→World→Prop} {w:World} (h:Q0 v b w a J):
 (v= .bool b∧a w J)∨(v≠ .bool b∧J undef w):=by
 rw[Hh] at h
 unfold Na at h
 split at h
 ·split at h
  ·rename_i c;subst c;exact .inl ⟨rfl,h⟩
  ·rename_i c;exact .inr ⟨by simp[c],h⟩
 ·rename_i d;exact .inr ⟨d b,h⟩
theorem Q0k {v:Value} {b:Bool} {a:World→(Value→World→Prop)→Prop} {J:Value→World→Prop} {w:World}
 (h:(v= .bool b∧a w J)∨(v≠ .bool b∧J undef w)):Q0 v b w a J:=by
 rw[Hh]
 unfold Na
 split
 ·split
  ·rename_i c;subst c
   rcases h with h | h
   ·exact h.2
   ·exact absurd rfl h.1
  ·rename_i c
   rcases h with h | h
   ·exact absurd (Value.bool.inj h.1) c
   ·exact h.2
 ·rename_i d
  rcases h with h | h
  ·exact absurd h.1 (d b)
  ·exact h.2
theorem Q49 (a:Act):a.eval=ev a.tmps.toList:=by
 funext x
 cases x<;>simp[Act.eval,ev,get,List.getD_eq_getElem?_getD]
theorem Q8L (a:Act) (d:Option Tmp) (v:Value):(a.put d v).tmps.toList=put a.tmps.toList d v:=by
 cases d<;>simp[Act.put,put]
theorem Q8Q (a:Act) (d:Option Tmp) (v:Value):(a.put d v).defers=a.defers:=by
 cases d<;>simp[Act.put]
def lift (Q:Hp):Exit→Act→World→Prop:=fun e a w=>a.defers=[]∧Q e a.tmps.toList w
theorem Q0F (P:Program) (ops:Array Oper) (Q:Exit→Act→World→Prop) (next:List Value→World→Prop)
 (t: ∀a w,a.defers=[]→next a.tmps.toList w→Q .normal a w) (is:List Nat) (q: ∀i∈is,i<ops.size):
 ∀(a:Act) (w:World),a.defers=[]→Z0 P ops.toList next (is.filterMap (ops[·]?)) a.tmps.toList w→wpOps P ops Q is a w:=by
 induction is with
 | nil=>intro a w o h;exact t a w o h
 | cons i is u=>
  intro a w o h
  have p:=q i (by simp)
  have m:ops[i]? =some ops[i]:=by simp[p]
  rw[List.filterMap_cons,m] at h
  simp only[Z0] at h
  simp only[wpOps,m]
  have r:ops.toList.toArray=ops:=by simp
  have s:a.tmps.toList.toArray=a.tmps:=by simp
  have f: ∀{v w},Z0 P ops.toList next (is.filterMap (ops[·]?)) (put a.tmps.toList ops[i].dst v) w→wpOps P ops Q is (a.put ops[i].dst v) w:=by
   intro v w e
   refine u (fun j y=>q j (by simp[y])) _ _ (by rw[Q8Q];exact o) ?_
   rw[Q8L];exact e
  have k:W2 P a.tmps.toList ops[i] w (fun v w=>Z0 P ops.toList next (is.filterMap (ops[·]?)) (put a.tmps.toList ops[i].dst v) w)→
   ops[i].wp P a w (wpOps P ops Q is) Q:=by
   intro h
   refine X3W ?_
   rw[Q49]
   exact Rt (fun v w e=>f e) (Q7c h)
  split at h
  ·rename_i n
   rw[if_pos (by simp[Region.wanted,n])]
   exact .inl (k h)
  ·rename_i j b n
   split at h
   ·rename_i d c
    have g:=Q8R (ops:=ops.toList) (l:=a.tmps.toList) n c
    rw[r,s] at g
    rcases Ls h with ⟨e,h⟩ | ⟨e,h⟩
    ·rw[if_pos (g.2 e)];exact .inl (k h)
    ·rw[if_neg (fun h=>e (g.1 h))];exact f h
   ·rename_i c
    have g:=Q7t (ops:=ops.toList) (l:=a.tmps.toList) n c
    rw[r,s] at g
    rw[if_neg (by rw[g];simp)];exact f h
theorem Af (ops:Array Oper):(List.range ops.size).filterMap (ops[·]?)=ops.toList:=by
 apply List.ext_getElem?
 intro i
 rw[←Array.length_toList]
 have: ∀l:List Oper,(List.range l.length).filterMap (l[·]?)=l:=by
  intro l
  induction l with
  | nil=>rfl
  | cons x l a=>
   rw[List.length_cons,List.range_succ_eq_map,List.filterMap_cons]
   simp only[List.getElem?_cons_zero,List.filterMap_map]
   congr 1
 have h:=this ops.toList
 simp only[Array.getElem?_toList] at h
 rw[h]
theorem Q2d (b:Bool) (ops:Array Oper) (t:Nat): ∀i∈Region.schedule b ops t,i<ops.size:=by
 have key: ∀m c t a e,(∀i∈e,i<ops.size)→ ∀i∈Region.linearise.go m ops c t a e,i<ops.size:=by
  intro m c
  induction c with
  | zero=>intro t a e h i d;simp[Region.linearise.go] at d;exact h i d
  | succ c f=>
   intro t a e h i d
   simp only[Region.linearise.go] at d
   split at d
   ·rename_i j g
    refine f _ _ _ ?_ i d
    intro k hk
    rcases List.mem_cons.1 hk with rfl | hk
    ·have:=List.mem_of_getElem? g
     simp only[List.mem_filter,List.mem_range] at this
     exact this.1
    ·exact h k hk
   ·simp at d;exact h i d
 intro i d
 unfold Region.schedule at d
 split at d
 ·exact key _ _ _ _ _ (by simp) i d
 ·exact key _ _ _ _ _ (by simp) i d
def Qm (W:List Nat) (l l':List Value):Prop:=l'.length=l.length∧ ∀i,W.contains i=false→l'[i]? =l[i]?
theorem Qm.refl (W:List Nat) (l:List Value):Qm W l l:=⟨rfl,fun _ _=>rfl⟩
theorem Qm.trans {W:List Nat} {a b c:List Value} (h:Qm W a b) (k:Qm W b c):Qm W a c:=
 ⟨k.1.trans h.1,fun i d=>(k.2 i d).trans (h.2 i d)⟩
theorem Sx (a c:List Nat) (x:Tz a.length) (d:Nat→Value) (l:List Value): ∀i,(H4 a c x d i l).length=l.length:=by
 induction l with
 | nil=>intro i;rfl
 | cons v l b=>intro i;simp[H4,b]
theorem Bj (a b:List Nat) (x:Tz a.length) (d:Nat→Value) (l:List Value): ∀i j,(H4 a b x d i l)[j]? =(l[j]?).map fun v=>Rd (i+j) (if b.contains (i+j) then d (i+j) else v) a x:=by
 induction l with
 | nil=>intro i j;simp[H4]
 | cons v l c=>
  intro i j
  cases j with
  | zero=>simp[H4]
  | succ j=>simp only[H4,List.getElem?_cons_succ,c];rw[show i+1+j=i+(j+1) from by omega]
theorem Vn (i:Nat) (e:Value): ∀(b:List Nat) (x:Tz b.length),b.contains i=false→Rd i e b x=e
 | [],_,_=>rfl
 | [s],x,h=>by
  have a: ¬s=i:=by intro a;subst a;simp at h
  exact if_neg a
 | s::t::r,x,h=>by
  simp only[Rd]
  split
  ·rename_i a;subst a;simp at h
  ·refine Vn i e (t::r) x.2 ?_
   simp only[List.contains_cons,Bool.or_eq_false_iff] at h⊢
   exact h.2
theorem Q6h (l:List Value) (i:Nat) (e c:Value): ∀(b:List Nat),b.contains i=true→Rd i e b (Dm l b)=get l i
 | [],h=>by simp at h
 | [s],h=>by
  simp only[List.contains_cons,List.contains_nil,Bool.or_false,beq_iff_eq] at h
  subst h;simp[Rd,Dm]
 | s::t::r,h=>by
  simp only[Rd,Dm]
  split
  ·rename_i a;subst a;rfl
  ·rename_i a
   refine Q6h l i e c (t::r) ?_
   simp only[List.contains_cons,Bool.or_eq_true,beq_iff_eq] at h⊢
   rcases h with h | h
   ·exact absurd h.symm a
   ·exact h
theorem Tk (a c:List Nat) (l l':List Value) (j:l'.length=l.length)
 (h: ∀i,a.contains i=false→c.contains i=false→l'[i]? =l[i]?):l'=H4 a c (Dm l' a) (get l') 0 l:=by
 apply List.ext_getElem?
 intro i
 rw[Bj]
 simp only[Nat.zero_add]
 cases f:l[i]? with
 | none=>
  have:=List.getElem?_eq_none_iff.1 f
  simp only[Option.map_none]
  exact List.getElem?_eq_none (by omega)
 | some v=>
  have m:i<l.length:=(List.getElem?_eq_some_iff.1 f).1
  have k:l'[i]? =some (get l' i):=by
   simp only[get,List.getD_eq_getElem?_getD]
   rw[List.getElem?_eq_getElem (by omega)];rfl
  rw[k]
  simp only[Option.map_some,Option.some.injEq]
  by_cases g:a.contains i=true
  ·rw[Q6h l' i _ undef a g]
  ·have b:a.contains i=false:=by simpa using g
   rw[Vn _ _ _ _ b]
   by_cases e:c.contains i=true
   ·rw[if_pos e]
   ·have d:c.contains i=false:=by simpa using e
    rw[if_neg e]
    have:=h i b d
    rw[k,f] at this
    exact Option.some.inj this
theorem Q50 {v:Value} {t e a b:Prop} (d:t→a) (c:e→b) (h:X1 v t e):X1 v a b:=by
 rw[Q6b] at*
 unfold Q36 at*
 split at h
 ·exact d h
 ·exact c h
 ·exact h.elim
theorem Jw (P:Program) (c:List Oper) (next b:List Value→World→Prop) (W:List Nat) (j:List Value): ∀(ops:List Oper) (l:List Value) (w:World),
 (∀o∈ops,∀d,o.dst=some d→W.contains d=true)→Qm W j l→(∀l w,next l w→Qm W j l→b l w)→Z0 P c next ops l w→Z0 P c b ops l w
 | [],l,w,_,k,m,h=>m l w h k
 | o::f,l,w,r,k,m,h=>by
  have g: ∀v,Qm W j (put l o.dst v):=by
   intro v
   cases t:o.dst with
   | none=>exact k
   | some d=>
    have u:=r o (by simp) d t
    refine k.trans ⟨by simp[put],fun i q=>?_⟩
    have:d≠i:=by intro e;subst e;rw[u] at q;cases q
    simp[put,this]
  have a: ∀v w,Z0 P c next f (put l o.dst v) w→Z0 P c b f (put l o.dst v) w:=fun v w s=>
   Jw P c next b W j f _ w (fun o y=>r o (by simp[y])) (g v) m s
  simp only[Z0] at h⊢
  split at h
  ·exact K5 a h
  ·split at h
   ·refine Q0k ((Ls h).imp (fun ⟨p,n⟩=>⟨p,K5 a n⟩) (fun ⟨p,n⟩=>⟨p,a _ _ n⟩))
   ·exact a _ _ h
theorem Q4N {α:Type} {x0:α} {c a:(α→World→Prop)→α→(Nat→Value)→World→Prop} {w:World}
 (e: ∀b x d w,c b x d w→a b x d w) (h:lp x0 w c):lp x0 w a:=by
 obtain ⟨I,μ,g,f⟩:=X04 h
 exact Wn I μ g fun x d w i=>e _ _ _ _ (f x d w i)
theorem T6 {a b:List Nat} {i:Nat} (h:a.contains i=true):(a++b).contains i=true:=by simp at h⊢;exact .inl h
theorem R4 {a b:List Nat} {i:Nat} (h:b.contains i=true):(a++b).contains i=true:=by simp at h⊢;exact .inr h
theorem Q51 (P:Program) (q:List (Option (List Nat))) (c:Code): ∀(k:Nat) (Q A:Hp) (W:List Nat) (m l:List Value) (w:World),
 (∀i,(O3 q k c).contains i=true→W.contains i=true)→Qm W m l→
 (∀e l w,Q e l w→Qm W m l→A e l w)→Dh P q k c Q l w→Dh P q k c A l w:=by
 induction c with
 | skip=>intro k Q A W m l w _ g j h;exact j _ _ _ h g
 | label n=>intro k Q A W m l w _ g j h;exact j _ _ _ h g
 | exit id=>intro k Q A W m l w _ g j h;exact j _ _ _ h g
 | ret=>intro k Q A W m l w _ g j h;exact j _ _ _ h g
 | goto n=>intro k Q A W m l w _ g j h;exact h.elim
 | refuse s=>intro k Q A W m l w _ g j h;exact h.elim
 | scope c=>intro k Q A W m l w _ g j h;exact h.elim
 | rangeFunc f p a b=>intro k Q A W m l w _ g j h;exact h.elim
 | region id ops N=>
  intro k Q A W m l w B g j h
  have O: ∀o∈ops.toList,∀d,o.dst=some d→W.contains d=true:=by
   intro o R d hd
   refine B d ?_
   simp only[O3,R3,List.contains_eq_mem,List.mem_filterMap,decide_eq_true_eq]
   exact ⟨o,R,hd⟩
  cases N with
  | false=>exact Jw P _ _ _ W m _ _ _ O g (fun l w U g=>j _ _ _ U g) h
  | true=>
   intro t
   refine Jw P _ _ _ W m _ _ _ ?_ g (fun l w U g=>j _ _ _ U g) (h t)
   intro o R
   simp only[List.mem_filterMap] at R
   obtain ⟨i,_,r⟩:=R
   exact O o (by simpa using Array.mem_of_getElem? r)
 | seq x y E D=>
  intro k Q A W m l w B g j h
  have hx: ∀i,(O3 q (k+1) x).contains i=true→W.contains i=true:=fun i r=>B i (R4 (T6 r))
  have hy: ∀i,(O3 q (k+1+Qo x) y).contains i=true→W.contains i=true:=fun i r=>B i (R4 (R4 r))
  simp only[Dh] at h⊢
  split at h
  ·refine E _ _ _ W m l w hx g ?_ h
   intro e l' w' C u
   cases e with
   | normal=>exact D _ _ _ W m l' w' hy u j C
   | _=>exact j _ _ _ C u
  ·rename_i sl Y
   obtain ⟨J,M,L⟩:=Q5C h
   refine Yp J (E _ _ _ W m l w hx g ?_ M) fun z d w hz=>?_
   ·intro e l' w' C u
    cases e with
    | normal=>exact C
    | _=>exact j _ _ _ C u
   ·refine D _ _ _ W m _ w hy (g.trans ⟨Sx _ _ _ _ _ _,fun i r=>?_⟩) j (L z d w hz)
    rw[Bj]
    have M:sl.contains i=false:=by
     cases H:sl.contains i with
     | false=>rfl
     | true=>rw[B i (T6 (by rw[Y];exact H))] at r;cases r
    have L:(O3 q (k+1) x).contains i=false:=by
     cases H:(O3 q (k+1) x).contains i with
     | false=>rfl
     | true=>rw[hx i H] at r;cases r
    simp only[Nat.zero_add]
    cases hl:l[i]? with
    | none=>rfl
    | some v=>simp only[Option.map_some,Vn _ _ _ _ M,L,Bool.false_eq_true,if_false]
 | cond c x y E D=>
  intro k Q A W m l w B g j h
  exact Q50 (E k _ _ W m l w (fun i r=>B i (T6 r)) g j) (D _ _ _ W m l w (fun i r=>B i (R4 r)) g j) h
 | block id c V=>
  intro k Q A W m l w B g j h
  refine V k _ _ W m l w B g ?_ h
  intro e l' w' C u
  cases e with
  | exit ah=>simp only[Q38] at C⊢;split<;>rename_i Z<;>simp only[Z,if_true,if_false] at C<;>exact j _ _ _ C u
  | _=>exact j _ _ _ C u
 | loop c V=>
  intro k Q A W m l w B g j h
  refine Q4N (fun X x d w hb=>?_) h
  refine V _ _ _ W m _ _ (fun i r=>B i (R4 r)) ?_ ?_ hb
  ·refine g.trans ⟨Sx _ _ _ _ _ _,fun i r=>?_⟩
   rw[Bj]
   have M:((q.getD k none).getD []).contains i=false:=by
    cases H:((q.getD k none).getD []).contains i with
    | false=>rfl
    | true=>rw[B i (T6 H)] at r;cases r
   have L:(O3 q (k+1) c).contains i=false:=by
    cases H:(O3 q (k+1) c).contains i with
    | false=>rfl
    | true=>rw[B i (R4 H)] at r;cases r
   simp only[Nat.zero_add]
   cases hl:l[i]? with
   | none=>rfl
   | some v=>simp only[Option.map_some,Vn _ _ _ _ M,L,Bool.false_eq_true,if_false]
  ·intro e l' w' C u
   cases e with
   | normal=>exact C
   | _=>exact j _ _ _ C u
theorem X0p (P:Program) (g:List (Option (List Nat))) (c:Code): ∀(k:Nat) (Q:Hp) (a:Act) (w:World),
 a.defers=[]→Dh P g k c Q a.tmps.toList w→c.wp P (lift Q) a w:=by
 induction c with
 | skip=>intro k Q a w j h;exact wp_skip ⟨j,h⟩
 | label n=>intro k Q a w j h;exact wp_label ⟨j,h⟩
 | exit id=>intro k Q a w j h;exact wp_exit ⟨j,h⟩
 | ret=>intro k Q a w j h;exact wp_ret ⟨j,h⟩
 | goto n=>intro k Q a w j h;exact h.elim
 | refuse s=>intro k Q a w j h;exact h.elim
 | scope c=>intro k Q a w j h;exact h.elim
 | rangeFunc f p a b=>intro k Q a w j h;exact h.elim
 | region id ops C=>
  intro k Q a w j h
  cases C with
  | false=>
   refine wp_region (Q0F P ops _ _ (fun a w j h=>⟨j,h⟩) _ (by simp) a w j ?_)
   rw[Af];exact h
  | true=>
   refine wp_region_draw fun t=>?_
   exact Q0F P ops _ _ (fun a w j h=>⟨j,h⟩) _ (Q2d _ _ _) a _ j (h t)
 | seq x y u r=>
  intro k Q a w j h
  simp only[Dh] at h
  split at h
  ·refine wp_seq (wp_mono (u _ _ a w j h) ?_)
   intro e o w' ⟨m,q⟩
   cases e with
   | normal=>exact r _ _ o w' m q
   | _=>exact ⟨m,q⟩
  ·rename_i Y ac
   obtain ⟨J,W,z⟩:=Q5C h
   have H:=Q51 P g x (k+1) _ (fun e l' w'=>thn (fun l' w'=>J (Dm l' Y) w') Q e l' w'∧Qm (O3 g (k+1) x) a.tmps.toList l') (O3 g (k+1) x) a.tmps.toList a.tmps.toList w (fun _ h=>h) (Qm.refl _ _) (fun e l w h X=>⟨h,X⟩) W
   refine wp_seq (wp_mono (u (k+1) _ a w j H) ?_)
   intro e o w' ⟨m,q,E⟩
   cases e with
   | normal=>
    refine r (k+1+Qo x) _ o w' m ?_
    rw[Tk Y (O3 g (k+1) x) a.tmps.toList o.tmps.toList E.1 (fun i _ h=>E.2 i h)]
    exact z _ _ _ q
   | _=>exact ⟨m,q⟩
 | cond c x y u r=>
  intro k Q a w j h
  simp only[Dh,Q6b,Q36] at h
  split at h
  ·rename_i L
   exact wp_cond_true (by rw[Q49];exact L) (u _ _ _ _ j h)
  ·rename_i L
   exact wp_cond_false (by rw[Q49];exact L) (r _ _ _ _ j h)
  ·exact h.elim
 | block id c N=>
  intro k Q a w j h
  refine wp_block (wp_mono (N k _ a w j h) ?_)
  intro e o w' ⟨m,q⟩
  cases e with
  | exit ad=>
   simp only[Q38,Exit.inBlock] at q⊢
   split<;>rename_i V<;>simp only[V,if_true,if_false] at q<;>exact ⟨m,q⟩
  | _=>exact ⟨m,q⟩
 | loop c N=>
  intro k Q a w j h
  obtain ⟨I,μ,h0,Z⟩:=X04 h
  refine wp_loop (fun o w'=>o.defers=[]∧(∃d,o.tmps.toList=H4 ((g.getD k none).getD []) (O3 g (k+1) c) (Dm o.tmps.toList ((g.getD k none).getD [])) d 0 a.tmps.toList)∧I (Dm o.tmps.toList ((g.getD k none).getD [])) w') (fun o w'=>μ (Dm o.tmps.toList ((g.getD k none).getD [])) w') ⟨j,⟨get a.tmps.toList,Tk _ _ _ _ rfl (fun _ _ _=>rfl)⟩,h0⟩ ?_
  intro B w1 ⟨U,⟨d1,v⟩,R⟩
  have M:=Z _ d1 w1 R
  dsimp only at M
  rw[←v] at M
  have O:=Q51 P g c (k+1) _ (fun e l' w'=>thn (fun l' w'=>I (Dm l' ((g.getD k none).getD [])) w'∧μ (Dm l' ((g.getD k none).getD [])) w'<μ (Dm B.tmps.toList ((g.getD k none).getD [])) w1) Q e l' w'∧Qm (O3 g (k+1) c) B.tmps.toList l') (O3 g (k+1) c) B.tmps.toList B.tmps.toList w1 (fun _ h=>h) (Qm.refl _ _) (fun e l w h X=>⟨h,X⟩) M
  refine wp_mono (N _ _ B w1 U O) ?_
  intro e a2 w2 ⟨A,z,D⟩
  cases e with
  | normal=>
   refine ⟨⟨A,⟨get a2.tmps.toList,Tk _ _ _ _ ?_ ?_⟩,z.1⟩,z.2⟩
   ·rw[D.1,v,Sx]
   ·intro i W H
    rw[D.2 i H,v,Bj]
    simp only[Nat.zero_add,Vn _ _ _ _ W,H,Bool.false_eq_true,if_false,Option.map_id']
  | _=>exact ⟨A,z⟩
def Q8B:List Value→Nat→Value→(List Value→Prop)→Prop
 | [],_,_,k=>k []
 | _::l,0,v,k=>k (v::l)
 | x::l,n+1,v,k=>Q8B l n v (fun l'=>k (x::l'))
def Q4h (l:List Value) (d:Option Tmp) (v:Value) (k:List Value→Prop):Prop:=
 match d with
 | some d=>Q8B l d v k
 | none=>k l
def Q90:List Value→Nat→(Value→Prop)→Prop
 | [],_,k=>k undef
 | x::_,0,k=>k x
 | _::l,n+1,k=>Q90 l n k
def evK (l:List Value) (o:Operand) (k:Value→Prop):Prop:=
 match o with
 | .tmp t=>Q90 l t k
 | .const v=>k v
 | .global g=>k (.pointer (some ⟨g,0,none⟩))
 | .func f=>k (.func (.func f) #[] #[])
def Q3O (i:Nat) (e:Value):(a:List Nat)→Tz a.length→(Value→Prop)→Prop
 | [],_,k=>k e
 | [s],x,k=>if s=i then k x else k e
 | s::t::r,x,k=>if s=i then k x.1 else Q3O i e (t::r) x.2 k
def Fy (a b:List Nat) (x:Tz a.length) (d:Nat→Value):Nat→List Value→(List Value→Prop)→Prop
 | _,[],k=>k []
 | i,v::l,k=>match b.contains i with
  | true=>Q3O i (d i) a x (fun u=>Fy a b x d (i+1) l (fun l'=>k (u::l')))
  | false=>Q3O i v a x (fun u=>Fy a b x d (i+1) l (fun l'=>k (u::l')))
theorem X2D (l:List Value): ∀(n:Nat) (v:Value) (k:List Value→Prop),Q8B l n v k=k (l.set n v):=by
 induction l with
 | nil=>intro n v k;rfl
 | cons x l a=>intro n v k;cases n with
  | zero=>rfl
  | succ n=>simp only[Q8B,a,List.set_cons_succ]
theorem Q80 (l:List Value) (d:Option Tmp) (v:Value) (k:List Value→Prop):Q4h l d v k=k (put l d v):=by
 cases d with
 | none=>rfl
 | some d=>exact X2D l d v k
theorem X1W (l:List Value): ∀(n:Nat) (k:Value→Prop),Q90 l n k=k (get l n):=by
 induction l with
 | nil=>intro n k;rfl
 | cons x l a=>intro n k;cases n with
  | zero=>rfl
  | succ n=>simp only[Q90,a];rfl
theorem X3h (l:List Value) (o:Operand) (k:Value→Prop):evK l o k=k (ev l o):=by
 cases o with
 | tmp t=>exact X1W l t k
 | _=>rfl
theorem Q1c (i:Nat) (e:Value) (k:Value→Prop): ∀(a:List Nat) (x:Tz a.length),Q3O i e a x k=k (Rd i e a x)
 | [],_=>rfl
 | [s],x=>by
  by_cases h:s=i
  ·exact (if_pos h).trans (congrArg k (if_pos h).symm)
  ·exact (if_neg h).trans (congrArg k (if_neg h).symm)
 | s::t::r,x=>by
  by_cases h:s=i
  ·exact (if_pos h).trans (congrArg k (if_pos h).symm)
  ·exact ((if_neg h).trans (Q1c i e k (t::r) x.2)).trans (congrArg k (if_neg h).symm)
theorem Q4D (a c:List Nat) (x:Tz a.length) (d:Nat→Value) (l:List Value): ∀(i:Nat) (k:List Value→Prop),Fy a c x d i l k=k (H4 a c x d i l):=by
 induction l with
 | nil=>intro i k;rfl
 | cons v l b=>
  intro i k
  simp only[Fy,H4]
  split
  ·rename_i h;rw[Q1c,b,if_pos h]
  ·rename_i h;rw[Q1c,b,if_neg (by rw[h];simp)]
theorem Bs (b c a:List Nat) (h: ∀i,c.contains i=a.contains i) (x:Tz b.length) (d:Nat→Value) (l:List Value): ∀i,H4 b c x d i l=H4 b a x d i l:=by
 induction l with
 | nil=>intro i;rfl
 | cons v l e=>intro i;simp only[H4,e,h]
noncomputable def P6 (P:Program) (ops:List Oper) (next:List Value→World→Prop):List Oper→List Value→World→Prop
 | [],l,w=>next l w
 | o::a,l,w=>
  match o.guard with
  | none=>match o.op with
   | .move x=>evK l x fun v=>Q4h l o.dst v fun l=>P6 P ops next a l w
   | .assign x=>evK l x fun v=>Q4h l o.dst v fun l=>P6 P ops next a l w
   | _=>W2 P l o w (fun v w=>Q4h l o.dst v fun l=>P6 P ops next a l w)
  | some (j,b)=>match (ops[j]?).bind (·.dst) with
   | some d=>Q0 (get l d) b w (W2 P l o) (fun v w=>Q4h l o.dst v fun l=>P6 P ops next a l w)
   | none=>Q4h l o.dst undef fun l=>P6 P ops next a l w
theorem Rk (P:Program) (ops:List Oper) (next:List Value→World→Prop) (os:List Oper): ∀(l:List Value) (w:World),P6 P ops next os l w=Z0 P ops next os l w:=by
 induction os with
 | nil=>intro l w;rfl
 | cons o c a=>
  intro l w
  obtain ⟨dst,p,d,pos,e,g⟩:=o
  cases g with
  | none=>cases p<;>simp only[P6,Z0,Q80,X3h,a,W2]
  | some q=>obtain ⟨j,b⟩:=q;simp only[P6,Z0,Q80,a]
def Sp (T:World→World→Prop) (φ:Value→World→Prop):Prop:= ∀v w w',φ v w→T w w'→φ v w'
def dk (T:World→World→Prop) (φ:Value→World→Prop) (w:World):Value→World→Prop:=fun v w'=>T w w'∧φ v w'
def Q6I (T:World→World→Prop) (A:(Value→World→Prop)→Prop) (a:(Value→World→Prop)→Prop):Prop:=
 ∃φ,Sp T φ∧A φ∧a φ
theorem Q9x: ∃f:(World→World→Prop)→((Value→World→Prop)→Prop)→((Value→World→Prop)→Prop)→Prop,f=Q6I:=⟨_,rfl⟩
noncomputable def Q5:(World→World→Prop)→((Value→World→Prop)→Prop)→((Value→World→Prop)→Prop)→Prop:=Classical.choose Q9x
theorem X0f:Q5=Q6I:=Classical.choose_spec Q9x
def Q8c (w:World) (A:(World→World→Prop)→(World→Prop)→Prop):Prop:= ∃T B,B w.drew∧(∀w w',B w→T w w'→B w')∧A T B
theorem X1x: ∃f:World→((World→World→Prop)→(World→Prop)→Prop)→Prop,f=Q8c:=⟨_,rfl⟩
noncomputable def dr:World→((World→World→Prop)→(World→Prop)→Prop)→Prop:=Classical.choose X1x
theorem X1I:dr=Q8c:=Classical.choose_spec X1x
theorem Pa {w:World} {A:(World→World→Prop)→(World→Prop)→Prop} (T:World→World→Prop) (B:World→Prop) (h:B w.drew) (a: ∀w w',B w→T w w'→B w') (b:A T B):dr w A:=by
 rw[X1I];exact ⟨T,B,h,a,b⟩
theorem E8 {T:World→World→Prop} {A a:(Value→World→Prop)→Prop} (φ:Value→World→Prop) (b:Sp T φ) (h:A φ) (c:a φ):Q5 T A a:=by
 rw[X0f];exact ⟨φ,b,h,c⟩
def Q4e (T:World→World→Prop) (A a:(List Value→Value→World→Prop)→Prop):Prop:=
 ∃φ,(∀xs,Sp T (φ xs))∧A φ∧a φ
theorem Q7V: ∃f:(World→World→Prop)→((List Value→Value→World→Prop)→Prop)→((List Value→Value→World→Prop)→Prop)→Prop,f=Q4e:=⟨_,rfl⟩
noncomputable def Cl:(World→World→Prop)→((List Value→Value→World→Prop)→Prop)→((List Value→Value→World→Prop)→Prop)→Prop:=Classical.choose Q7V
theorem Q86:Cl=Q4e:=Classical.choose_spec Q7V
theorem Q4g {T:World→World→Prop} {A a:(List Value→Value→World→Prop)→Prop} (φ:List Value→Value→World→Prop) (b: ∀xs,Sp T (φ xs)) (h:A φ) (c:a φ):Cl T A a:=by
 rw[Q86];exact ⟨φ,b,h,c⟩
noncomputable def runOp (P:Program) (ops:List Oper) (l:List Value) (o:Oper) (w:World) (K:Value→World→Prop):Prop:=
 match o.guard with
 | none=>W2 P l o w K
 | some (j,b)=>match (ops[j]?).bind (·.dst) with
  | some d=>Q0 (get l d) b w (W2 P l o) K
  | none=>False
inductive Ent where
  | val (v : Value)
  | ref (j : Nat)
def Ent.at (u:Nat→Value):Ent→Value
 | .val v=>v
 | .ref j=>u j
def Qe (u:Nat→Value) (S:List Ent):List Value:=S.map (Ent.at u)
def getE:List Ent→Nat→Ent
 | [],_=> .val undef
 | x::_,0=>x
 | _::l,n+1=>getE l n
def entOf (S:List Ent):Operand→Ent
 | .tmp t=>getE S t
 | .const v=> .val v
 | .global g=> .val (.pointer (some ⟨g,0,none⟩))
 | .func f=> .val (.func (.func f) #[] #[])
def mv (o:Oper):Option Operand:=
 match o.guard with
 | some _=>none
 | none=>match o.op with
  | .move x=>some x
  | .assign x=>some x
  | _=>none
def Q2K:List Ent→Nat→Ent→List Ent
 | [],_,_=>[]
 | _::l,0,e=>e::l
 | x::l,n+1,e=>x::Q2K l n e
def putE (S:List Ent) (d:Option Nat) (e:Ent):List Ent:=
 match d with
 | some d=>Q2K S d e
 | none=>S
def B5 (o:Oper):List Nat:=o.op.operands.toList.filterMap fun | .tmp t=>some t | _=>none
def R0 (ops:List Oper) (o:Oper):List Nat:=
 match o.guard with
 | none=>[]
 | some (j,_)=>match (ops[j]?).bind (·.dst) with | some d=>[d] | none=>[]
def Q1H:List Nat→List Nat
 | []=>[]
 | x::l=>x::(Q1H l).filter (fun y=> !(y==x))
def Q5l:Ent→List Nat
 | .ref j=>[j]
 | .val _=>[]
def Q1z (S:List Ent):List Nat→List Nat
 | []=>[]
 | s::l=>Q5l (getE S s)++Q1z S l
def refs (ops:List Oper) (S:List Ent) (o:Oper):List Nat:=Q1H (Q1z S (R0 ops o++B5 o))
def Ko:List Nat→(Nat→Value)→((Nat→Value)→Prop)→Prop
 | [],u,k=>k u
 | j::a,u,k=> ∀t:Value,Ko a (fun n=>if n=j then t else u n) k
abbrev Cs:=List (Nat×List Nat×(List Value→Value→World→Prop))
def Vf:Cs→Nat→Option (List Nat×(List Value→Value→World→Prop))
 | [],_=>none
 | (i,φ)::l,j=>if i=j then some φ else Vf l j
def Iq (b:Cs) (u:Nat→Value) (w:World) (a:Prop):List Nat→Prop
 | []=>a
 | j::c=>match Vf b j with
  | some ([],φ)=>φ [] (u j) w→Iq b u w a c
  | _=>Iq b u w a c
def Q1V (b:Cs) (u:Nat→Value) (w:World) (a:Prop):List Nat→Prop
 | []=>a
 | j::c=>match Vf b j with
  | some (R,φ)=>φ (R.map u) (u j) w→Q1V b u w a c
  | none=>Q1V b u w a c
def Q5W (o:Oper):Bool:=match o.op with | .store .. =>true | _=>false
noncomputable def chain (P:Program) (ops:List Oper) (T:World→World→Prop) (B:World→Prop) (V1:List Value→World→Prop) (tail:List Oper):Nat→List Oper→List Ent→Cs→List Nat→Prop
 | _,[],S,b,done=>Ko done (fun _=>undef) fun u=> ∀w,B w→Q1V b u w (P6 P ops V1 tail (Qe u S) w) done
 | i,o::a,S,b,done=>
  match mv o with
  | some x=>chain P ops T B V1 tail (i+1) a (putE S o.dst (entOf S x)) b done
  | none=>match Q5W o with
   | true=>Cl T (fun φ=>Ko (refs ops S o) (fun _=>undef) fun u=> ∀w,B w→Iq b u w (runOp P ops (Qe u S) o w (dk T (φ ((refs ops S o).map u)) w)) (refs ops S o))
    (fun φ=>chain P ops T B V1 tail (i+1) a (putE S o.dst (.ref i)) (b++[(i,refs ops S o,φ)]) (done++[i]))
   | false=>Q5 T (fun φ=>Ko (refs ops S o) (fun _=>undef) fun u=> ∀w,B w→Iq b u w (runOp P ops (Qe u S) o w (dk T φ w)) (refs ops S o))
    (fun φ=>chain P ops T B V1 tail (i+1) a (putE S o.dst (.ref i)) (b++[(i,[],fun _=>φ)]) (done++[i]))
def Xy:Op→Bool
 | .ready _ | .waits _ | .sliceToArrayPointer .. | .makeChan .. | .typeAssert .. | .go _ | .defer _ | .send .. | .recv .. | .select .. =>false
 | .call c=>match c.callee with | .invoke .. =>false | _=>true
 | _=>true
theorem Bo {l l':List Value} {x:Option Operand} (h: ∀y∈x.toArray,ev l y=ev l' y):evo l x=evo l' x:=by
 cases x with
 | none=>rfl
 | some y=>simp only[evo];rw[h y (by simp)]
theorem Q1f {l l':List Value} {xs:Array Operand} (h: ∀y∈xs,ev l y=ev l' y):evs l xs=evs l' xs:=by
 unfold evs;exact List.map_congr_left fun y a=>h y (by simpa using a)
theorem Q4O {l l':List Value} {xs:Array (Nat×Operand)} (h: ∀y∈(xs.toList.map (·.2)).toArray,ev l y=ev l' y):evp l xs=evp l' xs:=by
 unfold evp
 refine List.map_congr_left fun y a=>?_
 rw[h y.2 (by simp;exact ⟨y.1,by simpa using a⟩)]
theorem Ed {P:Program} {l l':List Value} {o:Oper} (k:Xy o.op=true) (h: ∀x∈o.op.operands,ev l x=ev l' x):W2 P l o=W2 P l' o:=by
 obtain ⟨d,p,C,pos,D,g⟩:=o
 funext w K
 cases p with
 | call c=>
  obtain ⟨j,i,B⟩:=c
  have q:evs l i=evs l' i:=Q1f fun y e=>h y (by simp[Op.operands,Call.operands];exact .inr e)
  cases j with
  | invoke r m=>simp[Xy] at k
  | builtin b=>simp only[W2,Dy,q]
  | value f=>
   have A:ev l f=ev l' f:=h f (by simp[Op.operands,Call.operands])
   cases f<;>simp only[W2,Dy,q,A]
 | build t v=>simp only[W2];rw[Q4O h]
 | buildSlice t n v=>simp only[W2];rw[Q4O h]
 | makeFunc f a b=>
  simp only[W2]
  rw[Q1f (xs:=a) fun y e=>h y (by simp[Op.operands];exact .inl e),Q1f (xs:=b) fun y e=>h y (by simp[Op.operands];exact .inr e)]
 | makeMap t r=>simp only[W2];rw[Bo h]
 | slice t x u z s=>
  simp only[W2]
  rw[h x (by simp[Op.operands]),Bo (x:=u) fun y e=>h y (by simp[Op.operands] at e⊢;simp[e]),Bo (x:=z) fun y e=>h y (by simp[Op.operands] at e⊢;simp[e]),Bo (x:=s) fun y e=>h y (by simp[Op.operands] at e⊢;simp[e])]
 | _=>first
  | (simp[Xy] at k;done)
  | (simp only[Op.operands,List.mem_toArray,List.mem_cons,List.not_mem_nil,or_false,forall_eq_or_imp,forall_eq] at h;simp only[W2,h];done)
  | rfl
def Pp:List Oper→List Nat→List Nat
 | [],acc=>acc
 | o::a,acc=>Pp a (acc++[(o.after.toList.filter (Region.binds .any)).foldl (fun s e=>s ||| 2 ^ e.on ||| acc.getD e.on 0) 0])
def Qj (a b:Oper):Bool:=
 match a.dst with
 | some d=>(B5 b).contains d||b.dst==some d
 | none=>false
def Q47 (a:List Nat) (ops:List Oper):Bool:=
 ops.zipIdx.all fun (o,j)=>ops.zipIdx.all fun (q,i)=> !(decide (i<j))|| !(Qj q o||Qj o q)||(a.getD j 0).testBit i
def Ut (ops:List Oper):Bool:=
 ops.zipIdx.all fun (o,i)=>Xy o.op&&(o.after.toList.filter (Region.binds .any)).all (fun e=>decide (e.on<i))&&
  match o.guard with | none=>true | some (j,_)=>(o.after.toList.filter (Region.binds .any)).any (fun e=>e.on==j)
def Q5g (m:Region.Mode) (ops:List Oper):List Nat→List Nat→Bool
 | [],_=>true
 | j::L,seen=>((ops[j]?.map fun o=>o.after.toList).getD []).all (fun e=> !Region.binds m e||seen.contains e.on)&&Q5g m ops L (j::seen)
def A0 (m:Region.Mode) (ops:List Oper) (L:List Nat):Bool:=
 Q5g m ops L []&&(List.range ops.length).all (L.contains ·)&&ops.all (fun o=>o.after.toList.all fun e=> !Region.binds m e||decide (e.on<ops.length))
def X0B (m:Region.Mode) (ops:List Oper):Nat→List Nat→List Nat→List Nat
 | 0,_,seen=>seen.reverse
 | n+1,a,seen=>
  match a.find? (fun j=>((ops[j]?.map fun o=>o.after.toList).getD []).all (fun e=> !Region.binds m e||seen.contains e.on)) with
  | some j=>X0B m ops n (a.erase j) (j::seen)
  | none=>seen.reverse
def Xr:List Nat→Bool
 | []=>true
 | x::l=> !l.contains x&&Xr l
def A4 (ops:List Oper) (j:Nat):List Nat:=(ops[j]?.map fun o=>(o.after.toList.filter (Region.binds .any)).map (·.on)).getD []
def Cw (ops:List Oper) (L:List Nat):Prop:= ∀b j a,L=b++j::a→ ∀i∈A4 ops j,i∈b
theorem Q5z (f:Edge→Nat) (l:List Edge): ∀(s i:Nat),(l.foldl (fun s e=>s ||| 2 ^ e.on ||| f e) s).testBit i=true→
 s.testBit i=true∨ ∃e∈l,e.on=i∨(f e).testBit i=true:=by
 induction l with
 | nil=>intro s i h;exact .inl h
 | cons e l a=>
  intro s i h
  rcases a _ _ h with h | ⟨b,c,h⟩
  ·simp only[Nat.testBit_or,Bool.or_eq_true] at h
   rcases h with (h | h) | h
   ·exact .inl h
   ·rw[Nat.testBit_two_pow] at h
    exact .inr ⟨e,by simp, .inl (by simpa using h)⟩
   ·exact .inr ⟨e,by simp, .inr h⟩
  ·exact .inr ⟨b,by simp[c],h⟩
theorem Q4G (a:List Oper): ∀(b:List Oper) (acc:List Nat),acc.length+b.length=a.length→(∀k,acc.length≤k→a[k]? =b[k-acc.length]?)→
 (∀j i,j<acc.length→(acc.getD j 0).testBit i=true→ ∃k∈A4 a j,k=i∨(k<j∧(acc.getD k 0).testBit i=true))→
 (∀j,j<a.length→ ∀k∈A4 a j,k<j)→
 ∀j i,j<a.length→((Pp b acc).getD j 0).testBit i=true→ ∃k∈A4 a j,k=i∨(k<j∧((Pp b acc).getD k 0).testBit i=true)
 | [],acc,q,_,c,_=>by
  intro j i t h
  exact c j i (by simp at q;omega) h
 | o::b,acc,q,l,c,n=>by
  have z:a[acc.length]? =some o:=by rw[l _ (Nat.le_refl _)];simp
  refine Q4G a b _ (by simp at q⊢;omega) ?_ ?_ n
  ·intro k g
   simp only[List.length_append,List.length_cons,List.length_nil] at g⊢
   rw[l k (by omega)]
   obtain ⟨m,y⟩: ∃m,k-acc.length=m+1:=⟨k-acc.length-1,by omega⟩
   rw[y,List.getElem?_cons_succ]
   congr 1;omega
  ·intro j i t h
   simp only[List.length_append,List.length_cons,List.length_nil] at t
   have d: ∀k,k<acc.length→(acc++[(o.after.toList.filter (Region.binds .any)).foldl (fun s e=>s ||| 2 ^ e.on ||| acc.getD e.on 0) 0]).getD k 0=acc.getD k 0:=by
    intro k g
    simp only[List.getD_eq_getElem?_getD]
    rw[List.getElem?_append_left g]
   by_cases p:j<acc.length
   ·rw[d j p] at h
    obtain ⟨k,g,h⟩:=c j i p h
    exact ⟨k,g,h.imp id fun ⟨w,u⟩=>⟨w,by rw[d k (by omega)];exact u⟩⟩
   ·have r:j=acc.length:=by omega
    subst r
    simp only[List.getD_eq_getElem?_getD,List.getElem?_append_right (Nat.le_refl _),Nat.sub_self,List.getElem?_cons_zero,Option.getD_some] at h
    rcases Q5z (fun e=>acc.getD e.on 0) _ _ _ (by simpa only[List.getD_eq_getElem?_getD] using h) with h | ⟨e,v,h⟩
    ·simp at h
    ·have f:e.on∈A4 a acc.length:=by
      unfold A4;rw[z];simp only[Option.map_some,Option.getD_some,List.mem_map];exact ⟨e,v,rfl⟩
     refine ⟨e.on,f,h.imp id fun h=>?_⟩
     have g:=n acc.length (by simp at q;omega) _ f
     exact ⟨g,by rw[d _ g];exact h⟩
theorem Kx {ops:List Oper} (h:Ut ops=true): ∀j,j<ops.length→ ∀k∈A4 ops j,k<j:=by
 intro j b k a
 simp only[Ut,List.all_eq_true,Bool.and_eq_true] at h
 unfold A4 at a
 rw[List.getElem?_eq_getElem b] at a
 simp only[Option.map_some,Option.getD_some,List.mem_map] at a
 obtain ⟨e,c,rfl⟩:=a
 have:=(h (ops[j],j) (by rw[List.mem_zipIdx_iff_getElem?];simp[b])).1.2 e c
 simpa using this
theorem Q5s {ops:List Oper} (n:Ut ops=true) {L:List Nat} (m:Cw ops L): ∀(j:Nat),j<ops.length→ ∀i b a,L=b++j::a→((Pp ops []).getD j 0).testBit i=true→i∈b:=by
 intro j
 induction j using Nat.strongRecOn with
 | _ j l=>
  intro e i b a f g
  obtain ⟨k,o,h⟩:=Q4G ops ops [] (by simp) (by simp) (by intro j i e;simp at e) (Kx n) j i e g
  have c:=m b j a f k o
  rcases h with rfl | ⟨d,h⟩
  ·exact c
  ·obtain ⟨q,p,rfl⟩:=List.append_of_mem c
   have:=l k d (by omega) i q (p++j::a) (by rw[f];simp) h
   exact List.mem_append_left _ this
theorem Wp: ∀(n:Nat) (a:List Nat),(∀k,k<n→k∈a)→n≤a.length
 | 0,_,_=>Nat.zero_le _
 | n+1,a,h=>by
  have c:=Wp n (a.erase n) fun k d=>(List.mem_erase_of_ne (by omega)).2 (h k (by omega))
  have b:=List.length_erase_of_mem (h n (by omega))
  have e:=List.length_pos_of_mem (h n (by omega))
  omega
theorem I0: ∀(n:Nat) (l:List Nat),l.Nodup→(∀k∈l,k<n)→l.length≤n
 | 0,l,_,h=>by
  cases l with
  | nil=>simp
  | cons x l=>exact absurd (h x (by simp)) (by omega)
 | n+1,l,b,h=>by
  by_cases c:n∈l
  ·have g:=I0 n (l.erase n) (b.erase n) fun k a=>by
    have d:=h k (List.mem_of_mem_erase a)
    have f:k≠n:=fun e=>by subst e;exact (List.Nodup.not_mem_erase b) a
    omega
   have d:=List.length_erase_of_mem c
   have f:=List.length_pos_of_mem c
   omega
  ·have:=I0 n l b fun k a=>by
    have d:=h k a
    have f:k≠n:=fun e=>by subst e;exact c a
    omega
   omega
theorem Q9t {m:Region.Mode} {e:Edge} (h:Region.binds .any e=true):Region.binds m e=true:=by
 unfold Region.binds at h⊢
 cases a:e.ground<;>rw[a] at h<;>first | rfl | (exact absurd h (by simp<;>rfl)) | (simp at h;cases h)
theorem Q8M {m:Region.Mode} {ops:List Oper} {L:List Nat} (h:A0 m ops L=true) (k:Nat) (b:k<ops.length): ∀e∈(ops[k]?.map fun o=>o.after.toList).getD [],Region.binds m e=true→e.on<ops.length:=by
 intro e a c
 simp only[A0,Bool.and_eq_true,List.all_eq_true] at h
 rw[List.getElem?_eq_getElem b] at a
 have:=h.2 ops[k] (List.getElem_mem b) e (by simpa using a)
 rw[c] at this
 simpa using this
theorem Q5J {m:Region.Mode} {ops:List Oper} {L:List Nat} (h:A0 m ops L=true): ∀k,k<ops.length→k∈L:=by
 intro k a
 simp only[A0,Bool.and_eq_true,List.all_eq_true] at h
 simpa using h.1.2 k (by simpa using a)
theorem Q7Q (m:Region.Mode) (ops:Array Oper) (R:Ut ops.toList=true) (W:List Nat) (Q:A0 m ops.toList W=true): ∀(fuel t:Nat) (listed:Array Bool) (a:List Nat),
 fuel+a.length=ops.size→listed.size=ops.size→(∀i,i<ops.size→(listed.getD i true=true↔i∈a))→a.Nodup→(∀i∈a,i<ops.size)→Cw ops.toList a.reverse→
 (Region.linearise.go m ops fuel t listed a).Nodup∧(Region.linearise.go m ops fuel t listed a).length=ops.size∧Cw ops.toList (Region.linearise.go m ops fuel t listed a)
 | 0,t,listed,a,hf,_,_,V,_,Y=>by
  simp only[Region.linearise.go]
  exact ⟨List.pairwise_reverse.2 (V.imp fun h=>Ne.symm h),by simp;omega,Y⟩
 | fuel+1,t,listed,a,hf,v,B,V,y,Y=>by
  -- one that isn't listed may come
  have ab: ∃k,k<ops.size∧k∉a:=by
   refine Classical.byContradiction fun Z=>?_
   have H: ∀k,k<ops.size→k∈a:=fun k hk=>Classical.byContradiction fun h=>Z ⟨k,hk,h⟩
   have:=Wp ops.size a H
   omega
  simp only[Region.linearise.go]
  split
  ·rename_i i hi
   have l:=List.mem_of_getElem? hi
   simp only[List.mem_filter,List.mem_range,Bool.and_eq_true,Bool.not_eq_true'] at l
   obtain ⟨d,M,p⟩:=l
   have w:i∉a:=fun h=>by rw[(B i d).2 h] at M;cases M
   refine Q7Q m ops R W Q fuel _ _ _ (by simp;omega) (by simp[v]) ?_ (List.nodup_cons.2 ⟨w,V⟩) ?_ ?_
   ·intro j hj
    by_cases n:i=j
    ·subst n;simp[Array.getD,v,d]
    ·have:(listed.setIfInBounds i true).getD j true=listed.getD j true:=by
      simp only[Array.getD_eq_getD_getElem?]
      rw[Array.getElem?_setIfInBounds_ne n]
     rw[this,B j hj]
     simp[Ne.symm n]
   ·intro j hj
    rcases List.mem_cons.1 hj with rfl | hj
    ·exact d
    ·exact y j hj
   ·rw[List.reverse_cons]
    intro ac j s hL k hk
    rcases List.eq_nil_or_concat s with rfl | ⟨r,x,rfl⟩
    ·have hh:=List.append_inj' hL rfl
     obtain ⟨h1,h2⟩:=hh
     simp only[List.cons.injEq,and_true] at h2
     subst h2;subst h1
     have af:=hk
     unfold A4 at hk
     rw[show ops.toList[i]? =some ops[i] by simp[d]] at hk
     simp only[Option.map_some,Option.getD_some,List.mem_map,List.mem_filter] at hk
     obtain ⟨e,⟨g,ad⟩,rfl⟩:=hk
     rw[show ops[i]? =some ops[i] by simp[d]] at p
     simp only[Option.map_some,Option.getD_some,Array.all_eq_true'] at p
     have h4:=p e (by simpa using g)
     simp only[Bool.or_eq_true,Bool.not_eq_true'] at h4
     rcases h4 with h4 | h4
     ·rw[Q9t ad] at h4;cases h4
     ·have an:=Kx R i (by simpa using d) e.on af
      have:listed.getD e.on true=true:=by
       simp only[Array.getD_eq_getD_getElem?] at h4⊢
       rw[Array.getElem?_eq_getElem (by omega)] at h4⊢
       simpa using h4
      simpa using (B e.on (by omega)).1 this
    ·rw[List.concat_eq_append,←List.cons_append,←List.append_assoc] at hL
     have hh:=List.append_inj' hL rfl
     exact Y ac j r hh.1 k hk
  ·rename_i q
   exfalso
   obtain ⟨k0,u,z⟩:=ab
   have J:=Q
   simp only[A0,Bool.and_eq_true] at J
   -- every number of L0 that is none of an operation's has no edges: it may stand there, but isn't looked at
   have f: ∃k,k<ops.size∧k∉a∧ ∀e∈(ops.toList[k]?.map fun o=>o.after.toList).getD [],Region.binds m e=true→e.on∈a∨ops.size≤e.on:=by
    -- the first of L0 that is an operation's number and isn't listed
    have key: ∀(L b:List Nat),Q5g m ops.toList L b=true→(∀k∈b,k∈a∨ops.size≤k)→(∃k∈L,k<ops.size∧k∉a)→
     ∃k,k<ops.size∧k∉a∧ ∀e∈(ops.toList[k]?.map fun o=>o.after.toList).getD [],Region.binds m e=true→e.on∈a∨ops.size≤e.on:=by
     intro L
     induction L with
     | nil=>rintro b _ _ ⟨k,hk,_⟩;simp at hk
     | cons j L ih=>
      rintro b h hs ⟨k,hk,X,C⟩
      simp only[Q5g,Bool.and_eq_true,List.all_eq_true] at h
      by_cases hj:j∈a∨ops.size≤j
      ·refine ih (j::b) h.2 (fun x hx=>by rcases List.mem_cons.1 hx with rfl | hx;exact hj;exact hs x hx) ⟨k,?_,X,C⟩
       rcases List.mem_cons.1 hk with rfl | hk
       ·rcases hj with hj | hj
        ·exact absurd hj C
        ·omega
       ·exact hk
      ·have ae:j<ops.size:=by
        refine Nat.lt_of_not_le fun h=>hj (.inr h)
       refine ⟨j,ae,fun h=>hj (.inl h),fun e R O=>?_⟩
       have:=h.1 e R
       rw[O] at this
       exact hs _ (by simpa using this)
    exact key W [] J.1.1 (by simp) ⟨k0,Q5J Q k0 (by simpa using u),u,z⟩
   obtain ⟨k,c,U,A⟩:=f
   by_cases E:k∈(List.range ops.size).filter fun i=> !listed.getD i true&&((ops[i]?).map (·.after.all fun e=> !Region.binds m e||listed.getD e.on false)).getD false
   ·have D:=List.length_pos_of_mem E
    have:=List.getElem?_eq_none_iff.1 q
    have:=Nat.mod_lt t D
    omega
   ·refine E ?_
    simp only[List.mem_filter,List.mem_range,Bool.and_eq_true,Bool.not_eq_true']
    refine ⟨c,?_,?_⟩
    ·cases hc:listed.getD k true with
     | false=>rfl
     | true=>exact absurd ((B k c).1 hc) U
    ·rw[show ops[k]? =some ops[k] by simp[c]]
     simp only[Option.map_some,Option.getD_some,Array.all_eq_true']
     intro e g
     simp only[Bool.or_eq_true,Bool.not_eq_true']
     cases O:Region.binds m e with
     | false=>exact .inl rfl
     | true=>
      right
      rw[show ops.toList[k]? =some ops[k] by simp[c]] at A
      rcases A e (by simpa using g) O with h | h
      ·have N:=y _ h
       have:=(B e.on N).2 h
       simp only[Array.getD_eq_getD_getElem?] at this⊢
       rw[Array.getElem?_eq_getElem (by omega)] at this⊢
       simpa using this
      ·exact absurd h (by
        have:=Q8M Q k (by simpa using c) e (by rw[show ops.toList[k]? =some ops[k] by simp[c]];simpa using g) O
        simp at this;omega)
theorem Q5c (b:Bool) (ops:Array Oper) (t:Nat) (d:Ut ops.toList=true) (g: ∀m,∃L,A0 m ops.toList L=true):
 (Region.schedule b ops t).Nodup∧(Region.schedule b ops t).length=ops.size∧Cw ops.toList (Region.schedule b ops t):=by
 have key: ∀m t,(Region.linearise m ops t).Nodup∧(Region.linearise m ops t).length=ops.size∧Cw ops.toList (Region.linearise m ops t):=by
  intro m t
  obtain ⟨L,f⟩:=g m
  refine Q7Q m ops d L f _ _ _ _ (by simp) (by simp) ?_ List.nodup_nil (by simp) ?_
  ·intro i e;simp[Array.getD,e]
  ·intro c j a h;simp at h
 unfold Region.schedule
 split<;>exact key _ _
theorem Ys: ∀(ops:List Oper),Xr (R3 ops)=true→ ∀(i j:Nat) (a b:Oper) (d:Nat),ops[i]? =some a→ops[j]? =some b→a.dst=some d→b.dst=some d→i=j
 | [],_,i,j,a,b,d,h,_,_,_=>by simp at h
 | o::c,g,i,j,a,b,d,n,m,r,p=>by
  have f: ∀(k:Nat) (q:Oper),c[k]? =some q→q.dst=some d→d∈R3 c:=by
   intro k q s u
   simp only[R3,List.mem_filterMap]
   exact ⟨q,List.mem_of_getElem? s,u⟩
  have l:Xr (R3 c)=true:=by
   simp only[R3,List.filterMap_cons] at g
   split at g
   ·exact g
   ·simp only[Xr,Bool.and_eq_true] at g;exact g.2
  have e:o.dst=some d→d∉R3 c:=by
   intro v
   simp only[R3,List.filterMap_cons,v,Xr,Bool.and_eq_true,Bool.not_eq_true'] at g
   intro t
   have:=g.1
   simp only[List.contains_eq_mem,decide_eq_false_iff_not] at this
   exact this t
  cases i with
  | zero=>
   simp only[List.getElem?_cons_zero,Option.some.injEq] at n
   subst n
   cases j with
   | zero=>rfl
   | succ j=>exact absurd (f j b (by simpa using m) p) (e r)
  | succ i=>
   cases j with
   | zero=>
    simp only[List.getElem?_cons_zero,Option.some.injEq] at m
    subst m
    exact absurd (f i a (by simpa using n) r) (e p)
   | succ j=>rw[Ys c l i j a b d (by simpa using n) (by simpa using m) r p]
theorem Ip (u:Nat→Value): ∀(S:List Ent) (s:Nat),get (Qe u S) s=(getE S s).at u
 | [],s=>by simp[Qe,get,getE,Ent.at]
 | e::S,0=>rfl
 | e::S,s+1=>Ip u S s
theorem Gr: ∀(S:List Ent) (s:Nat),getE S s=(S[s]?).getD (.val undef)
 | [],s=>by simp[getE]
 | e::S,0=>rfl
 | e::S,s+1=>by simp only[getE,List.getElem?_cons_succ];exact Gr S s
theorem Q1I: ∀(S:List Ent) (n:Nat) (e:Ent),Q2K S n e=S.set n e
 | [],n,e=>by simp[Q2K]
 | x::S,0,e=>rfl
 | x::S,n+1,e=>by simp only[Q2K,List.set_cons_succ,Q1I S n e]
theorem Q4q {x:Nat}: ∀{l:List Nat},x∈l→x∈Q1H l
 | y::l,h=>by
  simp only[Q1H,List.mem_cons,List.mem_filter]
  by_cases e:x=y
  ·exact .inl e
  ·exact .inr ⟨Q4q ((List.mem_cons.1 h).resolve_left e),by simpa using e⟩
theorem Bq {x:Nat}: ∀{l:List Nat},x∈Q1H l→x∈l
 | y::l,h=>by
  simp only[Q1H,List.mem_cons,List.mem_filter] at h⊢
  exact h.imp id fun h=>Bq h.1
theorem Q4y {S:List Ent} {j:Nat}: ∀{l:List Nat} {s:Nat},s∈l→getE S s= .ref j→j∈Q1z S l
 | x::l,s,h,e=>by
  simp only[Q1z,List.mem_append]
  rcases List.mem_cons.1 h with rfl | h
  ·left;rw[e];simp[Q5l]
  ·right;exact Q4y h e
theorem Bn {S:List Ent} {j:Nat}: ∀{l:List Nat},j∈Q1z S l→ ∃s∈l,getE S s= .ref j
 | x::l,h=>by
  simp only[Q1z,List.mem_append] at h
  rcases h with h | h
  ·refine ⟨x,by simp,?_⟩
   cases a:getE S x with
   | val v=>rw[a] at h;simp[Q5l] at h
   | ref k=>rw[a] at h;simp[Q5l] at h;rw[h]
  ·obtain ⟨s,b,e⟩:=Bn h
   exact ⟨s,by simp[b],e⟩
theorem Q2L: ∀(a:List Nat) (c u:Nat→Value) (k:(Nat→Value)→Prop),Ko a c k→ ∃b,k b∧ ∀x,(x∈a→b x=u x)∧(x∉a→b x=c x)
 | [],c,u,k,h=>⟨c,h,fun x=>⟨fun h=>by simp at h,fun _=>rfl⟩⟩
 | j::a,c,u,k,h=>by
  obtain ⟨b,g,d⟩:=Q2L a _ u k (h (u j))
  refine ⟨b,g,fun x=>⟨fun hx=>?_,fun hx=>?_⟩⟩
  ·by_cases f:x∈a
   ·exact (d x).1 f
   ·rw[(d x).2 f]
    rcases List.mem_cons.1 hx with rfl | hx
    ·simp
    ·exact absurd hx f
  ·rw[(d x).2 (fun h=>hx (List.mem_cons_of_mem _ h))]
   have:x≠j:=fun e=>hx (by simp[e])
   simp[this]
theorem Q2N {e:Cs} {u:Nat→Value} {w:World} {a:Prop}: ∀{c:List Nat},Iq e u w a c→(∀j∈c,∀φ,Vf e j=some ([],φ)→φ [] (u j) w)→a
 | [],h,_=>h
 | j::c,h,d=>by
  simp only[Iq] at h
  split at h
  ·rename_i φ f
   exact Q2N (h (d j (by simp) φ f)) fun k b=>d k (by simp[b])
  ·exact Q2N h fun k b=>d k (by simp[b])
theorem Q0m {e:Cs} {u:Nat→Value} {w:World} {a:Prop}: ∀{c:List Nat},Q1V e u w a c→(∀j∈c,∀R φ,Vf e j=some (R,φ)→φ (R.map u) (u j) w)→a
 | [],h,_=>h
 | j::c,h,d=>by
  simp only[Q1V] at h
  split at h
  ·rename_i R φ f
   exact Q0m (h (d j (by simp) R φ f)) fun k b=>d k (by simp[b])
  ·exact Q0m h fun k b=>d k (by simp[b])
theorem Pc {a:Cs} {i j:Nat} {φ:List Nat×(List Value→Value→World→Prop)} (h:i≠j):Vf (a++[(i,φ)]) j=Vf a j:=by
 induction a with
 | nil=>simp[Vf,h]
 | cons p a b=>obtain ⟨k,ψ⟩:=p;simp only[List.cons_append,Vf,b]
theorem Mi {a:Cs} {i:Nat} {φ:List Nat×(List Value→Value→World→Prop)} (h:Vf a i=none):Vf (a++[(i,φ)]) i=some φ:=by
 induction a with
 | nil=>simp[Vf]
 | cons p a b=>
  obtain ⟨k,ψ⟩:=p
  simp only[Vf] at h
  split at h
  ·cases h
  ·rename_i c;simp only[List.cons_append,Vf,c,if_false];exact b h
def Cn (S:List Ent) (i:Nat) (o:Oper):Ent:=match mv o with | some x=>entOf S x | none=> .ref i
def O7 (S:List Ent):Nat→List Oper→List Ent
 | _,[]=>S
 | i,o::a=>O7 (putE S o.dst (Cn S i o)) (i+1) a
theorem Q4J: ∀(a:List Oper) (S:List Ent) (i k:Nat) (o:Oper),a[k]? =some o→
 O7 S i (a.take (k+1))=putE (O7 S i (a.take k)) o.dst (Cn (O7 S i (a.take k)) (i+k) o)
 | [],_,_,_,_,h=>by simp at h
 | x::a,S,i,0,o,h=>by
  simp only[List.getElem?_cons_zero,Option.some.injEq] at h
  subst h
  simp[O7]
 | x::a,S,i,k+1,o,h=>by
  simp only[List.getElem?_cons_succ] at h
  have:=Q4J a (putE S x.dst (Cn S i x)) (i+1) k o h
  simp only[List.take_succ_cons,O7]
  rw[this,show i+1+k=i+(k+1) from by omega]
def Zh (S:List Ent) (D:List Nat):Prop:= ∀e∈S,∀j,e= .ref j→j∈D
theorem Zh.getE {S:List Ent} {D:List Nat} (h:Zh S D) {s j:Nat} (e:Go.Emb.getE S s= .ref j):j∈D:=by
 rw[Gr] at e
 cases a:S[s]? with
 | none=>rw[a] at e;cases e
 | some x=>rw[a] at e;exact h x (List.mem_of_getElem? a) j e
theorem Zh.putE {S:List Ent} {D:List Nat} (h:Zh S D) (d:Option Nat) {e:Ent} (c: ∀j,e= .ref j→j∈D):Zh (Go.Emb.putE S d e) D:=by
 cases d with
 | none=>exact h
 | some d=>
  intro x a j b
  simp only[Go.Emb.putE,Q1I] at a
  rcases List.mem_or_eq_of_mem_set a with a | rfl
  ·exact h x a j b
  ·exact c j b
theorem Zh.mono {S:List Ent} {D D':List Nat} (h:Zh S D) (c: ∀j∈D,j∈D'):Zh S D':=fun e a j b=>c j (h e a j b)
theorem Zh.entOf {S:List Ent} {D:List Nat} (h:Zh S D) (x:Operand) {j:Nat} (e:Go.Emb.entOf S x= .ref j):j∈D:=by
 cases x with
 | tmp t=>exact h.getE e
 | _=>cases e
theorem Q8V {S:List Ent} {D:List Nat} (h:Zh S D) {u a:Nat→Value} (c: ∀j∈D,a j=u j):Qe a S=Qe u S:=by
 unfold Qe
 refine List.map_congr_left fun e b=>?_
 cases e with
 | val v=>rfl
 | ref j=>exact c j (h _ b j rfl)
theorem Q2y {P:Program} {ops:List Oper} {l l':List Value} {o:Oper} (c:Xy o.op=true) (h: ∀s∈R0 ops o++B5 o,get l s=get l' s):runOp P ops l o=runOp P ops l' o:=by
 funext w K
 unfold runOp
 rw[Ed c fun x f=>by
  cases x with
  | tmp s=>exact h s (List.mem_append_right _ (by simp only[B5,List.mem_filterMap];exact ⟨.tmp s,by simpa using f,rfl⟩))
  | _=>rfl]
 cases a:o.guard with
 | none=>rfl
 | some q=>
  obtain ⟨j,b⟩:=q
  simp only
  cases e:(ops[j]?).bind (·.dst) with
  | none=>rfl
  | some d=>simp only;rw[h d (List.mem_append_left _ (by simp[R0,a,e]))]
theorem Q3L {P:Program} {ops:List Oper} {l:List Value} {o:Oper} {w:World} {K d:Value→World→Prop} (c: ∀v w,K v w→d v w) (h:runOp P ops l o w K):runOp P ops l o w d:=by
 unfold runOp at*
 split at h
 ·exact K5 c h
 ·split at h
  ·exact Q0k ((Ls h).imp (fun ⟨a,b⟩=>⟨a,K5 c b⟩) (fun ⟨a,b⟩=>⟨a,c _ _ b⟩))
  ·exact h.elim
theorem Q35 {P:Program} {ops:List Oper} {V1:List Value→World→Prop} {o:Oper} {a:List Oper} {l:List Value} {w:World}
 (h:runOp P ops l o w (fun v w=>Z0 P ops V1 a (put l o.dst v) w)):Z0 P ops V1 (o::a) l w:=by
 simp only[Z0]
 unfold runOp at h
 cases e:o.guard with
 | none=>simp only[e] at h⊢;exact h
 | some q=>
  obtain ⟨j,b⟩:=q
  simp only[e] at h⊢
  split at h
  ·rename_i d c
   first | exact h | (simp only[c];exact h) | (rw[c];exact h)
  ·exact h.elim
structure Whole (P : Program) (ops : List Oper) (T : World → World → Prop) (B : World → Prop) (V1 : List Value → World → Prop) (tail : List Oper) (Φ : Nat → (Nat → Value) → World → Prop) (S : List Ent) (i : Nat) (rest : List Oper) (D : List Nat) : Prop where
  stable : ∀ k o, rest[k]? = some o → mv o = none → ∀ u w w', Φ (i + k) u w → T w w' → Φ (i + k) u w'
  loc : ∀ k o, rest[k]? = some o → mv o = none → ∀ u u', (∀ r ∈ (i + k) :: refs ops (O7 S i (rest.take k)) o, u r = u' r) → Φ (i + k) u = Φ (i + k) u'
  run : ∀ k o, rest[k]? = some o → mv o = none → Xy o.op = true → ∀ u w, B w → (∀ j ∈ refs ops (O7 S i (rest.take k)) o, Φ j u w) →
    runOp P ops (Qe u (O7 S i (rest.take k))) o w (fun v w' => T w w' ∧ ∀ u', (∀ r ∈ refs ops (O7 S i (rest.take k)) o, u' r = u r) → u' (i + k) = v → Φ (i + k) u' w')
  last : ∀ u w, B w → (∀ j ∈ D, Φ j u w) → (∀ k o, rest[k]? = some o → mv o = none → Φ (i + k) u w) → Z0 P ops V1 tail (Qe u (O7 S i rest)) w
theorem Q0G (P:Program) (ops:List Oper) (T:World→World→Prop) (B:World→Prop) (V1:List Value→World→Prop) (tail:List Oper): ∀(f:List Oper) (i:Nat) (S:List Ent) (m:Cs) (done:List Nat),
 Zh S done→(∀j,j∈done→j<i∧ ∃φ,Vf m j=some φ)→(∀j φ,Vf m j=some φ→j<i∧ ∀r∈φ.1,r∈done)→chain P ops T B V1 tail i f S m done→
 ∃Φ:Nat→(Nat→Value)→World→Prop,(∀j R φ,Vf m j=some (R,φ)→Φ j=fun u w=>φ (R.map u) (u j) w)∧Whole P ops T B V1 tail Φ S i f done
 | [],i,S,m,done,J,O,E,h=>by
  refine ⟨fun j u w=>match Vf m j with | some (R,φ)=>φ (R.map u) (u j) w | none=>True,fun j R φ hj=>by simp[hj],⟨by simp,by simp,by simp,?_⟩⟩
  intro u w hB D _
  obtain ⟨p,t,g⟩:=Q2L done _ u _ h
  have q:=Q0m (t w hB) fun j hj R φ N=>by
   have:=D j hj
   simp only[N] at this
   rw[(g j).1 hj,show R.map p=R.map u from List.map_congr_left fun r d=>(g r).1 ((E j _ N).2 r d)];exact this
  rw[Q8V J fun j hj=>(g j).1 hj,Rk] at q
  exact q
 | o::f,i,S,m,done,J,O,E,h=>by
  simp only[chain] at h
  cases y:mv o with
  | some x=>
   simp only[y] at h
   have c:Cn S i o=entOf S x:=by simp[Cn,y]
   obtain ⟨Φ,t,g⟩:=Q0G P ops T B V1 tail f (i+1) _ m done (J.putE _ fun j hj=>J.entOf x hj) (fun j hj=>⟨by have:=(O j hj).1;omega,(O j hj).2⟩) (fun j φ hj=>⟨by have:=(E j φ hj).1;omega,(E j φ hj).2⟩) h
   refine ⟨Φ,t,⟨?_,?_,?_,?_⟩⟩
   ·intro k l b a
    cases k with
    | zero=>simp only[List.getElem?_cons_zero,Option.some.injEq] at b;subst b;rw[y] at a;cases a
    | succ k=>have:=g.stable k l (by simpa using b) a;rwa [show i+1+k=i+(k+1) from by omega] at this
   ·intro k l b a u p L
    cases k with
    | zero=>simp only[List.getElem?_cons_zero,Option.some.injEq] at b;subst b;rw[y] at a;cases a
    | succ k=>
     simp only[List.take_succ_cons,O7,c] at L
     have:=g.loc k l (by simpa using b) a u p (by rwa [show i+1+k=i+(k+1) from by omega])
     rwa [show i+1+k=i+(k+1) from by omega] at this
   ·intro k l b a z u w hB d
    cases k with
    | zero=>simp only[List.getElem?_cons_zero,Option.some.injEq] at b;subst b;rw[y] at a;cases a
    | succ k=>
     simp only[List.take_succ_cons,O7,c] at d⊢
     have:=g.run k l (by simpa using b) a z u w hB d
     rwa [show i+1+k=i+(k+1) from by omega] at this
   ·intro u w hB D U
    simp only[O7,c]
    refine g.last u w hB D fun k l b a=>?_
    have:=U (k+1) l (by simpa using b) a
    rwa [show i+(k+1)=i+1+k from by omega] at this
  | none=>
   have h': ∃(R:List Nat) (φ:List Value→Value→World→Prop),(∀r∈R,r∈refs ops S o)∧(∀xs,Sp T (φ xs))∧
    (Ko (refs ops S o) (fun _=>undef) fun u=> ∀w,B w→Iq m u w (runOp P ops (Qe u S) o w (dk T (φ (R.map u)) w)) (refs ops S o))∧
    chain P ops T B V1 tail (i+1) f (putE S o.dst (.ref i)) (m++[(i,R,φ)]) (done++[i]):=by
    cases Q:Q5W o with
    | true=>
     simp only[y,Q,Q86,Q4e] at h
     obtain ⟨φ,t,g,q⟩:=h
     exact ⟨_,φ,fun _ h=>h,t,g,q⟩
    | false=>
     simp only[y,Q,X0f,Q6I] at h
     obtain ⟨φ,t,g,q⟩:=h
     exact ⟨[],fun _=>φ,by simp,fun _=>t,g,q⟩
   clear h
   obtain ⟨R,φ,V,aa,M,h⟩:=h'
   have W: ∀r∈refs ops S o,r∈done:=fun r d=>by
    obtain ⟨s,_,X⟩:=Bn (Bq d)
    exact J.entOf (.tmp s) X
   have c:Cn S i o= .ref i:=by simp[Cn,y]
   have n:Vf m i=none:=by
    cases D:Vf m i with
    | none=>rfl
    | some ψ=>have:=(E i ψ D).1;omega
   obtain ⟨Φ,t,g⟩:=Q0G P ops T B V1 tail f (i+1) _ (m++[(i,R,φ)]) (done++[i])
    ((J.mono fun j hj=>List.mem_append_left _ hj).putE _ fun j hj=>by cases hj;simp)
    (fun j hj=>by
     rcases List.mem_append.1 hj with hj | hj
     ·obtain ⟨q,ψ,C⟩:=O j hj
      exact ⟨by omega,ψ,by rw[Pc (by omega)];exact C⟩
     ·simp at hj;subst hj;exact ⟨by omega,(R,φ),Mi n⟩)
    (fun j ψ hj=>by
     by_cases e:i=j
     ·subst e
      rw[Mi n] at hj;cases hj
      exact ⟨by omega,fun r d=>List.mem_append_left _ (W r (V r d))⟩
     ·rw[Pc e] at hj
      obtain ⟨q,C⟩:=E j ψ hj
      exact ⟨by omega,fun r d=>List.mem_append_left _ (C r d)⟩) h
   have H:Φ i=fun u w=>φ (R.map u) (u i) w:=t i R φ (Mi n)
   have A: ∀j R' ψ,Vf m j=some (R',ψ)→Φ j=fun u w=>ψ (R'.map u) (u j) w:=fun j R' ψ hj=>t j R' ψ (by rw[Pc (by have:=(E j _ hj).1;omega)];exact hj)
   refine ⟨Φ,A,⟨?_,?_,?_,?_⟩⟩
   ·intro k l b a
    cases k with
    | zero=>
     intro u w w' ha hT
     rw[Nat.add_zero,H] at ha⊢
     exact aa _ _ _ _ ha hT
    | succ k=>have:=g.stable k l (by simpa using b) a;rwa [show i+1+k=i+(k+1) from by omega] at this
   ·intro k l b a u p L
    cases k with
    | zero=>
     simp only[List.getElem?_cons_zero,Option.some.injEq] at b
     subst b
     simp only[List.take_zero,O7,Nat.add_zero] at L
     rw[Nat.add_zero,H]
     funext w
     show φ (R.map u) (u i) w=φ (R.map p) (p i) w
     rw[show R.map u=R.map p from List.map_congr_left fun r d=>L r (List.mem_cons_of_mem _ (V r d)),L i (by simp)]
    | succ k=>
     simp only[List.take_succ_cons,O7,c] at L
     have:=g.loc k l (by simpa using b) a u p (by rwa [show i+1+k=i+(k+1) from by omega])
     rwa [show i+1+k=i+(k+1) from by omega] at this
   ·intro k l b a z u w hB d
    cases k with
    | zero=>
     simp only[List.getElem?_cons_zero,Option.some.injEq] at b
     subst b
     simp only[List.take_zero,O7,Nat.add_zero] at d⊢
     obtain ⟨p,q,C⟩:=Q2L _ _ u _ M
     have h5:=Q2N (q w hB) fun j hj ψ hψ=>by
      have h6:=d j hj
      rw[A j [] ψ hψ] at h6
      rw[(C j).1 hj];exact h6
     rw[Q2y z (l':=Qe u S)] at h5
     ·refine Q3L ?_ h5
      rintro v w' ⟨hT,hf⟩
      refine ⟨hT,fun Y Z hi=>?_⟩
      rw[H]
      show φ (R.map Y) (Y i) w'
      rw[hi,show R.map Y=R.map p from List.map_congr_left fun r d=>by rw[Z r (V r d),(C r).1 (V r d)]]
      exact hf
     ·intro s Q
      rw[Ip,Ip]
      cases X:getE S s with
      | val v=>rfl
      | ref j=>exact (C j).1 (Q4q (Q4y Q X))
    | succ k=>
     simp only[List.take_succ_cons,O7,c] at d⊢
     have:=g.run k l (by simpa using b) a z u w hB d
     rwa [show i+1+k=i+(k+1) from by omega] at this
   ·intro u w hB D U
    simp only[O7,c]
    refine g.last u w hB (fun j hj=>?_) fun k l b a=>?_
    ·rcases List.mem_append.1 hj with hj | hj
     ·exact D j hj
     ·simp at hj;subst hj
      have:=U 0 o (by simp) y
      simpa using this
    ·have:=U (k+1) l (by simpa using b) a
     rwa [show i+(k+1)=i+1+k from by omega] at this
def Qu (os:List Oper) (S0:List Ent) (q:Nat):Ent:=
 match os[q]? with
 | some o=>Cn (O7 S0 0 (os.take q)) q o
 | none=> .val undef
theorem Q7W {os:List Oper} {S0:List Ent} {q:Nat} {o:Oper} (h:os[q]? =some o):O7 S0 0 (os.take (q+1))=putE (O7 S0 0 (os.take q)) o.dst (Qu os S0 q):=by
 rw[Q4J os S0 0 q o h]
 simp[Qu,h]
theorem Q79 (S:List Ent) (d:Option Nat) (e:Ent):(putE S d e).length=S.length:=by
 cases d with
 | none=>rfl
 | some d=>simp[putE,Q1I]
theorem Ki (os:List Oper) (S0:List Ent): ∀q,q≤os.length→(O7 S0 0 (os.take q)).length=S0.length
 | 0,_=>by simp[O7]
 | q+1,h=>by rw[Q7W (List.getElem?_eq_getElem (by omega)),Q79,Ki os S0 q (by omega)]
theorem Sy {os:List Oper} {S0:List Ent} (n:Xr (R3 os)=true) (r: ∀d∈R3 os,d<S0.length): ∀q,q≤os.length→
 (∀p,p<q→ ∀o d,os[p]? =some o→o.dst=some d→(O7 S0 0 (os.take q))[d]? =some (Qu os S0 p))∧
  (∀s,(∀p,p<q→ ∀o,os[p]? =some o→o.dst≠some s)→(O7 S0 0 (os.take q))[s]? =S0[s]?)
 | 0,_=>⟨fun p i=>absurd i (by omega),fun s _=>by simp[O7]⟩
 | q+1,h=>by
  obtain ⟨u,t⟩:=Sy n r q (by omega)
  have k:os[q]? =some os[q]:=List.getElem?_eq_getElem (by omega)
  have g:=Ki os S0 q (by omega)
  rw[Q7W k]
  cases c:os[q].dst with
  | none=>
   refine ⟨fun p i o d a b=>?_,fun s l=>t s fun p i=>l p (by omega)⟩
   by_cases e:p=q
   ·subst e;rw[k] at a;cases a;rw[c] at b;cases b
   ·exact u p (by omega) o d a b
  | some j=>
   have m:j<S0.length:=r j (by simp only[R3,List.mem_filterMap];exact ⟨os[q],List.getElem_mem _,c⟩)
   simp only[putE,Q1I]
   refine ⟨fun p i o d a b=>?_,fun s l=>?_⟩
   ·by_cases e:p=q
    ·subst e;rw[k] at a;cases a;rw[c] at b;cases b
     rw[List.getElem?_set_self (by rw[g];exact m)]
    ·have f:j≠d:=by
      rintro rfl
      exact e (Ys os n p q o os[q] j a k b c)
     rw[List.getElem?_set_ne f]
     exact u p (by omega) o d a b
   ·have f:j≠s:=fun e=>l q (by omega) os[q] k (by rw[c,e])
    rw[List.getElem?_set_ne f]
    exact t s fun p i=>l p (by omega)
def Ny (os:List Oper) (p:Nat):Bool:=
 match os[p]? with
 | some o=>match mv o with
  | some (.tmp s)=> !(R3 os).contains s
  | some _=>true
  | none=>false
 | none=>false
theorem X38 {P:Program} {o:Oper} {x:Operand} (h:mv o=some x) (l:List Value) (w:World) (K:Value→World→Prop):o.guard=none∧W2 P l o w K=K (ev l x) w:=by
 unfold mv at h
 split at h
 ·cases h
 ·rename_i b
  refine ⟨b,?_⟩
  split at h
  ·rename_i y a;cases h;simp only[W2,a]
  ·rename_i y a;cases h;simp only[W2,a]
  ·cases h
theorem Q7e {P:Program} {ops:List Oper} {V1:List Value→World→Prop} {o:Oper} {c a:List Oper} {l l':List Value} {w:World} (p:Xy o.op=true) (n: ∀s∈R0 ops o++B5 o,get l' s=get l s)
 (f: ∀v w,Z0 P ops V1 c (put l o.dst v) w→Z0 P ops V1 a (put l' o.dst v) w) (h:Z0 P ops V1 (o::c) l w):Z0 P ops V1 (o::a) l' w:=by
 have m:W2 P l' o=W2 P l o:=Ed p fun x r=>by
  cases x with
  | tmp s=>exact n s (List.mem_append_right _ (by simp only[B5,List.mem_filterMap];exact ⟨.tmp s,by simpa using r,rfl⟩))
  | _=>rfl
 simp only[Z0] at h⊢
 cases e:o.guard with
 | none=>simp only[e] at h⊢;rw[m];exact K5 f h
 | some q=>
  obtain ⟨j,b⟩:=q
  simp only[e] at h⊢
  cases g:(ops[j]?).bind (·.dst) with
  | none=>simp only[g] at h⊢;exact f _ _ h
  | some d=>
   simp only[g] at h⊢
   rw[n d (List.mem_append_left _ (by simp[R0,e,g])),m]
   exact Q0k ((Ls h).imp (fun ⟨k,i⟩=>⟨k,K5 f i⟩) (fun ⟨k,i⟩=>⟨k,f _ _ i⟩))
structure At (os : List Oper) (l0 : List Value) (pre : List Nat) (l : List Value) (u : Nat → Value) : Prop where
  len : l.length = l0.length
  done : ∀ p ∈ pre, ∀ o d, os[p]? = some o → o.dst = some d → l[d]? = some ((Qu os (l0.map .val) p).at u)
  rest : ∀ s, (∀ p ∈ pre, ∀ o, os[p]? = some o → o.dst ≠ some s) → l[s]? = l0[s]?
  refs : ∀ p ∈ pre, ∀ r, Qu os (l0.map .val) p = .ref r → r ∈ pre ∧ ∃ o, os[r]? = some o ∧ mv o = none
theorem X4y {P:Program} {ops os:List Oper} {T:World→World→Prop} {B:World→Prop} {V1:List Value→World→Prop} {m:Nat} {C:List Value} {Φ:Nat→(Nat→Value)→World→Prop}
 (bit:Nat→Nat→Bool) (bv: ∀o∈os,Xy o.op=true) (hn:Xr (R3 os)=true) (hd: ∀d∈R3 os,d<C.length)
 (ad: ∀p q a b,p<q→os[p]? =some a→os[q]? =some b→(Qj a b||Qj b a)=true→bit p q=true)
 (hg: ∀q o j b,os[q]? =some o→o.guard=some (j,b)→ ∃p,p<q∧os[p]? =ops[j]? ∧bit p q=true)
 (hm:m≤os.length) (ak: ∀q,m≤q→q<os.length→ ∀p,p<q→bit p q=true∨(p<m∧Ny os p=true))
 (hT: ∀w w',B w→T w w'→B w') (hW:Whole P ops T B V1 (os.drop m) Φ (C.map .val) 0 (os.take m) [])
 (L:List Nat) (H:L.Nodup) (bl:L.length=os.length) (ab: ∀q∈L,q<os.length)
 (hC: ∀c q f,L=c++q::f→ ∀p,bit p q=true→p<os.length→p∈c):
 ∀(f c:List Nat),L=c++f→(∀q∈c,q<m)→ ∀(l:List Value) (u:Nat→Value) (w:World),At os C c l u→B w→
  (∀r∈c,∀o,os[r]? =some o→mv o=none→Φ r u w∧ ∀j∈refs ops (O7 (C.map .val) 0 (os.take r)) o,j∈c)→Z0 P ops V1 (f.filterMap (os[·]?)) l w:=by
 have ba: ∀d∈R3 os,d<(C.map Ent.val).length:=by simpa using hd
 have a4: ∀q,q≤m→(os.take m).take q=os.take q:=fun q hq=>by rw[List.take_take,Nat.min_eq_left hq]
 have X: ∀q,q<m→(os.take m)[q]? =os[q]? :=fun q hq=>by rw[List.getElem?_take_of_lt hq]
 -- when all of the first part is done
 have cs: ∀(c f:List Nat),L=c++f→(∀q∈c,q<m)→(∀q,q<m→q∈c)→ ∀l u w,At os C c l u→B w→
  (∀r∈c,∀o,os[r]? =some o→mv o=none→Φ r u w∧ ∀j∈refs ops (O7 (C.map .val) 0 (os.take r)) o,j∈c)→Z0 P ops V1 (f.filterMap (os[·]?)) l w:=by
  intro c f E D an l u w hA hB hΦ
  have bz: ∀(f c:List Nat),L=c++f→m≤c.length→(∀q,q∈c↔q<c.length)→f.filterMap (os[·]?)=os.drop c.length:=by
   intro f
   induction f with
   | nil=>
    intro c E _ _
    rw[List.append_nil] at E
    rw[←E,bl];simp
   | cons q f ih=>
    intro c E c2 ay
    have cr:q∉c:=by
     rw[E] at H
     intro h
     exact (List.nodup_append.1 H).2.2 q h q (by simp) rfl
    have cu:c.length≤q:=Nat.le_of_not_lt fun h=>cr ((ay q).2 h)
    have V:=ab q (by rw[E];simp)
    have cw:q=c.length:=by
     refine Nat.le_antisymm (Nat.le_of_not_lt fun h=>?_) cu
     have:=hC c q f E c.length ((ak q (by omega) V _ h).resolve_right (by omega)) (by omega)
     have:=(ay _).1 this
     omega
    subst cw
    rw[List.filterMap_cons,List.getElem?_eq_getElem V]
    simp only
    rw[ih (c++[c.length]) (by rw[E];simp) (by simp;omega) (by intro x;simp only[List.mem_append,ay,List.mem_singleton,List.length_append,List.length_cons,List.length_nil];omega)]
    simp only[List.length_append,List.length_cons,List.length_nil]
    rw[←List.drop_eq_getElem_cons V]
  have bg:c.length=m:=by
   have J:=I0 m c (by rw[E] at H;exact (List.nodup_append.1 H).1) D
   have R:=Wp m c an
   omega
  have J:=bz f c E (by omega) (fun q=>by rw[bg];exact ⟨D q,an q⟩)
  rw[J,bg]
  have R:=hW.last u w hB (by simp) fun k o hk t=>by
   have a3:k<m:=by
    have:=(List.getElem?_eq_some_iff.1 hk).1
    simp at this;omega
   rw[Nat.zero_add]
   rw[X k a3] at hk
   exact (hΦ k (an k a3) o hk t).1
  have h3:l=Qe u (O7 (C.map .val) 0 (os.take m)):=by
   obtain ⟨g1,g2⟩:=Sy hn ba m hm
   apply List.ext_getElem?
   intro s
   rw[Qe,List.getElem?_map]
   by_cases hs: ∃p,p<m∧ ∃o,os[p]? =some o∧o.dst=some s
   ·obtain ⟨p,hp,o,i,z⟩:=hs
    rw[hA.done p (an p hp) o s i z,g1 p hp o s i z];rfl
   ·have ae: ∀p,p<m→ ∀o,os[p]? =some o→o.dst≠some s:=fun p hp o i z=>hs ⟨p,hp,o,i,z⟩
    rw[hA.rest s (fun p hp=>ae p (D p hp)),g2 s ae,List.getElem?_map]
    cases C[s]? <;>rfl
  rw[h3];exact R
 -- moves that come late, among the tail
 have b8: ∀(f c:List Nat) (k:Nat),L=c++f→m≤k→k≤os.length→(∀q,m≤q→(q∈c↔q<k))→(∀p∈f,p<m→Ny os p=true)→
  ∀(l lf:List Value) (w:World),l.length=C.length→lf.length=C.length→(∀s,(∀p∈f,p<m→ ∀o,os[p]? =some o→o.dst≠some s)→l[s]? =lf[s]?)→
   (∀p∈f,p<m→ ∀o d x,os[p]? =some o→mv o=some x→o.dst=some d→lf[d]? =some (ev C x))→(∀s,(R3 os).contains s=false→l[s]? =C[s]?)→
   Z0 P ops V1 (os.drop k) lf w→Z0 P ops V1 (f.filterMap (os[·]?)) l w:=by
  intro f
  induction f with
  | nil=>
   intro c k E a6 bu ac _ l lf w hl a8 ao _ _ h
   rw[List.append_nil] at E
   have hk:k=os.length:=by
    refine Nat.le_antisymm bu (Nat.le_of_not_lt fun D=>?_)
    have cp:k∉c:=fun e=>by have:=(ac k a6).1 e;omega
    have J:=I0 os.length (k::c) (List.nodup_cons.2 ⟨cp,E▸H⟩) (fun x hx=>by
     rcases List.mem_cons.1 hx with rfl | hx
     ·exact D
     ·exact ab x (by rw[E];exact hx))
    simp at J
    rw[E] at bl;omega
   have:l=lf:=List.ext_getElem? fun s=>ao s (by simp)
   rw[this]
   rw[hk,List.drop_length] at h
   exact h
  | cons q f ih=>
   intro c k E a6 bu ac al l lf w hl a8 ao av Y h
   have O:q∉c:=by
    rw[E] at H
    intro h
    exact (List.nodup_append.1 H).2.2 q h q (by simp) rfl
   have ci:q∉f:=by
    rw[E] at H
    exact (List.nodup_cons.1 (List.nodup_append.1 H).2.1).1
   have V:=ab q (by rw[E];simp)
   have A:os[q]? =some os[q]:=List.getElem?_eq_getElem V
   have ch:L=(c++[q])++f:=by rw[E];simp
   rw[List.filterMap_cons,A]
   simp only
   by_cases Z:q<m
   ·-- a late move
    have D:=al q (by simp) Z
    unfold Ny at D
    rw[A] at D
    simp only at D
    cases t:mv os[q] with
    | none=>rw[t] at D;cases D
    | some x=>
     rw[t] at D
     have hx:ev l x=ev C x:=by
      cases x with
      | tmp s=>
       simp only[Bool.not_eq_true'] at D
       simp only[ev,get,List.getD_eq_getElem?_getD,Y s D]
      | _=>rfl
     obtain ⟨bb,a2⟩:=X38 (P:=P) t l w (fun v w=>Z0 P ops V1 (f.filterMap (os[·]?)) (put l os[q].dst v) w)
     simp only[Z0,bb]
     rw[a2,hx]
     refine ih (c++[q]) k ch a6 bu (fun q' a0=>?_) (fun p hp=>al p (by simp[hp])) _ lf w ?_ a8 (fun s hs=>?_) (fun p hp=>av p (by simp[hp])) (fun s hs=>?_) h
     ·rw[←ac q' a0];simp only[List.mem_append,List.mem_singleton]
      exact ⟨fun e=>e.resolve_right (by omega), .inl⟩
     ·cases g:os[q].dst<;>simp[put,hl]
     ·cases g:os[q].dst with
      | none=>
       refine ao s fun p hp M o i=>?_
       rcases List.mem_cons.1 hp with rfl | hp
       ·rw[A] at i;cases i;rw[g];simp
       ·exact hs p hp M o i
      | some d=>
       have ap:d<C.length:=hd d (by simp only[R3,List.mem_filterMap];exact ⟨os[q],List.getElem_mem _,g⟩)
       simp only[put]
       by_cases e:d=s
       ·subst e
        rw[List.getElem?_set_self (by rw[hl];exact ap)]
        exact (av q (by simp) Z os[q] d x A t g).symm
       ·rw[List.getElem?_set_ne e]
        refine ao s fun p hp M o i=>?_
        rcases List.mem_cons.1 hp with rfl | hp
        ·rw[A] at i;cases i;rw[g];simpa using e
        ·exact hs p hp M o i
     ·cases g:os[q].dst with
      | none=>exact Y s hs
      | some d=>
       have ai:(R3 os).contains d=true:=by
        rw[List.contains_iff_mem];simp only[R3,List.mem_filterMap];exact ⟨os[q],List.getElem_mem _,g⟩
       simp only[put]
       rw[List.getElem?_set_ne (by rintro rfl;rw[hs] at ai;cases ai)]
       exact Y s hs
   ·have Z:m≤q:=by omega
    have cm:q=k:=by
     have J:k≤q:=Nat.le_of_not_lt fun e=>O ((ac q Z).2 e)
     refine Nat.le_antisymm (Nat.le_of_not_lt fun e=>?_) J
     have:=hC c q f E k ((ak q Z V k e).resolve_right (by omega)) (by omega)
     have:=(ac k a6).1 this
     omega
    subst cm
    rw[List.drop_eq_getElem_cons V] at h
    have b0: ∀p∈f,p<m→bit p q=true→False:=fun p hp M hb=>by
     have:=hC c q f E p hb (by omega)
     rw[E] at H
     exact (List.nodup_append.1 H).2.2 p this p (by simp[hp]) rfl
    refine Q7e (bv _ (List.getElem_mem _)) (fun s hs=>?_) (fun v w' hv=>?_) h
    ·have:l[s]? =lf[s]? :=ao s fun p hp M o i z=>by
      rcases List.mem_cons.1 hp with rfl | hp
      ·omega
      refine b0 p hp M ?_
      rcases List.mem_append.1 hs with hs | hs
      ·unfold R0 at hs
       split at hs
       ·simp at hs
       ·rename_i j b bj
        split at hs
        ·rename_i d bq
         simp only[List.mem_singleton] at hs
         subst hs
         obtain ⟨p',aq,bk,hb⟩:=hg q os[q] j b A bj
         obtain ⟨o',bp,b7⟩:=Option.bind_eq_some_iff.1 bq
         have:=Ys os hn p' p o' o s (by rw[bk,bp]) i b7 z
         subst this;exact hb
        ·simp at hs
      ·exact ad p q o os[q] (by omega) i A (by simp only[Qj,z,Bool.or_eq_true];left;left;simpa using hs)
     simp only[get,List.getD_eq_getElem?_getD,this]
    ·refine ih (c++[q]) (q+1) ch (by omega) (by omega) (fun q' a0=>?_) (fun p hp=>al p (by simp[hp])) _ _ w' ?_ ?_ (fun s hs=>?_) (fun p hp M o d x i a9 z=>?_) (fun s hs=>?_) hv
     ·simp only[List.mem_append,List.mem_singleton,ac q' a0];omega
     ·cases g:os[q].dst<;>simp[put,hl]
     ·cases g:os[q].dst<;>simp[put,a8]
     ·have hb:l[s]? =lf[s]? ∨os[q].dst=some s:=by
       left
       refine ao s fun p hp M o i=>?_
       rcases List.mem_cons.1 hp with rfl | hp
       ·omega
       ·exact hs p hp M o i
      cases g:os[q].dst with
      | none=>
       rcases hb with hb | hb
       ·exact hb
       ·rw[g] at hb;cases hb
      | some d=>
       simp only[put]
       by_cases e:d=s
       ·subst e
        have ap:d<C.length:=hd d (by simp only[R3,List.mem_filterMap];exact ⟨os[q],List.getElem_mem _,g⟩)
        rw[List.getElem?_set_self (by rw[hl];exact ap),List.getElem?_set_self (by rw[a8];exact ap)]
       ·rw[List.getElem?_set_ne e,List.getElem?_set_ne e]
        rcases hb with hb | hb
        ·exact hb
        ·rw[g] at hb;cases hb;exact absurd rfl e
     ·have cf:=av p (by simp[hp]) M o d x i a9 z
      cases g:os[q].dst with
      | none=>exact cf
      | some d'=>
       have aa:d'≠d:=by
        rintro rfl
        have:=Ys os hn p q o os[q] d' i A z g
        omega
       simp only[put]
       rw[List.getElem?_set_ne aa];exact cf
     ·cases g:os[q].dst with
      | none=>exact Y s hs
      | some d=>
       have ai:(R3 os).contains d=true:=by
        rw[List.contains_iff_mem];simp only[R3,List.mem_filterMap];exact ⟨os[q],List.getElem_mem _,g⟩
       simp only[put]
       rw[List.getElem?_set_ne (by rintro rfl;rw[hs] at ai;cases ai)]
       exact Y s hs
 intro f
 induction f with
 | nil=>
  intro c E D l u w hA hB hΦ
  refine cs c [] E D ?_ l u w hA hB hΦ
  intro q hq
  rw[List.append_nil] at E
  refine Classical.byContradiction fun aw=>?_
  have J:=I0 os.length (q::c) (List.nodup_cons.2 ⟨aw,E▸H⟩) (fun k hk=>by
   rcases List.mem_cons.1 hk with rfl | hk
   ·omega
   ·exact ab k (by rw[E];exact hk))
  simp at J
  rw[E] at bl;omega
 | cons q f ih=>
  intro c E D l u w hA hB hΦ
  have O:q∉c:=by
   rw[E] at H
   intro h
   exact (List.nodup_append.1 H).2.2 q h q (by simp) rfl
  have V:=ab q (by rw[E];simp)
  by_cases Z:m≤q
  ·-- the tail begins
   have am: ∀p,p<m→p∉c→Ny os p=true:=fun p hp br=>by
    rcases ak q Z V p (by omega) with h | h
    ·exact absurd (hC c q f E p h (by omega)) br
    ·exact h.2
   have bi: ∀p,Ny os p=true→ ∀o,os[p]? =some o→ ∃x,mv o=some x∧ ∀s,x= .tmp s→(R3 os).contains s=false:=by
    intro p hp o i
    unfold Ny at hp
    rw[i] at hp
    simp only at hp
    cases N:mv o with
    | none=>rw[N] at hp;cases hp
    | some x=>
     refine ⟨x,rfl,fun s hs=>?_⟩
     subst hs
     rw[N] at hp;simpa using hp
   obtain ⟨g1,g2⟩:=Sy hn ba m hm
   have bd: ∀s,(R3 os).contains s=false→ ∀(p:Nat) o,os[p]? =some o→o.dst≠some s:=by
    intro s hs p o i z
    have:(R3 os).contains s=true:=by
     rw[List.contains_iff_mem];simp only[R3,List.mem_filterMap]
     exact ⟨o,List.mem_of_getElem? i,z⟩
    rw[hs] at this;cases this
   refine b8 (q::f) c m E (Nat.le_refl _) hm (fun q' a0=>⟨fun e=>D q' e,fun e=>absurd a0 (by omega)⟩) (fun p hp M=>am p M fun e=>by
    rw[E] at H
    exact (List.nodup_append.1 H).2.2 p e p hp rfl) l (Qe u (O7 (C.map .val) 0 (os.take m))) w hA.len (by simp[Qe,Ki os _ m hm]) (fun s hs=>?_) (fun p hp M o d x i a9 z=>?_) (fun s hs=>?_) ?_
   ·rw[Qe,List.getElem?_map]
    by_cases ar: ∃p,p<m∧ ∃o,os[p]? =some o∧o.dst=some s
    ·obtain ⟨p,hp,o,i,z⟩:=ar
     by_cases U:p∈c
     ·rw[hA.done p U o s i z,g1 p hp o s i z];rfl
     ·exfalso
      have cc:p∈L:=by
       refine Classical.byContradiction fun aw=>?_
       have J:=I0 os.length (p::L) (List.nodup_cons.2 ⟨aw,H⟩) (fun k hk=>by
        rcases List.mem_cons.1 hk with rfl | hk
        ·omega
        ·exact ab k hk)
       simp at J;omega
      rw[E] at cc
      rcases List.mem_append.1 cc with h | h
      ·exact U h
      ·exact hs p h hp o i z
    ·have ae: ∀p,p<m→ ∀o,os[p]? =some o→o.dst≠some s:=fun p hp o i z=>ar ⟨p,hp,o,i,z⟩
     rw[hA.rest s (fun p hp=>ae p (D p hp)),g2 s ae,List.getElem?_map]
     cases C[s]? <;>rfl
   ·have U:p∉c:=fun e=>by
     rw[E] at H
     exact (List.nodup_append.1 H).2.2 p e p hp rfl
    rw[Qe,List.getElem?_map,g1 p M o d i z]
    simp only[Option.map_some,Option.some.injEq]
    have W:Qu os (C.map .val) p=entOf (O7 (C.map .val) 0 (os.take p)) x:=by simp[Qu,i,Cn,a9]
    rw[W]
    obtain ⟨x',cd,cn⟩:=bi p (am p M U) o i
    rw[a9] at cd;cases cd
    cases x with
    | tmp s=>
     have hs:=cn s rfl
     obtain ⟨_,k2⟩:=Sy (S0:=C.map .val) hn ba p (by omega)
     simp only[entOf]
     rw[Gr,k2 s (fun p' _ o' bp=>bd s hs p' o' bp),List.getElem?_map]
     simp only[ev,get,List.getD_eq_getElem?_getD]
     cases C[s]? <;>rfl
    | _=>rfl
   ·exact hA.rest s fun p _ o i=>bd s hs p o i
   ·refine hW.last u w hB (by simp) fun k o hk t=>?_
    have a3:k<m:=by
     have:=(List.getElem?_eq_some_iff.1 hk).1
     simp at this;omega
    rw[Nat.zero_add]
    rw[X k a3] at hk
    refine (hΦ k (Classical.byContradiction fun br=>?_) o hk t).1
    obtain ⟨x,hx,_⟩:=bi k (am k a3 br) o hk
    rw[t] at hx;cases hx
  ·have Z:q<m:=by omega
   have A:os[q]? =some os[q]:=List.getElem?_eq_getElem V
   obtain ⟨g1,g2⟩:=Sy (S0:=C.map .val) hn ba q (by omega)
   -- what a slot holds that this operation reads
   have af: ∀s,(∃p o,os[p]? =some o∧o.dst=some s∧p<q∧bit p q=true)∨s∈B5 os[q]→
    get l s=(getE (O7 (C.map .val) 0 (os.take q)) s).at u∧ ∀r,getE (O7 (C.map .val) 0 (os.take q)) s= .ref r→r∈c∧ ∃o,os[r]? =some o∧mv o=none:=by
    intro s hs
    have ae:(∀p∈c,∀o,os[p]? =some o→o.dst≠some s)→(∀p,p<q→ ∀o,os[p]? =some o→o.dst≠some s)→
     get l s=(getE (O7 (C.map .val) 0 (os.take q)) s).at u∧ ∀r,getE (O7 (C.map .val) 0 (os.take q)) s= .ref r→r∈c∧ ∃o,os[r]? =some o∧mv o=none:=by
     intro J R
     rw[Gr,g2 s R,List.getElem?_map]
     simp only[get,List.getD_eq_getElem?_getD,hA.rest s J]
     cases C[s]? with
     | none=>exact ⟨rfl,fun r hr=>by cases hr⟩
     | some v=>exact ⟨rfl,fun r hr=>by cases hr⟩
    have bh: ∀p o,os[p]? =some o→o.dst=some s→p<q→p∈c→
     get l s=(getE (O7 (C.map .val) 0 (os.take q)) s).at u∧ ∀r,getE (O7 (C.map .val) 0 (os.take q)) s= .ref r→r∈c∧ ∃o,os[r]? =some o∧mv o=none:=by
     intro p o hp i aq U
     rw[Gr,g1 p aq o s hp i]
     simp only[get,List.getD_eq_getElem?_getD,hA.done p U o s hp i,Option.getD_some]
     first | exact ⟨rfl,hA.refs p U⟩ | exact ⟨trivial,hA.refs p U⟩
    rcases hs with ⟨p,o,hp,i,aq,hb⟩ | hs
    ·exact bh p o hp i aq (hC c q f E p hb (by omega))
    ·by_cases ar: ∃(p:Nat) (o:Oper),os[p]? =some o∧o.dst=some s
     ·obtain ⟨p,o,hp,i⟩:=ar
      have cz:=(List.getElem?_eq_some_iff.1 hp).1
      have Y: ∀p' o',os[p']? =some o'→o'.dst=some s→p'=p:=fun p' o' J R=>Ys os hn p' p o' o s J hp R i
      rcases Nat.lt_trichotomy p q with h | h | h
      ·have hb:=ad p q o os[q] h hp A (by simp only[Qj,i,Bool.or_eq_true];left;left;simpa using hs)
       exact bh p o hp i h (hC c q f E p hb (by omega))
      ·subst h
       exact ae (fun p' aj o' J R=>by rw[Y p' o' J R] at aj;exact O aj) (fun p' aj o' J R=>by rw[Y p' o' J R] at aj;omega)
      ·refine ae (fun p' aj o' J R=>?_) (fun p' aj o' J R=>by rw[Y p' o' J R] at aj;omega)
       have e:=Y p' o' J R
       subst e
       have hb:=ad q p' os[q] o' h A J (by simp only[Qj,R,Bool.or_eq_true];right;left;simpa using hs)
       obtain ⟨p1,p2,U⟩:=List.append_of_mem aj
       have:=hC p1 p' (p2++q::f) (by rw[E,U];simp) q hb V
       exact O (by rw[U];exact List.mem_append_left _ this)
     ·exact ae (fun p _ o J R=>ar ⟨p,o,J,R⟩) (fun p _ o J R=>ar ⟨p,o,J,R⟩)
   have bm: ∀s∈R0 ops os[q]++B5 os[q],(∃p o,os[p]? =some o∧o.dst=some s∧p<q∧bit p q=true)∨s∈B5 os[q]:=by
    intro s hs
    rcases List.mem_append.1 hs with hs | hs
    ·left
     unfold R0 at hs
     split at hs
     ·simp at hs
     ·rename_i j b bj
      split at hs
      ·rename_i d bq
       simp only[List.mem_singleton] at hs
       subst hs
       obtain ⟨p,aq,bk,hb⟩:=hg q os[q] j b A bj
       obtain ⟨o,i,z⟩:=Option.bind_eq_some_iff.1 bq
       exact ⟨p,o,by rw[bk,i],z,aq,hb⟩
      ·simp at hs
    ·exact .inr hs
   have az:=X q Z
   rw[A] at az
   rw[List.filterMap_cons,A]
   simp only
   -- the state behind it
   have step: ∀(v:Value) (u':Nat→Value) (w':World),(∀p∈c,(Qu os (C.map .val) p).at u'=(Qu os (C.map .val) p).at u)→v=(Qu os (C.map .val) q).at u'→
    (∀r,Qu os (C.map .val) q= .ref r→r∈q::c∧ ∃o,os[r]? =some o∧mv o=none)→B w'→(∀r∈q::c,∀o,os[r]? =some o→mv o=none→Φ r u' w'∧ ∀j∈refs ops (O7 (C.map .val) 0 (os.take r)) o,j∈q::c)→
    Z0 P ops V1 (f.filterMap (os[·]?)) (put l os[q].dst v) w':=by
    intro v u' w' hu hv hr ct b2
    have Q: ∀x,x∈c++[q]↔x∈q::c:=by intro x;simp[or_comm]
    refine ih (c++[q]) (by rw[E];simp) (fun x hx=>by rcases List.mem_cons.1 ((Q x).1 hx) with rfl | hx;exact Z;exact D x hx) _ u' w' ?_ ct (fun r hr o i N=>⟨(b2 r ((Q r).1 hr) o i N).1,fun j hj=>(Q j).2 ((b2 r ((Q r).1 hr) o i N).2 j hj)⟩)
    have a1: ∀p∈c++[q],∀r,Qu os (C.map .val) p= .ref r→r∈c++[q]∧ ∃o,os[r]? =some o∧mv o=none:=by
     intro p hp r bn
     rcases List.mem_cons.1 ((Q p).1 hp) with rfl | hp
     ·exact ⟨(Q r).2 (hr r bn).1,(hr r bn).2⟩
     ·obtain ⟨J,R⟩:=hA.refs p hp r bn
      exact ⟨List.mem_append_left _ J,R⟩
    cases g:os[q].dst with
    | none=>
     refine ⟨hA.len,?_,?_,a1⟩
     ·intro p hp o d i z
      rcases List.mem_cons.1 ((Q p).1 hp) with rfl | hp
      ·rw[A] at i;cases i;rw[g] at z;cases z
      ·rw[hu p hp];exact hA.done p hp o d i z
     ·intro s hs;exact hA.rest s fun p hp=>hs p (List.mem_append_left _ hp)
    | some d0=>
     have ap:d0<C.length:=hd d0 (by simp only[R3,List.mem_filterMap];exact ⟨os[q],List.getElem_mem _,g⟩)
     refine ⟨by simp[put,hA.len],?_,?_,a1⟩
     ·intro p hp o d i z
      rcases List.mem_cons.1 ((Q p).1 hp) with rfl | hp2
      ·rw[A] at i;cases i
       rw[g] at z;cases z
       simp only[put]
       rw[List.getElem?_set_self (by rw[hA.len];exact ap),hv]
      ·have aa:d0≠d:=by
        rintro rfl
        have:=Ys os hn p q o os[q] d0 i A z g
        subst this;exact O hp2
       simp only[put]
       rw[List.getElem?_set_ne aa,hu p hp2]
       exact hA.done p hp2 o d i z
     ·intro s hs
      have aa:d0≠s:=fun e=>hs q (by simp) os[q] A (by rw[g,e])
      simp only[put]
      rw[List.getElem?_set_ne aa]
      exact hA.rest s fun p hp=>hs p (List.mem_append_left _ hp)
   cases t:mv os[q] with
   | some x=>
    have W:Qu os (C.map .val) q=entOf (O7 (C.map .val) 0 (os.take q)) x:=by simp[Qu,A,Cn,t]
    -- a move: what the operand holds
    have hx:ev l x=(entOf (O7 (C.map .val) 0 (os.take q)) x).at u∧ ∀r,entOf (O7 (C.map .val) 0 (os.take q)) x= .ref r→r∈c∧ ∃o,os[r]? =some o∧mv o=none:=by
     cases x with
     | tmp s=>
      have hs:s∈B5 os[q]:=by
       unfold mv at t
       split at t
       ·cases t
       ·simp only[B5,List.mem_filterMap]
        split at t
        ·rename_i y hy;cases t;exact ⟨.tmp s,by rw[hy];simp[Op.operands],rfl⟩
        ·rename_i y hy;cases t;exact ⟨.tmp s,by rw[hy];simp[Op.operands],rfl⟩
        ·cases t
      exact af s (.inr hs)
     | _=>exact ⟨rfl,fun r hr=>by cases hr⟩
    have bb:os[q].guard=none:=by
     unfold mv at t
     split at t
     ·cases t
     ·assumption
    simp only[Z0,bb]
    have a2:W2 P l os[q] w (fun v w=>Z0 P ops V1 (f.filterMap (os[·]?)) (put l os[q].dst v) w)=Z0 P ops V1 (f.filterMap (os[·]?)) (put l os[q].dst (ev l x)) w:=by
     unfold mv at t
     rw[bb] at t
     simp only at t
     split at t
     ·rename_i y hy;cases t;simp only[W2,hy]
     ·rename_i y hy;cases t;simp only[W2,hy]
     ·cases t
    rw[a2]
    refine step _ u w (fun _ _=>rfl) (by rw[W];exact hx.1) (fun r hr=>by
     rw[W] at hr
     obtain ⟨J,R⟩:=hx.2 r hr
     exact ⟨List.mem_cons_of_mem _ J,R⟩) hB (fun r hr o i N=>by
     rcases List.mem_cons.1 hr with rfl | hr
     ·rw[A] at i;cases i;rw[t] at N;cases N
     ·exact ⟨(hΦ r hr o i N).1,fun j hj=>List.mem_cons_of_mem _ ((hΦ r hr o i N).2 j hj)⟩)
   | none=>
    have W:Qu os (C.map .val) q= .ref q:=by simp[Qu,A,Cn,t]
    have bc:=hW.run q os[q] az t (bv _ (List.getElem_mem _)) u w hB
    rw[a4 q (by omega),Nat.zero_add] at bc
    have co:=hW.stable
    have bs:=bc (fun j hj=>by
     obtain ⟨s,hs,he⟩:=Bn (Bq hj)
     obtain ⟨J,o,R,h3⟩:=(af s (bm s hs)).2 j he
     exact (hΦ j J o R h3).1)
    have ca: ∀j∈refs ops (O7 (C.map .val) 0 (os.take q)) os[q],j∈c:=fun j hj=>by
     obtain ⟨s,hs,he⟩:=Bn (Bq hj)
     exact ((af s (bm s hs)).2 j he).1
    refine Q35 ?_
    rw[Q2y (bv _ (List.getElem_mem _)) (l':=Qe u (O7 (C.map .val) 0 (os.take q))) (fun s hs=>by rw[Ip];exact (af s (bm s hs)).1)]
    refine Q3L ?_ bs
    intro v w' ⟨cg,hφ⟩
    have aa: ∀r∈c,r≠q:=fun r hr e=>O (e▸hr)
    refine step v (fun n=>if n=q then v else u n) w' ?_ (by rw[W];simp[Ent.at]) (fun r hr=>by rw[W] at hr;cases hr;exact ⟨by simp,os[q],A,t⟩) (hT w w' hB cg) ?_
    ·intro p hp
     cases he:Qu os (C.map .val) p with
     | val x=>rfl
     | ref r=>
      have:=aa r (hA.refs p hp r he).1
      simp[Ent.at,this]
    ·intro r hr o i N
     rcases List.mem_cons.1 hr with rfl | hr
     ·rw[A] at i;cases i
      exact ⟨hφ _ (fun x hx=>by simp[aa x (ca x hx)]) (by simp),fun j hj=>List.mem_cons_of_mem _ (ca j hj)⟩
     ·obtain ⟨f1,f2⟩:=hΦ r hr o i N
      have b1:=D r hr
      have ce:=aa r hr
      have hl:=hW.loc r o (by rw[X r b1];exact i) N (fun n=>if n=q then v else u n) u (fun x hx=>by
       rw[a4 r (by omega),Nat.zero_add] at hx
       have:x≠q:=by
        rcases List.mem_cons.1 hx with rfl | hx
        ·exact ce
        ·exact aa x (f2 x hx)
       simp[this])
      have hs:=co r o (by rw[X r b1];exact i) N
      rw[Nat.zero_add] at hs hl
      refine ⟨?_,fun j hj=>List.mem_cons_of_mem _ (f2 j hj)⟩
      rw[hl]
      exact hs _ _ _ f1 cg
def X3u:Op→Bool
 | .move _ | .assign _ | .fieldAddr .. | .indexAddr .. | .field .. | .index .. | .binOp .. | .unOp .. | .extract .. | .pick .. | .makeFunc .. | .nilCheck _ | .slice .. =>true
 | _=>false
def ready (ops:List Oper) (a:List Nat) (j:Nat):Bool:=(A4 ops j).all (a.contains ·)
def X3A (ops:List Oper) (j:Nat):Bool:=match ops[j]? with | some o=>X3u o.op | none=>false
def Q8v (ops:List Oper):Nat→List Nat→List Nat→List Nat
 | 0,_,a=>a.reverse
 | n+1,b,a=>
  match b.find? (fun j=>X3A ops j&&ready ops a j) with
  | some j=>Q8v ops n (b.erase j) (j::a)
  | none=>match b.find? (ready ops a) with
   | some j=>Q8v ops n (b.erase j) (j::a)
   | none=>a.reverse
def H1 (ops:List Oper):List Nat:=Q8v ops ops.length (List.range ops.length) []
def F0 (ops:List Oper) (a:List Nat) (p q:Nat):Bool:=((Pp ops []).getD (a.getD q 0) 0).testBit (a.getD p 0)
def Z4 (ops:List Oper) (a:List Nat):List Oper:=a.map fun i=>ops.getD i default
def cutA (ops:List Oper) (a:List Nat):Nat→Nat
 | 0=>0
 | j+1=>if (List.range j).all (fun i=>F0 ops a i j||Ny (Z4 ops a) i) then cutA ops a j else j+1
def X4r (ops:List Oper) (a:List Nat) (c n:Nat):Bool:=(List.range n).all fun q=>(List.range q).all fun p=>decide (p<c)||F0 ops a p q
def Rn (ops:List Oper) (a:List Nat) (n:Nat):Nat:=if X4r ops a (cutA ops a n) n then cutA ops a n else n
theorem Q52 (ops:List Oper) (a:List Nat): ∀n,cutA ops a n≤n∧ ∀q,cutA ops a n≤q→q<n→ ∀p,p<q→F0 ops a p q=true∨Ny (Z4 ops a) p=true
 | 0=>⟨Nat.le_refl _,fun q _ h=>by omega⟩
 | j+1=>by
  obtain ⟨g,f⟩:=Q52 ops a j
  simp only[cutA]
  split
  ·rename_i h
   refine ⟨by omega,fun q c b p d=>?_⟩
   by_cases e:q=j
   ·subst e
    simpa using List.all_eq_true.1 h p (by simpa using d)
   ·exact f q c (by omega) p d
  ·exact ⟨Nat.le_refl _,fun q c b=>by omega⟩
theorem Q8u (ops:List Oper) (a:List Nat) (n:Nat):Rn ops a n≤n∧ ∀q,Rn ops a n≤q→q<n→ ∀p,p<q→F0 ops a p q=true∨(p<Rn ops a n∧Ny (Z4 ops a) p=true):=by
 obtain ⟨g,i⟩:=Q52 ops a n
 unfold Rn
 split
 ·rename_i f
  refine ⟨g,fun q d b p e=>?_⟩
  by_cases c:p<cutA ops a n
  ·exact (i q d b p e).imp id fun h=>⟨c,h⟩
  ·left
   have:=List.all_eq_true.1 (List.all_eq_true.1 f q (by simpa using b)) p (by simpa using e)
   simpa [c] using this
 ·exact ⟨Nat.le_refl _,fun q d b=>by omega⟩
def Q5h (ops:List Oper) (a:List Nat):Bool:=
 a.length==ops.length&&(List.range ops.length).all (a.contains ·)&&Xr a&&a.all (fun i=>decide (i<ops.length))&&
  (List.range ops.length).all fun q=>(List.range q).all fun p=> !F0 ops a q p
def Vo (ops:List Oper) (n:Nat):Bool:=
 Ut ops&&Q47 (Pp ops []) ops&&Xr (R3 (Z4 ops (H1 ops)))&&(R3 (Z4 ops (H1 ops))).all (fun d=>decide (d<n))&&
  (A0 .any ops (List.range ops.length)&&A0 .text ops (List.range ops.length)&&A0 .gc ops (X0B .gc ops ops.length (List.range ops.length) []))&&Q5h ops (H1 ops)
theorem Q0A: ∀{l:List Nat},Xr l=true→l.Nodup
 | [],_=>List.nodup_nil
 | x::l,h=>by
  simp only[Xr,Bool.and_eq_true,Bool.not_eq_true'] at h
  exact List.nodup_cons.2 ⟨by simpa using h.1,Q0A h.2⟩
theorem Q6p {ops:List Oper}: ∀(b:List Oper) (a:List Nat),a.length+b.length=ops.length→(∀k,a.length≤k→ops[k]? =b[k-a.length]?)→
 (∀j k,j<a.length→k∈A4 ops j→(a.getD j 0).testBit k=true)→ ∀j k,j<ops.length→k∈A4 ops j→((Pp b a).getD j 0).testBit k=true
 | [],a,i,_,c=>fun j k p d=>c j k (by simp at i;omega) d
 | o::b,a,i,f,c=>by
  have u:ops[a.length]? =some o:=by rw[f _ (Nat.le_refl _)];simp
  refine Q6p b _ (by simp at i⊢;omega) ?_ ?_
  ·intro k d
   simp only[List.length_append,List.length_cons,List.length_nil] at d⊢
   rw[f k (by omega)]
   obtain ⟨m,t⟩: ∃m,k-a.length=m+1:=⟨k-a.length-1,by omega⟩
   rw[t,List.getElem?_cons_succ]
   congr 1;omega
  ·intro j k p d
   simp only[List.length_append,List.length_cons,List.length_nil] at p
   by_cases g:j<a.length
   ·simp only[List.getD_eq_getElem?_getD,List.getElem?_append_left g]
    simpa only[List.getD_eq_getElem?_getD] using c j k g d
   ·have n:j=a.length:=by omega
    subst n
    simp only[List.getD_eq_getElem?_getD,List.getElem?_append_right (Nat.le_refl _),Nat.sub_self,List.getElem?_cons_zero,Option.getD_some]
    unfold A4 at d
    rw[u] at d
    simp only[Option.map_some,Option.getD_some,List.mem_map] at d
    obtain ⟨e,r,rfl⟩:=d
    have key: ∀(l:List Edge) (s:Nat),(e∈l∨s.testBit e.on=true)→(l.foldl (fun s e=>s ||| 2 ^ e.on ||| (a[e.on]?).getD 0) s).testBit e.on=true:=by
     intro l
     induction l with
     | nil=>intro s h;simpa using h
     | cons x l q=>
      intro s h
      refine q _ ?_
      rcases h with h | h
      ·rcases List.mem_cons.1 h with rfl | h
       ·right;simp
       ·exact .inl h
      ·right;simp[h]
    exact key _ _ (.inl r)
theorem Ci {α β:Type} {f g:α→Option β}: ∀{l:List α},(∀x∈l,f x=g x)→l.filterMap f=l.filterMap g
 | [],_=>rfl
 | x::l,h=>by
  rw[List.filterMap_cons,List.filterMap_cons,h x (by simp),Ci fun y a=>h y (by simp[a])]
structure Arr (ops : List Oper) (ord : List Nat) (L : List Nat) : Prop where
  hpl : ∀ o ∈ Z4 ops ord, Xy o.op = true
  hclash : ∀ p q a b, p < q → (Z4 ops ord)[p]? = some a → (Z4 ops ord)[q]? = some b → (Qj a b || Qj b a) = true → F0 ops ord p q = true
  hg : ∀ q o j b, (Z4 ops ord)[q]? = some o → o.guard = some (j, b) → ∃ p, p < q ∧ (Z4 ops ord)[p]? = ops[j]? ∧ F0 ops ord p q = true
  hn : L.Nodup
  hlt : ∀ q ∈ L, q < (Z4 ops ord).length
  hC : ∀ pre q post, L = pre ++ q :: post → ∀ p, F0 ops ord p q = true → p < (Z4 ops ord).length → p ∈ pre
  hLl : L.length = (Z4 ops ord).length
theorem Tn {ops:Array Oper} {c:List Nat} (X:Ut ops.toList=true) (hc:Q47 (Pp ops.toList []) ops.toList=true) (bb:A0 .any ops.toList (List.range ops.toList.length)=true) (a9:A0 .text ops.toList (List.range ops.toList.length)=true) (be:A0 .gc ops.toList (X0B .gc ops.toList ops.toList.length (List.range ops.toList.length) [])=true) (J:Q5h ops.toList c=true) (b:Bool) (t:Nat):
 (Region.schedule b ops t).filterMap (ops[·]?)=((Region.schedule b ops t).map (c.idxOf ·)).filterMap ((Z4 ops.toList c)[·]?)∧Arr ops.toList c ((Region.schedule b ops t).map (c.idxOf ·))∧(Z4 ops.toList c).length=ops.toList.length∧(Region.schedule b ops t).Nodup∧ ∀i∈Region.schedule b ops t,i<ops.toList.length∧c.getD (c.idxOf i) 0=i:=by
 simp only[Q5h,Bool.and_eq_true,beq_iff_eq] at J
 obtain ⟨⟨⟨⟨ab,U⟩,a2⟩,M⟩,E⟩:=J
 have ah:=Q0A a2
 have aa:(Z4 ops.toList c).length=ops.toList.length:=by simp[Z4,ab]
 have g: ∀p,p<ops.toList.length→c.getD p 0<ops.toList.length:=by
  intro p R
  simp only[List.getD_eq_getElem?_getD]
  rw[List.getElem?_eq_getElem (by omega)]
  have:=List.all_eq_true.1 M c[p] (List.getElem_mem _)
  simpa using this
 have d: ∀p,p<ops.toList.length→(Z4 ops.toList c)[p]? =ops.toList[c.getD p 0]? :=by
  intro p R
  have n:=g p R
  simp only[List.getD_eq_getElem?_getD] at n
  rw[List.getElem?_eq_getElem (by omega:p<c.length)] at n
  simp only[Option.getD_some] at n
  simp only[Z4,List.getElem?_map,List.getD_eq_getElem?_getD]
  rw[List.getElem?_eq_getElem (by omega:p<c.length)]
  simp only[Option.map_some,Option.getD_some]
  rw[List.getElem?_eq_getElem n]
  simp
 obtain ⟨V,L,w⟩:=Q5c b ops t X (fun m=>by cases m<;>exact ⟨_,by assumption⟩)
 have f:=Q2d b ops t
 generalize Region.schedule b ops t=L0 at V L w f⊢
 have B: ∀i,i<ops.toList.length→i∈c:=fun i s=>by simpa using List.all_eq_true.1 U i (by simpa using s)
 have l: ∀i,i<ops.toList.length→c.idxOf i<ops.toList.length∧c.getD (c.idxOf i) 0=i:=by
  intro i s
  have n:=List.idxOf_lt_length_of_mem (B i s)
  refine ⟨by omega,?_⟩
  simp only[List.getD_eq_getElem?_getD]
  rw[List.getElem?_eq_getElem n]
  simp
 have r: ∀p,p<ops.toList.length→c.idxOf (c.getD p 0)=p:=by
  intro p R
  simp only[List.getD_eq_getElem?_getD]
  rw[List.getElem?_eq_getElem (by omega:p<c.length)]
  simp only[Option.getD_some]
  exact List.Nodup.idxOf_getElem ah p (by omega)
 have Z: ∀p q,p<q→q<ops.toList.length→F0 ops.toList c q p=false:=by
  intro p q Q u
  have:=List.all_eq_true.1 (List.all_eq_true.1 E q (by simpa using u)) p (by simpa using Q)
  simpa using this
 have an:L0.filterMap (ops[·]?)=(L0.map (c.idxOf ·)).filterMap ((Z4 ops.toList c)[·]?):=by
  rw[List.filterMap_map]
  refine Ci fun i s=>?_
  have:=f i s
  have n:=l i (by simpa using this)
  simp only[Function.comp]
  rw[d _ n.1,n.2]
  simp
 refine ⟨an,⟨?_,?_,?_,?_,?_,?_,by simp[L,ab,Z4]⟩,aa,V,fun i s=>⟨by simpa using f i s,(l i (by simpa using f i s)).2⟩⟩
 ·intro o ho
  simp only[Z4,List.mem_map] at ho
  obtain ⟨i,s,rfl⟩:=ho
  have A:i<ops.toList.length:=by simpa using List.all_eq_true.1 M i s
  simp only[Ut,List.all_eq_true,Bool.and_eq_true] at X
  have:=(X (ops.toList[i],i) (by rw[List.mem_zipIdx_iff_getElem?];simpa using A)).1.1
  rw[List.getD_eq_getElem?_getD,List.getElem?_eq_getElem A]
  exact this
 ·intro p q a b' Q ha C D
  have R:p<ops.toList.length:=by have:=(List.getElem?_eq_some_iff.1 ha).1;omega
  have u:q<ops.toList.length:=by have:=(List.getElem?_eq_some_iff.1 C).1;omega
  rw[d p R] at ha
  rw[d q u] at C
  have Y: ∀i i' x x',i<i'→ops.toList[i]? =some x→ops.toList[i']? =some x'→(Qj x x'||Qj x' x)=true→((Pp ops.toList []).getD i' 0).testBit i=true:=by
   intro i i' x x' al hx a1 D
   simp only[Q47,List.all_eq_true] at hc
   have:=hc (x',i') (by rw[List.mem_zipIdx_iff_getElem?];simpa using a1) (x,i) (by rw[List.mem_zipIdx_iff_getElem?];simpa using hx)
   simp only[al,D,decide_true,Bool.not_true,Bool.false_or,Bool.or_self] at this
   exact this
  have ai:c.getD p 0≠c.getD q 0:=by
   intro e
   have:=r p R
   rw[e,r q u] at this
   omega
  rcases Nat.lt_or_gt_of_ne ai with h | h
  ·exact Y _ _ a b' h ha C D
  ·have n:=Y _ _ b' a h C ha (by rw[Bool.or_comm];exact D)
   have z:=Z p q Q u
   unfold F0 at z
   rw[n] at z;cases z
 ·intro q o j b' u ao
  have H:q<ops.toList.length:=by have:=(List.getElem?_eq_some_iff.1 u).1;omega
  rw[d q H] at u
  have O:j∈A4 ops.toList (c.getD q 0):=by
   have aj:=X
   simp only[Ut,List.all_eq_true,Bool.and_eq_true] at aj
   have:=(aj (o,c.getD q 0) (by rw[List.mem_zipIdx_iff_getElem?];simpa using u)).2
   rw[ao] at this
   simp only[List.any_eq_true] at this
   obtain ⟨e,ay,ap⟩:=this
   unfold A4
   rw[u]
   simp only[Option.map_some,Option.getD_some,List.mem_map]
   exact ⟨e,ay,by simpa using ap⟩
  have ax:=Kx X _ (g q H) j O
  have hj:j<ops.toList.length:=by have:=g q H;omega
  have C:=Q6p (ops:=ops.toList) ops.toList [] (by simp) (by simp) (by intro j k hj;simp at hj) _ j (g q H) O
  obtain ⟨n,z⟩:=l j hj
  have N:F0 ops.toList c (c.idxOf j) q=true:=by unfold F0;rw[z];exact C
  refine ⟨c.idxOf j,?_,by rw[d _ n,z],N⟩
  rcases Nat.lt_trichotomy (c.idxOf j) q with h | h | h
  ·exact h
  ·rw[←h,z] at ax;omega
  ·have:=Z q _ h n
   rw[N] at this;cases this
 ·refine List.pairwise_map.2 (V.imp_of_mem ?_)
  intro x y hx hy a0 a3
  have n:=(l x (by simpa using f x hx)).2
  have z:=(l y (by simpa using f y hy)).2
  exact a0 (by rw[←n,←z,a3])
 ·intro q u
  simp only[List.mem_map] at u
  obtain ⟨i,s,rfl⟩:=u
  have:=(l i (by simpa using f i s)).1
  omega
 ·intro ba q a7 hL p C R
  rw[List.map_eq_append_iff] at hL
  obtain ⟨ac,az,ad,af,v⟩:=hL
  rw[List.map_eq_cons_iff] at v
  obtain ⟨i,W,hr,s,ar⟩:=v
  subst hr s af
  have A:i<ops.toList.length:=by simpa using f i (by rw[ad];simp)
  obtain ⟨n,z⟩:=l i A
  unfold F0 at C
  rw[z] at C
  have av:p<ops.toList.length:=by omega
  have:=Q5s X w i A (c.getD p 0) ac W ad C
  rw[List.mem_map]
  exact ⟨c.getD p 0,this,r p av⟩
theorem Q4B {ops:Array Oper} {n:Nat} (c:Vo ops.toList n=true) (b:Bool) (t:Nat): ∃L,(Region.schedule b ops t).filterMap (ops[·]?)=L.filterMap ((Z4 ops.toList (H1 ops.toList))[·]?)∧Arr ops.toList (H1 ops.toList) L∧(Z4 ops.toList (H1 ops.toList)).length=ops.toList.length:=by
 simp only[Vo,Bool.and_eq_true] at c
 obtain ⟨⟨⟨⟨⟨j,i⟩,l⟩,m⟩,⟨d,f⟩,e⟩,a⟩:=c
 obtain ⟨h,g,k,_⟩:=Tn j i d f e a b t
 exact ⟨_,h,g,k⟩
theorem X2w (P:Program) (ops:Array Oper) (T:World→World→Prop) (B:World→Prop) (V1:List Value→World→Prop) (i:List Value) (f:Vo ops.toList i.length=true)
 (J: ∀w w',B w→T w w'→B w')
 (h:chain P ops.toList T B V1 ((Z4 ops.toList (H1 ops.toList)).drop (Rn ops.toList (H1 ops.toList) ops.toList.length)) 0
  ((Z4 ops.toList (H1 ops.toList)).take (Rn ops.toList (H1 ops.toList) ops.toList.length)) (i.map .val) [] [])
 (b:Bool) (t:Nat) (w:World) (D:B w):Z0 P ops.toList V1 ((Region.schedule b ops t).filterMap (ops[·]?)) i w:=by
 obtain ⟨L,n,g,r⟩:=Q4B f b t
 simp only[Vo,Bool.and_eq_true] at f
 obtain ⟨⟨⟨⟨⟨l,Q⟩,s⟩,u⟩,⟨M,C⟩,E⟩,o⟩:=f
 generalize H1 ops.toList=a at*
 obtain ⟨Φ,_,H⟩:=Q0G P ops.toList T B V1 _ _ 0 (i.map .val) [] [] (by intro e l j A;simp only[List.mem_map] at l;obtain ⟨v,_,rfl⟩:=l;cases A) (by simp) (by simp[Vf]) h
 rw[n]
 obtain ⟨k,c⟩:=Q8u ops.toList a ops.toList.length
 exact X4y (os:=Z4 ops.toList a) (m:=Rn ops.toList a ops.toList.length) (T:=T) (B:=B) (Φ:=Φ) (F0 ops.toList a) g.hpl s (fun d N=>by simpa using List.all_eq_true.1 u d N) g.hclash g.hg (by omega)
  (fun q O y p z=>c q O (by omega) p z) J H L g.hn g.hLl g.hlt g.hC _ [] rfl (by simp) i (fun _=>undef) w
  ⟨rfl,by simp,fun _ _=>rfl,by simp⟩ D (by simp)
def Jc {α:Type} (P:Program) (s:Sem α):Prop:= ∀w v w',s.run P w= .ok v w'→w'=w
section
variable {P : Program} {α β : Type}
theorem Uu (a:α):Jc P (Pure.pure a:Sem α):=fun w v w' h=>by simp at h;exact h.2.symm
theorem Q6R (m:String):Jc P (stuck m:Sem α):=fun w v w' h=>by simp at h
theorem Qv {s:Sem α} {f:α→Sem β} (c:Jc P s) (d: ∀a,Jc P (f a)):Jc P (s>>=f):=fun w v w' h=>by
 rw[Sem.run_bind] at h
 cases b:s.run P w with
 | halt x w1=>rw[b] at h;simp[Result.andThen] at h
 | ok a w1=>
  rw[b] at h
  have:=c _ _ _ b
  subst this
  exact d a _ _ _ h
theorem Q3q (a:Addr) (m:Mode):Jc P (load a m):=fun w v w' h=>by
 unfold load at h
 simp only[Sem.run] at h
 split at h
 ·cases h;rfl
 ·split at h
  ·cases h;rfl
  ·cases h
theorem Gk (t:TypeId):Jc P (typeInfo t):=fun w v w' h=>by
 unfold typeInfo at h
 simp only[Sem.run_bind,run_program,Result.andThen_ok] at h
 split at h<;>simp at h
 exact h.2.symm
theorem Q2U (t:TypeId):Jc P (underlying t):=fun w v w' h=>by
 unfold underlying at h
 simp only[Sem.run_bind,run_program,Result.andThen_ok] at h
 split at h<;>simp at h
 exact h.2.symm
theorem Q75 (t:TypeId):Jc P (isAgg t):=by
 unfold isAgg
 refine Qv (Q2U t) fun d=>?_
 split<;>exact Uu _
theorem Q6j (t:TypeId):Jc P (sizeOf t):=Qv (Gk t) fun _=>Uu _
theorem Q2r (a:Addr): ∀(n i:Nat) (b:Array Value),Jc P (loadCellsFrom a i n b)
 | 0,i,b=>Uu _
 | n+1,i,b=>Qv (Q3q _ _) fun v=>Q2r a n (i+1) _
theorem Q5a (t:TypeId) (a:Addr):Jc P (loadVar t a):=by
 unfold loadVar
 refine Qv (Q75 t) fun b=>?_
 split
 ·exact Qv (Q6j t) fun n=>Qv (Q2r a n 0 #[]) fun cs=>Uu _
 ·exact Q3q _ _
theorem Q6m (t:TypeId) (v:Value):Jc P (Instr.loadAt t v):=by
 unfold Instr.loadAt
 refine Qv ?_ fun a=>Q5a t a
 unfold Instr.sureAddr
 split
 ·exact Uu _
 ·exact Q6R _
def Jf (P:Program) (s:Sem α):Prop:= ∀w v w1,s.run P w= .ok v w1→w1=w∧ ∀w',s.run P w'= .ok v w'
theorem Ui (a:α):Jf P (Pure.pure a:Sem α):=fun w v w' h=>by simp at h⊢;exact ⟨h.2.symm,h.1⟩
theorem Mv (m:String):Jf P (stuck m:Sem α):=fun w v w' h=>by simp at h
theorem Qq {s:Sem α} {f:α→Sem β} (e:Jf P s) (i: ∀a,Jf P (f a)):Jf P (s>>=f):=fun w v w' h=>by
 rw[Sem.run_bind] at h
 cases b:s.run P w with
 | halt x w1=>rw[b] at h;simp[Result.andThen] at h
 | ok a w1=>
  rw[b] at h
  obtain ⟨rfl,g⟩:=e _ _ _ b
  obtain ⟨j,d⟩:=i a _ _ _ h
  refine ⟨j,fun c=>?_⟩
  rw[Sem.run_bind,g c]
  exact d c
theorem Tp (t:TypeId):Jf P (typeInfo t):=fun w v w' h=>by
 unfold typeInfo at h⊢
 simp only[Sem.run_bind,run_program,Result.andThen_ok] at h⊢
 split at h<;>simp at h
 rename_i i a
 refine ⟨h.2.symm,fun w'=>?_⟩
 simp[a,h.1]
theorem Nj (t:TypeId):Jf P (underlying t):=fun w v w' h=>by
 unfold underlying at h⊢
 simp only[Sem.run_bind,run_program,Result.andThen_ok] at h⊢
 split at h<;>simp at h
 rename_i i a
 refine ⟨h.2.symm,fun w'=>?_⟩
 simp[a,h.1]
theorem Cb (v:Value) (i:Nat):Jf P (Instr.extract v i):=by
 unfold Instr.extract
 split
 ·split
  ·exact Ui _
  ·exact Mv _
 ·exact Mv _
theorem X05 (v:Value):Jf P (Instr.sureAddr v):=by
 unfold Instr.sureAddr
 split
 ·exact Ui _
 ·exact Mv _
theorem Q3U {s:Sem α} (h: ∀w v w',s.run P w≠ .ok v w'):Jf P s:=fun w v w' e=>absurd e (h w v w')
theorem Q3R {s:Sem α} {f:α→Sem β} (c: ∀a w v w',(f a).run P w≠ .ok v w'): ∀w v w',(s>>=f).run P w≠ .ok v w':=fun w v w' h=>by
 rw[Sem.run_bind] at h
 cases b:s.run P w with
 | halt x w1=>rw[b] at h;simp[Result.andThen] at h
 | ok a w1=>rw[b] at h;exact c a _ _ _ h
theorem Q3f (e:Int×Int×Bool×BoundsCode): ∀w v w',(runtimePanic (.bounds e.1 e.2.1 e.2.2.1 e.2.2.2):Sem α).run P w≠ .ok v w':=by
 unfold runtimePanic
 exact Q3R fun p=>fun w v w' h=>by cases h
theorem Q2w (k:IntKind) (x y:Int) (c:BoundsCode):Jf P (boundsPanic k x y c:Sem α):=Q3U (by
 unfold boundsPanic
 dsimp only
 split
 ·exact Q3R fun b=>Q3f (_,_,_,_)
 ·exact Q3R fun b=>Q3f (_,_,_,_))
theorem Cu (t:TypeId) (x i:Value):Jf P (Instr.indexAt t x i):=by
 unfold Instr.indexAt
 refine Qq ?_ fun q=>?_
 ·unfold asIntOf
  split
  ·exact Ui _
  ·exact Q3U fun w v w' h=>by cases h
  ·exact Mv _
 refine Qq (Nj t) fun d=>?_
 dsimp only
 have key: ∀(z:Option Addr×Nat×TypeId),Jf P (match z with
  | (base,b,elem)=>do
   let __do_lift←underlying t
   have c:Bool:=decide (b≤1)&&match __do_lift with
    | TypeDesc.array b elem=>true
    | x=>false
   match base with
    | some a=>
     if 0≤q.snd∧q.snd< ↑b then do
      let __do_lift←sizeOf elem
      pure (Value.pointer (some (a.add (q.snd.toNat*__do_lift))))
     else
      if c=true then unsupported (Unsupported.noEntry "op/indexAddr.an index out of range at an array of length 0 or 1 (ledger 616)")
      else boundsPanic q.fst q.snd (↑b) BoundsCode.index
    | none=>boundsPanic q.fst q.snd 0 BoundsCode.index):=by
  rintro ⟨base,b,elem⟩
  dsimp only
  refine Qq (Nj t) fun g=>?_
  cases base with
  | none=>exact Q2w _ _ _ _
  | some a=>
   dsimp only
   by_cases f:0≤q.snd∧q.snd< ↑b
   ·rw[if_pos f]
    exact Qq (Qq (Tp _) fun _=>Ui _) fun n=>Ui _
   ·rw[if_neg f]
    by_cases e:(decide (b≤1)&&match g with
     | TypeDesc.array b elem=>true
     | x=>false)=true
    ·rw[if_pos e]
     exact Q3U fun w v w' h=>by cases h
    ·rw[if_neg e]
     exact Q2w _ _ _ _
 split
 ·exact Qq (X05 _) fun a=>Qq (Ui _) key
 ·exact Qq (Ui _) key
 ·exact Qq (Mv _) key
def Q0o (o:Oper):Bool:=match o.op with | .move _ | .assign _ | .load .. | .extract .. | .indexAddr .. =>true | _=>false
def Q40 (o:Oper):Bool:=match o.op with | .move _ | .assign _ | .extract .. | .indexAddr .. =>true | _=>false
theorem Rj {s:Sem Value} {w:World} {K:Value→World→Prop} (h:op P (sv s) w K): ∃v w',s.run P w= .ok v w'∧K v w':=by
 rw[Qa] at h
 unfold T2 sv at h
 rw[Sem.run_bind] at h
 cases a:s.run P w with
 | halt x w1=>rw[a] at h;exact h.elim
 | ok v w1=>rw[a] at h;exact ⟨v,w1,rfl,h⟩
theorem Rf {s:Sem Value} {v:Value} {w w':World} {K:Value→World→Prop} (h:s.run P w= .ok v w') (k:K v w'):op P (sv s) w K:=by
 rw[Qa]
 unfold T2 sv
 rw[Sem.run_bind,h]
 exact k
theorem Q9F {p:Program} {w w':World} {a k:Addr} {u:TypeId} {b:Bool} {r} (h: ∀(i:Nat) o,w.heap[i]? =some o→w'.heap[i]? =some o) (c:w.seen p a u k b= .ok r):w'.seen p a u k b= .ok r:=by
 cases e:w.heap[a.block]? with
 | some o=>
  have d:=h _ _ e
  unfold World.seen at*
  rw[d]
  rw[e] at c
  exact c
 | none=>
  exfalso
  unfold World.seen at c
  simp only[e,bind,Except.bind,throw,throwThe,MonadExceptOf.throw,pure,Except.pure] at c
  repeat (first | cases c | split at c)
theorem X0s {p:Program} {w w':World} {a:Addr} {b:Bool} {r} (h: ∀(i:Nat) o,w.heap[i]? =some o→w'.heap[i]? =some o) (c:w.farLoad p a b= .ok r):w'.farLoad p a b= .ok r:=by
 unfold World.farLoad at*
 cases e:w.heap[a.block]? with
 | none=>rw[e] at c;cases c
 | some o=>
  rw[e] at c
  rw[h _ _ e]
  cases o with
  | view d u=>
   simp only at c⊢
   cases f:w.viewLoad p d u a b with
   | error s=>rw[f] at c;cases c
   | ok q=>
    rw[f] at c
    have:w'.viewLoad p d u a b= .ok q:=by
     unfold World.viewLoad at*
     cases g:w.seen p d u a b with
     | error s=>rw[g] at f;cases f
     | ok z=>rw[Q9F h g];rw[g] at f;exact f
    rw[this]
    exact c
  | _=>simp only at c;cases c
def Eb {α:Type} (P:Program) (s:Sem α):Prop:= ∀w v w1,s.run P w= .ok v w1→w1=w∧ ∀w':World,(∀(i:Nat) o,w.heap[i]? =some o→w'.heap[i]? =some o)→s.run P w'= .ok v w'
section
variable {P : Program} {α β : Type}
theorem Ei (a:α):Eb P (Pure.pure a:Sem α):=fun w v w' h=>by simp at h⊢;exact ⟨h.2.symm,fun _ _=>h.1⟩
theorem Q92 (m:String):Eb P (stuck m:Sem α):=fun w v w' h=>by simp at h
theorem Uc {s:Sem α} {f:α→Sem β} (g:Eb P s) (j: ∀a,Eb P (f a)):Eb P (s>>=f):=fun w v w' h=>by
 rw[Sem.run_bind] at h
 cases b:s.run P w with
 | halt x w1=>rw[b] at h;simp[Result.andThen] at h
 | ok a w1=>
  rw[b] at h
  obtain ⟨rfl,i⟩:=g _ _ _ b
  obtain ⟨k,e⟩:=j a _ _ _ h
  refine ⟨k,fun c d=>?_⟩
  rw[Sem.run_bind,i c d]
  exact e c d
theorem Q4X (a:Addr) (m:Mode):Eb P (load a m):=fun w v w1 h=>by
 unfold load at h⊢
 simp only[Sem.run] at h⊢
 cases e:w.cell? a with
 | some x=>
  rw[e] at h
  cases h
  refine ⟨rfl,fun w' d=>?_⟩
  have:w'.cell? a=some v:=by
   unfold World.cell? at*
   cases c:w.heap[a.block]? with
   | none=>rw[c] at e;cases e
   | some o=>rw[c] at e;rw[d _ _ c];exact e
  rw[this]
 | none=>
  rw[e] at h
  simp only at h
  cases b:w.farLoad P a (m== .atomic) with
  | error s=>rw[b] at h;cases h
  | ok q=>
   rw[b] at h
   cases h
   refine ⟨rfl,fun w' d=>?_⟩
   have f:=X0s d b
   cases g:w'.cell? a with
   | none=>simp only[f]
   | some x=>
    exfalso
    unfold World.farLoad at b
    unfold World.cell? at g
    cases c:w.heap[a.block]? with
    | none=>rw[c] at b;cases b
    | some o=>
     rw[d _ _ c] at g
     rw[c] at b
     cases o<;>first | cases g | (simp only at b;cases b)
theorem Q4R {s:Sem α} (h:Jf P s):Eb P s:=fun w v w1 e=>⟨(h w v w1 e).1,fun w' _=>(h w v w1 e).2 w'⟩
theorem Q8Y (t:TypeId):Eb P (isAgg t):=by
 unfold isAgg
 refine Uc (Q4R (Nj t)) fun d=>?_
 split<;>exact Ei _
theorem Q31 (a:Addr): ∀(n i:Nat) (b:Array Value),Eb P (loadCellsFrom a i n b)
 | 0,i,b=>Ei _
 | n+1,i,b=>Uc (Q4X _ _) fun v=>Q31 a n (i+1) _
theorem Q6T (t:TypeId) (v:Value):Eb P (Instr.loadAt t v):=by
 unfold Instr.loadAt
 refine Uc ?_ fun a=>?_
 ·unfold Instr.sureAddr
  split
  ·exact Ei _
  ·exact Q92 _
 ·unfold loadVar
  refine Uc (Q8Y t) fun b=>?_
  split
  ·exact Uc (Uc (Q4R (Tp t)) fun _=>Ei _) fun n=>Uc (Q31 a n 0 #[]) fun cs=>Ei _
  ·exact Q4X _ _
def Cg (o:Oper):Bool:=match o.op with | .alloc .. =>true | _=>false
theorem X0k {l:List Value} {o:Oper} {w:World} {K:Value→World→Prop} (h:Q0o o=true) (c:W2 P l o w K): ∃v,K v w∧ ∀(w':World) b,(∀(i:Nat) o,w.heap[i]? =some o→w'.heap[i]? =some o)→b v w'→W2 P l o w' b:=by
 obtain ⟨d,p,m,pos,n,g⟩:=o
 cases p<;>(first | (simp[Q0o] at h;done) | skip)<;>simp only[W2] at c⊢
 ·exact ⟨_,c,fun w' b _ a=>a⟩
 ·exact ⟨_,c,fun w' b _ a=>a⟩
 ·obtain ⟨v,w',j,e⟩:=Rj c
  obtain ⟨rfl,f⟩:=Q6T _ _ _ _ _ j
  exact ⟨v,e,fun w' b k a=>Rf (f w' k) a⟩
 ·obtain ⟨v,w',j,e⟩:=Rj c
  obtain ⟨rfl,f⟩:=Cu _ _ _ _ _ _ j
  exact ⟨v,e,fun w' b k a=>Rf (f w') a⟩
 ·obtain ⟨v,w',j,e⟩:=Rj c
  obtain ⟨rfl,f⟩:=Cb _ _ _ _ _ j
  exact ⟨v,e,fun w' b k a=>Rf (f w') a⟩
theorem Q4n {γ δ:Type} {s:Sem γ} {f:γ→Sem δ} {w w':World} {v:δ} (h:(s>>=f).run P w= .ok v w'): ∃a w1,s.run P w= .ok a w1∧(f a).run P w1= .ok v w':=by
 rw[Sem.run_bind] at h
 cases b:s.run P w with
 | halt x w1=>rw[b] at h;simp[Result.andThen] at h
 | ok a w1=>rw[b] at h;exact ⟨a,w1,rfl,h⟩
theorem X10 {γ:Type} {r:Unsupported}:Jc P (unsupported r:Sem γ):=fun w v w' h=>by simp[unsupported] at h
theorem Q6J {l:List Value} {o:Oper} {w:World} {K:Value→World→Prop} (h:Cg o=true) (j:W2 P l o w K): ∃v w',(∀(i:Nat) o,w.heap[i]? =some o→w'.heap[i]? =some o)∧K v w'∧ ∀e:Value→World→Prop,e v w'→W2 P l o w e:=by
 obtain ⟨d,p,C,pos,H,g⟩:=o
 cases p<;>(first | (simp[Cg] at h;done) | skip)
 simp only[W2] at j⊢
 obtain ⟨v,w',n,u⟩:=Rj j
 refine ⟨v,w',?_,u,fun e A=>Rf n A⟩
 have a:=n
 unfold Instr.alloc zeroValue at a
 obtain ⟨z,w1,s,q⟩:=Q4n a
 have y:w1=w:=Qv (Gk _) (fun i=>by split;exact Uu _;exact X10) _ _ _ s
 subst y
 simp only at q
 obtain ⟨c,E,f,k⟩:=Q4n q
 simp only[Sem.run_pure,Result.ok.injEq] at k
 obtain ⟨_,rfl⟩:=k
 unfold newVar newRow at f
 obtain ⟨B,D,b,r⟩:=Q4n f
 simp only[Sem.run_pure,Result.ok.injEq] at r
 obtain ⟨_,rfl⟩:=r
 unfold newObj at b
 simp only[Sem.run,Result.ok.injEq] at b
 obtain ⟨_,rfl⟩:=b
 intro i o m
 have t:=(Array.getElem?_eq_some_iff.1 m).1
 simp only[Array.getElem?_push]
 rw[if_neg (by omega)]
 exact m
end
theorem Q5G {l:List Value} {o:Oper} {w:World} {K:Value→World→Prop} (h:Q0o o=true) (e:W2 P l o w K): ∃v,K v w∧ ∀c,c v w→W2 P l o w c:=by
 obtain ⟨d,p,i,pos,j,g⟩:=o
 cases p<;>(first | (simp[Q0o] at h;done) | skip)<;>simp only[W2] at e⊢
 ·exact ⟨_,e,fun c a=>a⟩
 ·exact ⟨_,e,fun c a=>a⟩
 ·obtain ⟨v,w',b,f⟩:=Rj e
  have:=Q6m _ _ _ _ _ b
  subst this
  exact ⟨v,f,fun c a=>Rf b a⟩
 ·obtain ⟨v,w',b,f⟩:=Rj e
  have:=(Cu _ _ _ _ _ _ b).1
  subst this
  exact ⟨v,f,fun c a=>Rf b a⟩
 ·obtain ⟨v,w',b,f⟩:=Rj e
  have:=(Cb _ _ _ _ _ b).1
  subst this
  exact ⟨v,f,fun c a=>Rf b a⟩
theorem Q2Q {l:List Value} {o:Oper} {w:World} {K:Value→World→Prop} (h:Q40 o=true) (c:W2 P l o w K): ∃v,K v w∧ ∀w' b,b v w'→W2 P l o w' b:=by
 obtain ⟨d,p,j,pos,k,g⟩:=o
 cases p<;>(first | (simp[Q40] at h;done) | skip)<;>simp only[W2] at c⊢
 ·exact ⟨_,c,fun w' b a=>a⟩
 ·exact ⟨_,c,fun w' b a=>a⟩
 ·obtain ⟨v,w',i,e⟩:=Rj c
  obtain ⟨rfl,f⟩:=Cu _ _ _ _ _ _ i
  exact ⟨v,e,fun w' b a=>Rf (f w') a⟩
 ·obtain ⟨v,w',i,e⟩:=Rj c
  obtain ⟨rfl,f⟩:=Cb _ _ _ _ _ i
  exact ⟨v,e,fun w' b a=>Rf (f w') a⟩
end
structure Swap (ops : List Oper) (a b : Oper) : Prop where
  pa : Xy a.op = true
  pb : Xy b.op = true
  ga : a.guard = none
  ab : ∀ d, a.dst = some d → d ∉ R0 ops b ++ B5 b
  ba : ∀ d, b.dst = some d → d ∉ R0 ops a ++ B5 a
  dd : ∀ d, a.dst = some d → b.dst ≠ some d
  gb : ∀ j c, b.guard = some (j, c) → ((ops[j]?).bind (·.dst)).isSome = true
  rd : (Q0o a = true ∧ (Q0o b = true ∨ Cg b = true) ∧ b.guard = none ∨ Cg a = true ∧ Q40 b = true ∧ b.guard = none) ∨ Q40 a = true
section
variable {P : Program} {ops : List Oper} {V1 : List Value → World → Prop}
theorem Q2I {l:List Value} {d:Option Nat} {v:Value} {s:Nat} (h: ∀e,d=some e→e≠s):get (put l d v) s=get l s:=by
 cases d with
 | none=>rfl
 | some e=>simp only[put,get,List.getD_eq_getElem?_getD,List.getElem?_set_ne (h e rfl)]
theorem Q9N {l:List Value} {d e:Option Nat} {v u:Value} (h: ∀x,d=some x→e≠some x):put (put l d v) e u=put (put l e u) d v:=by
 cases d with
 | none=>rfl
 | some d=>cases e with
  | none=>rfl
  | some e=>simp only[put];exact List.set_comm _ _ (by intro a;subst a;exact h d rfl rfl)
theorem Q4w {o:Oper} {s:Nat} (a:Operand.tmp s∈o.op.operands):s∈B5 o:=by
 simp only[B5,List.mem_filterMap]
 exact ⟨.tmp s,by simpa using a,rfl⟩
theorem Q7d {a b:Oper} {R:List Oper} {l:List Value} {w:World} (V:Swap ops a b) (h:Z0 P ops V1 (a::b::R) l w):Z0 P ops V1 (b::a::R) l w:=by
 obtain ⟨pa,W,U,M,Z,Y,O,N⟩:=V
 have y: ∀v,W2 P (put l a.dst v) b=W2 P l b:=fun v=>Ed W fun x J=>by
  cases x with
  | tmp s=>exact Q2I fun e r g=>M e r (List.mem_append_right _ (g▸Q4w J))
  | _=>rfl
 have n: ∀v,W2 P (put l b.dst v) a=W2 P l a:=fun v=>Ed pa fun x J=>by
  cases x with
  | tmp s=>exact Q2I fun e r g=>Z e r (List.mem_append_right _ (g▸Q4w J))
  | _=>rfl
 have m: ∀v u,put (put l b.dst u) a.dst v=put (put l a.dst v) b.dst u:=fun v u=>(Q9N Y).symm
 simp only[Z0,U] at h⊢
 cases k:b.guard with
 | none=>
  simp only[k] at h⊢
  rcases N with (⟨A,rb | rb,_⟩ | ⟨A,X,_⟩) | fa
  ·obtain ⟨B,f,i⟩:=Q5G A h
   rw[y] at f
   obtain ⟨z,t,o⟩:=Q5G rb f
   refine o _ ?_
   rw[n]
   exact i _ (by rw[m];exact t)
  ·obtain ⟨B,f,i⟩:=X0k A h
   rw[y] at f
   obtain ⟨z,wb,k,t,o⟩:=Q6J rb f
   refine o _ ?_
   rw[n]
   exact i wb _ k (by rw[m];exact t)
  ·obtain ⟨B,wa,k,f,i⟩:=Q6J A h
   rw[y] at f
   obtain ⟨z,t,o⟩:=Q2Q X f
   refine o w _ ?_
   rw[n]
   exact i _ (by rw[m];exact t)
  ·obtain ⟨B,f,i⟩:=Q2Q fa h
   rw[y] at f
   refine K5 (fun z w' C=>?_) f
   rw[n]
   exact i w' _ (by rw[m];exact C)
 | some q=>
  obtain ⟨j,c⟩:=q
  rcases N with (⟨_,_,p⟩ | ⟨_,_,p⟩) | fa
  ·rw[k] at p;cases p
  ·rw[k] at p;cases p
  obtain ⟨d,L⟩:=Option.isSome_iff_exists.1 (O j c k)
  have E:d∈R0 ops b:=by simp[R0,k,L]
  have Q: ∀v,get (put l a.dst v) d=get l d:=fun v=>Q2I fun e r g=>M e r (List.mem_append_left _ (g▸E))
  simp only[k,L] at h⊢
  obtain ⟨B,f,i⟩:=Q2Q fa h
  rw[y,Q] at f
  refine Q0k ((Ls f).imp (fun ⟨D,H⟩=>⟨D,K5 (fun z w' C=>?_) H⟩) (fun ⟨D,H⟩=>⟨D,?_⟩))
  ·rw[n];exact i w' _ (by rw[m];exact C)
  ·rw[n];exact i w _ (by rw[m];exact H)
theorem Q2h {a:Oper} {R R':List Oper} {l:List Value} {w:World} (b: ∀l w,Z0 P ops V1 R l w→Z0 P ops V1 R' l w) (h:Z0 P ops V1 (a::R) l w):Z0 P ops V1 (a::R') l w:=by
 simp only[Z0] at h⊢
 cases k:a.guard with
 | none=>simp only[k] at h⊢;exact K5 (fun v w e=>b _ _ e) h
 | some q=>
  obtain ⟨j,c⟩:=q
  simp only[k] at h⊢
  cases i:(ops[j]?).bind (·.dst) with
  | none=>simp only[i] at h⊢;exact b _ _ h
  | some d=>
   simp only[i] at h⊢
   exact Q0k ((Ls h).imp (fun ⟨f,g⟩=>⟨f,K5 (fun m w' e=>b _ _ e) g⟩) (fun ⟨f,g⟩=>⟨f,b _ _ g⟩))
theorem Q0Y {q:Oper} {R:List Oper}: ∀(A:List Oper) {l:List Value} {w:World},(∀a∈A,Swap ops a q)→Z0 P ops V1 (A++q::R) l w→Z0 P ops V1 (q::(A++R)) l w
 | [],_,_,_,h=>h
 | a::A,l,w,c,h=>Q7d (c a (by simp)) (Q2h (R:=A++q::R) (fun _ _ h=>Q0Y A (fun b d=>c b (by simp[d])) h) h)
theorem Mj: ∀(A:List Oper) {B:List Oper} {l:List Value} {w:World},Z0 P ops V1 (A++B) l w=Z0 P ops (fun l w=>Z0 P ops V1 B l w) A l w
 | [],B,l,w=>rfl
 | a::A,B,l,w=>by
  simp only[List.cons_append,Z0]
  split
  ·congr 1;funext v w;exact Mj A
  ·split
   ·congr 1;funext v w;exact Mj A
   ·exact Mj A
theorem Q89 {A B B':List Oper} {l:List Value} {w:World} (c: ∀l w,Z0 P ops V1 B l w→Z0 P ops V1 B' l w): ∀{l:List Value} {w:World},Z0 P ops V1 (A++B) l w→Z0 P ops V1 (A++B') l w:=by
 induction A with
 | nil=>exact fun h=>c _ _ h
 | cons a A b=>exact fun h=>Q2h (fun _ _ h=>b h) h
theorem Q7T (os:List Oper) (bit:Nat→Nat→Bool) (i: ∀p q a b,p<q→os[p]? =some a→os[q]? =some b→bit p q=false→Swap ops a b):
 ∀(n:Nat) (V1:List Value→World→Prop) (L:List Nat) (l:List Value) (w:World),L.Nodup→L.length=n→(∀q∈L,q<n)→n≤os.length→L.Pairwise (fun q p=>p<q→bit p q=false)→
  Z0 P ops V1 (os.take n) l w→Z0 P ops V1 (L.filterMap (os[·]?)) l w
 | 0,V1,L,l,w,u,y,g,z,v,h=>by
  have:L=[]:=List.eq_nil_of_length_eq_zero y
  subst this;exact h
 | n+1,V1,L,l,w,u,y,g,z,v,h=>by
  have U:n∈L:=Classical.byContradiction fun j=>by
   have Q:=I0 n L u fun k H=>by
    have o:=g k H
    have J:k≠n:=fun e=>j (e▸H)
    omega
   omega
  obtain ⟨A,B,rfl⟩:=List.append_of_mem U
  have c:n<os.length:=by omega
  have f:os[n]? =some os[n]:=List.getElem?_eq_getElem c
  have s:=List.nodup_append.1 u
  have E:n∉B:=(List.nodup_cons.1 s.2.1).1
  have C:n∉A:=fun e=>s.2.2 n e n (by simp) rfl
  have O:os.take (n+1)=os.take n++[os[n]]:=(List.take_append_getElem c).symm
  rw[O,Mj] at h
  have r: ∀q∈A++B,q<n:=fun q M=>by
   have Q:q<n+1:=g q (by rcases List.mem_append.1 M with h | h<;>simp[h])
   have o:q≠n:=fun e=>by
    subst e
    rcases List.mem_append.1 M with h | h
    ·exact C h
    ·exact E h
   omega
  have d:(A++B).Sublist (A++n::B):=List.Sublist.append (List.Sublist.refl A) (List.sublist_cons_self n B)
  have o:=Q7T os bit i n _ (A++B) l w (u.sublist d) (by simp at y⊢;omega) r (by omega) (v.sublist d) h
  rw[←Mj] at o
  rw[List.filterMap_append,List.append_assoc] at o
  rw[List.filterMap_append,List.filterMap_cons,f]
  refine Q89 (l:=l) (w:=w) (fun l w J=>?_) o
  have:=Q0Y (R:=[]) (B.filterMap (os[·]?)) (fun a V=>?_) J
  ·rwa [List.append_nil] at this
  ·obtain ⟨p,t,D⟩:=List.mem_filterMap.1 V
   have m:=r p (List.mem_append_right _ t)
   refine i p n a _ m D f ?_
   have N:=(List.pairwise_append.1 v).2.1
   exact (List.pairwise_cons.1 N).1 p t m
end
def Q3B (ops:List Oper) (a b:Oper):Bool:=
 (match a.guard with | none=>true | some _=>false)&&(match b.guard with | none=>true | some (j,_)=>match (ops[j]?).bind (·.dst) with | some _=>true | none=>false)&&
  (((Q0o a&&(Q0o b||Cg b)||Cg a&&Q40 b)&&(match b.guard with | none=>true | some _=>false))||Q40 a)
def Q3S (o:Oper):Bool:=match o.op with | .call c=>(match c.callee with | .value (.func _)=>true | _=>false) | _=>false
def Q8b (ops:List Oper) (a:List Nat):Bool:=
 ops.any Q5W&&ops.any Q3S&&(List.range ops.length).all fun q=>(List.range q).all fun p=>F0 ops a p q||Q3B ops (ops.getD (a.getD p 0) default) (ops.getD (a.getD q 0) default)
theorem Dw {α:Type} {R:α→α→Prop}: ∀(a b:List α) {L:List α},L=b++a→(∀b q a,L=b++q::a→ ∀p∈a,R q p)→a.Pairwise R
 | [],_,_,_,_=>List.Pairwise.nil
 | q::a,b,L,c,h=>List.pairwise_cons.2 ⟨h b q a c,Dw a (b++[q]) (by rw[c];simp) h⟩
theorem Q3T {P:Program} {ops:Array Oper} {V1:List Value→World→Prop} {l0:List Value} {ord L:List Nat} {bit:Nat→Nat→Bool} (ha:Arr ops.toList ord L) (hosl:(Z4 ops.toList ord).length=ops.toList.length) (hn:Xr (R3 (Z4 ops.toList ord))=true) (hbit: ∀p q,F0 ops.toList ord p q=true→bit p q=true)
 (hsq: ∀p q,p<q→q<ops.toList.length→(bit p q||Q3B ops.toList (ops.toList.getD (ord.getD p 0) default) (ops.toList.getD (ord.getD q 0) default))=true) (hpair:L.Pairwise fun q p=>p<q→bit p q=false) (w:World)
 (h:Z0 P ops.toList V1 (Z4 ops.toList ord) l0 w):Z0 P ops.toList V1 (L.filterMap ((Z4 ops.toList ord)[·]?)) l0 w:=by
 refine Q7T (Z4 ops.toList ord) bit (fun p q a b' hpq hpa hqb hb=>?_) _ V1 L l0 w ha.hn rfl (fun q hq=>by rw[ha.hLl];exact ha.hlt q hq) (by rw[ha.hLl];exact Nat.le_refl _) hpair (by rw[ha.hLl,List.take_length];exact h)
 have hql:q<ops.toList.length:=by have:=(List.getElem?_eq_some_iff.1 hqb).1;omega
 have hpl:p<ops.toList.length:=by omega
 have hget: ∀i o,(Z4 ops.toList ord)[i]? =some o→ops.toList.getD (ord.getD i 0) default=o:=by
  intro i o hi
  unfold Z4 at hi
  rw[List.getElem?_map] at hi
  cases ho:ord[i]? with
  | none=>rw[ho] at hi;cases hi
  | some x=>
   rw[ho] at hi
   simp only[Option.map_some,Option.some.injEq] at hi
   rw[List.getD_eq_getElem?_getD (l:=ord),ho];exact hi
 have hnc:(Qj a b'||Qj b' a)=false:=by
  cases hx:Qj a b'||Qj b' a with
  | false=>rfl
  | true=>rw[hbit p q (ha.hclash p q a b' hpq hpa hqb hx)] at hb;cases hb
 rw[Bool.or_eq_false_iff] at hnc
 have hs:=hsq p q hpq hql
 rw[hb,Bool.false_or,hget p a hpa,hget q b' hqb] at hs
 simp only[Q3B,Bool.and_eq_true,Bool.or_eq_true] at hs
 obtain ⟨⟨g1,g2⟩,g3⟩:=hs
 have hga:a.guard=none:=by
  cases hx:a.guard with
  | none=>rfl
  | some _=>rw[hx] at g1;cases g1
 have c1: ∀d,a.dst=some d→d∉B5 b'∧b'.dst≠some d:=fun d hd=>by
  have:=hnc.1
  unfold Qj at this
  rw[hd] at this
  simp only[Bool.or_eq_false_iff] at this
  exact ⟨fun hm=>by simp[hm] at this,fun hm=>by simp[hm] at this⟩
 have c2: ∀d,b'.dst=some d→d∉B5 a:=fun d hd=>by
  have:=hnc.2
  unfold Qj at this
  rw[hd] at this
  simp only[Bool.or_eq_false_iff] at this
  exact fun hm=>by simp[hm] at this
 refine ⟨ha.hpl a (List.mem_of_getElem? hpa),ha.hpl b' (List.mem_of_getElem? hqb),hga,fun d hd'=>?_,fun d hd'=>?_,fun d hd'=>(c1 d hd').2,fun j c hbg=>?_,?_⟩
 ·rw[List.mem_append,not_or]
  refine ⟨fun hm=>?_,(c1 d hd').1⟩
  unfold R0 at hm
  cases hbg:b'.guard with
  | none=>rw[hbg] at hm;simp at hm
  | some q0=>
   obtain ⟨j,c⟩:=q0
   obtain ⟨p',hp',hpj,hbt⟩:=ha.hg q b' j c hqb hbg
   rw[hbg] at hm
   simp only at hm
   cases hjd:ops.toList[j]?.map (·.dst) with
   | none=>
    cases hj:ops.toList[j]? with
    | none=>rw[hj] at hm;simp at hm
    | some oj=>rw[hj] at hjd;cases hjd
   | some dj=>
    cases hj:ops.toList[j]? with
    | none=>rw[hj] at hjd;cases hjd
    | some oj=>
     rw[hj] at hm hpj
     simp only[Option.bind_some] at hm
     cases hdj:oj.dst with
     | none=>rw[hdj] at hm;simp at hm
     | some d2=>
      rw[hdj] at hm
      simp only[List.mem_singleton] at hm
      subst hm
      have:=Ys (Z4 ops.toList ord) hn p' p oj a d hpj hpa hdj hd'
      subst this
      rw[hbit _ _ hbt] at hb;cases hb
 ·rw[List.mem_append,not_or]
  exact ⟨fun hm=>by simp[R0,hga] at hm,c2 d hd'⟩
 ·rw[hbg] at g2
  simp only at g2
  cases hx:(ops.toList[j]?).bind (·.dst) with
  | none=>rw[hx] at g2;cases g2
  | some _=>rfl
 ·rcases g3 with ⟨g3,g5⟩ | g3
  ·have hn:b'.guard=none:=by
    cases hx:b'.guard with
    | none=>rfl
    | some _=>rw[hx] at g5;cases g5
   exact .inl (g3.imp (fun g=>⟨g.1,g.2,hn⟩) fun g=>⟨g.1,g.2,hn⟩)
  ·exact .inr g3
theorem X34 (P:Program) (ops:Array Oper) (V1:List Value→World→Prop) (j:List Value) (a:Vo ops.toList j.length=true) (g:Q8b ops.toList (H1 ops.toList)=true)
 (b:Bool) (t:Nat) (w:World) (h:Z0 P ops.toList V1 (Z4 ops.toList (H1 ops.toList)) j w):Z0 P ops.toList V1 ((Region.schedule b ops t).filterMap (ops[·]?)) j w:=by
 obtain ⟨L,l,i,f⟩:=Q4B a b t
 simp only[Vo,Bool.and_eq_true] at a
 obtain ⟨⟨⟨⟨⟨E,D⟩,u⟩,C⟩,⟨B,y⟩,z⟩,o⟩:=a
 generalize H1 ops.toList=e at*
 rw[l]
 refine Q3T i f u (bit:=F0 ops.toList e) (fun _ _ h=>h) (fun p q d k=>?_) ?_ w h
 ·simp only[Q8b,Bool.and_eq_true] at g
  exact List.all_eq_true.1 (List.all_eq_true.1 g.2 q (by simpa using k)) p (by simpa using d)
 ·refine Dw L [] (L:=L) rfl fun n q c m p r d=>?_
  cases v:F0 ops.toList e p q with
  | false=>rfl
  | true=>
   have A:=i.hC n q c m p v (i.hlt p (by rw[m];simp[r]))
   have s:=i.hn
   rw[m] at s
   exact absurd rfl ((List.nodup_append.1 s).2.2 p A p (by simp[r]))
def X3m (b:List Nat) (a c:Nat):List Nat:=((b.erase a).takeWhile (· !=c))++a::((b.erase a).dropWhile (· !=c))
def Q62 (ops:List Oper) (d b:List Nat) (a c:Nat):Bool:=
 Q5h ops b&&Xr (R3 (Z4 ops b))&&
  ((List.range ops.length).all fun q=>(List.range q).all fun p=>(F0 ops d p q||(d.getD p 0==c&&d.getD q 0==a))||Q3B ops (ops.getD (d.getD p 0) default) (ops.getD (d.getD q 0) default))&&
  ((List.range ops.length).all fun q=>(List.range q).all fun p=>(F0 ops b p q||(b.getD p 0==a&&b.getD q 0==c))||Q3B ops (ops.getD (b.getD p 0) default) (ops.getD (b.getD q 0) default))
def Q8i (ops:List Oper):Option (List Nat):=
 match ops.any Q5W&&ops.any Q3S&&ops.any Cg with
 | true=>match ops.findIdx Cg !=ops.findIdx Q3S&&Q62 ops (H1 ops) (X3m (H1 ops) (ops.findIdx Cg) (ops.findIdx Q3S)) (ops.findIdx Cg) (ops.findIdx Q3S) with
  | true=>some (X3m (H1 ops) (ops.findIdx Cg) (ops.findIdx Q3S))
  | false=>none
 | false=>none
theorem X1L {ops:Array Oper} {a f:List Nat} {x y:Nat} (U:f.Nodup) (z: ∀i∈f,i<ops.toList.length∧a.getD (a.idxOf i) 0=i) (t:Arr ops.toList a (f.map (a.idxOf ·))) (m: ∀e r b,f≠e++y::(r++x::b)):
 (f.map (a.idxOf ·)).Pairwise fun q p=>p<q→(F0 ops.toList a p q||(a.getD p 0==x&&a.getD q 0==y))=false:=by
 refine Dw _ [] (L:=f.map (a.idxOf ·)) rfl fun e q b c p l D=>?_
 rw[Bool.or_eq_false_iff]
 constructor
 ·cases E:F0 ops.toList a p q with
  | false=>rfl
  | true=>
   have h:=t.hC e q b c p E (t.hlt p (by rw[c];simp[l]))
   have g:=t.hn
   rw[c] at g
   exact absurd rfl ((List.nodup_append.1 g).2.2 p h p (by simp[l]))
 ·rw[Bool.and_eq_false_iff]
  refine Classical.byContradiction fun d=>?_
  rw[not_or] at d
  obtain ⟨h,g⟩:=d
  have h:a.getD p 0=x:=by simpa using h
  have g:a.getD q 0=y:=by simpa using g
  rw[List.map_eq_append_iff] at c
  obtain ⟨j,n,R,_,w⟩:=c
  rw[List.map_eq_cons_iff] at w
  obtain ⟨i,s,J,Q,u⟩:=w
  rw[←u,List.mem_map] at l
  obtain ⟨k,M,o⟩:=l
  obtain ⟨B,C,O⟩:=List.append_of_mem M
  subst J R O
  have v:=(z i (by simp)).2
  have A:=(z k (by simp)).2
  rw[Q] at v
  rw[o] at A
  have N:i=y:=by rw[←v];exact g
  have H:k=x:=by rw[←A];exact h
  subst N H
  exact m j B C rfl
theorem X2c (P:Program) (ops:Array Oper) (V1:List Value→World→Prop) (D:List Value) (v:Vo ops.toList D.length=true) {d:List Nat} {a c:Nat} (ac:a≠c) (B:Q62 ops.toList (H1 ops.toList) d a c=true)
 (b:Bool) (t:Nat) (w:World) (h1:Z0 P ops.toList V1 (Z4 ops.toList (H1 ops.toList)) D w) (Y:Z0 P ops.toList V1 (Z4 ops.toList d) D w):Z0 P ops.toList V1 ((Region.schedule b ops t).filterMap (ops[·]?)) D w:=by
 simp only[Vo,Bool.and_eq_true] at v
 obtain ⟨⟨⟨⟨⟨U,R⟩,X⟩,hd⟩,⟨A,r⟩,z⟩,n⟩:=v
 simp only[Q62,Bool.and_eq_true] at B
 obtain ⟨⟨⟨l,H⟩,Q⟩,E⟩:=B
 by_cases u: ∃i g f,Region.schedule b ops t=i++a::(g++c::f)
 ·obtain ⟨M,s,J,C,O⟩:=Tn U R A r z l b t
  rw[M]
  refine Q3T s J H (bit:=fun p q=>F0 ops.toList d p q||(d.getD p 0==a&&d.getD q 0==c)) (fun p q h=>by rw[h];rfl) (fun p q k j=>?_) (X1L C O s fun i g f e=>?_) w Y
  ·exact List.all_eq_true.1 (List.all_eq_true.1 E q (by simpa using j)) p (by simpa using k)
  ·obtain ⟨V,W,N,e'⟩:=u
   have o: ∀{L p m q:List Nat} {x y:Nat},L=p++x::(m++y::q)→L[p.length]? =some x∧L[p.length+1+m.length]? =some y∧p.length+1+m.length<L.length:=by
    rintro L p m q x y rfl
    refine ⟨by simp,?_,by simp;omega⟩
    rw[List.getElem?_append_right (by omega),show p.length+1+m.length-p.length=m.length+1 by omega,List.getElem?_cons_succ]
    simp
   obtain ⟨g1,g2,g3⟩:=o e
   obtain ⟨g4,Z,g6⟩:=o e'
   have k1:=(List.getElem?_inj (by omega) C).1 (g1.trans Z.symm)
   have k2:=(List.getElem?_inj (by omega) C).1 (g2.trans g4.symm)
   omega
 ·obtain ⟨M,s,J,C,O⟩:=Tn U R A r z n b t
  rw[M]
  refine Q3T s J X (bit:=fun p q=>F0 ops.toList (H1 ops.toList) p q||((H1 ops.toList).getD p 0==c&&(H1 ops.toList).getD q 0==a)) (fun p q h=>by rw[h];rfl) (fun p q k j=>?_) (X1L C O s fun i g f e=>u ⟨i,g,f,e⟩) w h1
  exact List.all_eq_true.1 (List.all_eq_true.1 Q q (by simpa using j)) p (by simpa using k)
theorem X2X (P:Program) (ops:Array Oper) (V1:List Value→World→Prop) (d:List Value) (f:Vo ops.toList d.length=true) {a:List Nat} (c:Q8i ops.toList=some a)
 (b:Bool) (t:Nat) (w:World) (h:Z0 P ops.toList V1 (Z4 ops.toList (H1 ops.toList)) d w∧Z0 P ops.toList V1 (Z4 ops.toList a) d w):Z0 P ops.toList V1 ((Region.schedule b ops t).filterMap (ops[·]?)) d w:=by
 unfold Q8i at c
 split at c
 ·split at c
  ·rename_i e
   cases c
   rw[Bool.and_eq_true] at e
   exact X2c P ops V1 d f (by simpa using e.1) e.2 b t w h.1 h.2
  ·cases c
 ·cases c
theorem X1K: ∃f:World→(World→Prop)→Prop,f=fun w A=>A w.drew:=⟨_,rfl⟩
noncomputable def sq:World→(World→Prop)→Prop:=Classical.choose X1K
theorem Q8W:sq=fun w A=>A w.drew:=Classical.choose_spec X1K
def Q5n:List Ent→Nat→Ent→(List Ent→Prop)→Prop
 | [],_,_,k=>k []
 | _::l,0,e,k=>k (e::l)
 | x::l,n+1,e,k=>Q5n l n e (fun l'=>k (x::l'))
def Q5i (S:List Ent) (d:Option Nat) (e:Ent) (k:List Ent→Prop):Prop:=
 match d with
 | some d=>Q5n S d e k
 | none=>k S
def Q8U:List Ent→Nat→(Ent→Prop)→Prop
 | [],_,k=>k (.val undef)
 | x::_,0,k=>k x
 | _::l,n+1,k=>Q8U l n k
def Q9o (S:List Ent) (x:Operand) (k:Ent→Prop):Prop:=
 match x with
 | .tmp t=>Q8U S t k
 | .const v=>k (.val v)
 | .global g=>k (.val (.pointer (some ⟨g,0,none⟩)))
 | .func f=>k (.val (.func (.func f) #[] #[]))
def Q1O (u:Nat→Value):List Ent→(List Value→Prop)→Prop
 | [],k=>k []
 | .val v::S,k=>Q1O u S (fun l=>k (v::l))
 | .ref j::S,k=>Q1O u S (fun l=>k (u j::l))
def Q8A:List Value→(List Ent→Prop)→Prop
 | [],k=>k []
 | v::l,k=>Q8A l (fun S=>k (.val v::S))
theorem Q5S: ∀(S:List Ent) (n:Nat) (e:Ent) (k:List Ent→Prop),Q5n S n e k=k (Q2K S n e)
 | [],_,_,_=>rfl
 | _::_,0,_,_=>rfl
 | _::l,n+1,e,k=>by simp only[Q5n,Q2K,Q5S l n e]
theorem Q2W (S:List Ent) (d:Option Nat) (e:Ent) (k:List Ent→Prop):Q5i S d e k=k (putE S d e):=by
 cases d with
 | none=>rfl
 | some d=>exact Q5S S d e k
theorem Q6M: ∀(S:List Ent) (n:Nat) (k:Ent→Prop),Q8U S n k=k (getE S n)
 | [],_,_=>rfl
 | _::_,0,_=>rfl
 | _::l,n+1,k=>Q6M l n k
theorem X0j (S:List Ent) (x:Operand) (k:Ent→Prop):Q9o S x k=k (entOf S x):=by
 cases x with
 | tmp t=>exact Q6M S t k
 | _=>rfl
theorem Q2B (u:Nat→Value): ∀(S:List Ent) (k:List Value→Prop),Q1O u S k=k (Qe u S)
 | [],_=>rfl
 | .val v::S,k=>by simp only[Q1O,Q2B u S];rfl
 | .ref j::S,k=>by simp only[Q1O,Q2B u S];rfl
theorem Q7X: ∀(l:List Value) (k:List Ent→Prop),Q8A l k=k (l.map .val)
 | [],_=>rfl
 | v::l,k=>by simp only[Q8A,Q7X l];rfl
noncomputable def So (P:Program) (ops:List Oper) (T:World→World→Prop) (B:World→Prop) (V1:List Value→World→Prop) (tail:List Oper):Nat→List Oper→List Ent→Cs→List Nat→Prop
 | _,[],S,b,done=>Ko done (fun _=>undef) fun u=> ∀w,B w→Q1V b u w (Q1O u S fun l=>P6 P ops V1 tail l w) done
 | i,o::a,S,b,done=>
  match mv o with
  | some x=>Q9o S x fun e=>Q5i S o.dst e fun S=>So P ops T B V1 tail (i+1) a S b done
  | none=>match Q5W o with
   | true=>Cl T (fun φ=>Ko (refs ops S o) (fun _=>undef) fun u=> ∀w,B w→Iq b u w (runOp P ops (Qe u S) o w (dk T (φ ((refs ops S o).map u)) w)) (refs ops S o))
    (fun φ=>Q5i S o.dst (.ref i) fun c=>So P ops T B V1 tail (i+1) a c (b++[(i,refs ops S o,φ)]) (done++[i]))
   | false=>Q5 T (fun φ=>Ko (refs ops S o) (fun _=>undef) fun u=> ∀w,B w→Iq b u w (runOp P ops (Qe u S) o w (dk T φ w)) (refs ops S o))
    (fun φ=>Q5i S o.dst (.ref i) fun c=>So P ops T B V1 tail (i+1) a c (b++[(i,[],fun _=>φ)]) (done++[i]))
theorem By (P:Program) (ops:List Oper) (T:World→World→Prop) (B:World→Prop) (V1:List Value→World→Prop) (tail:List Oper): ∀(a:List Oper) (i:Nat) (S:List Ent) (b:Cs) (done:List Nat),
 So P ops T B V1 tail i a S b done=chain P ops T B V1 tail i a S b done
 | [],i,S,b,done=>by simp only[So,chain,Q2B]
 | o::a,i,S,b,done=>by
  simp only[So,chain]
  split
  ·rw[X0j,Q2W,By]
  ·split
   ·congr 1
    funext φ
    rw[Q2W,By]
   ·congr 1
    funext φ
    rw[Q2W,By]
noncomputable def X1s (P:Program) (ops:List Oper) (V1:List Value→World→Prop) (l:List Value) (w:World):Prop:=
 dr w fun T B=>Q8A l fun S=>So P ops T B V1 ((Z4 ops (H1 ops)).drop (Rn ops (H1 ops) ops.length)) 0 ((Z4 ops (H1 ops)).take (Rn ops (H1 ops) ops.length)) S [] []
def Q1y (a b:List Nat):Bool:=a.all (b.contains ·)&&b.all (a.contains ·)
theorem Sh {a b:List Nat} (h:Q1y a b=true) (i:Nat):a.contains i=b.contains i:=by
 simp only[Q1y,Bool.and_eq_true,List.all_eq_true] at h
 rw[Bool.eq_iff_iff]
 constructor
 ·intro c;exact h.1 i (by simpa using c)
 ·intro c;exact h.2 i (by simpa using c)
abbrev V9:=List (Option (List Nat×List Nat))
def V9.slots (a:V9):List (Option (List Nat)):=a.map (·.map (·.1))
theorem V9.slots_get (a:V9) (k:Nat):a.slots.getD k none=(a.getD k none).map (·.1):=by
 simp only[V9.slots,List.getD_eq_getElem?_getD,List.getElem?_map]
 cases a[k]? <;>rfl
noncomputable def Wx (P:Program) (a:V9) (b:List (Option (List Nat))):Nat→Code→Hp→List Value→World→Prop
 | _, .skip,Q,l,w=>Q .normal l w
 | _, .label _,Q,l,w=>Q .normal l w
 | _, .exit id,Q,l,w=>Q (.exit id) l w
 | _, .ret,Q,l,w=>Q .ret l w
 | _, .region _ ops false,Q,l,w=>P6 P ops.toList (fun l w=>Q .normal l w) ops.toList l w
 | _, .region _ ops true,Q,l,w=>match Vo ops.toList l.length with
  | true=>match Q8b ops.toList (H1 ops.toList) with
   | true=>sq w fun w=>P6 P ops.toList (fun l w=>Q .normal l w) (Z4 ops.toList (H1 ops.toList)) l w
   | false=>match Q8i ops.toList with
    | some h=>sq w fun w=>P6 P ops.toList (fun l w=>Q .normal l w) (Z4 ops.toList (H1 ops.toList)) l w∧P6 P ops.toList (fun l w=>Q .normal l w) (Z4 ops.toList h) l w
    | none=>X1s P ops.toList (fun l w=>Q .normal l w) l w
  | false=>False
 | k, .seq x y,Q,l,w=>match a.getD k none with
  | none=>Wx P a b (k+1) x (thn (fun l w=>Wx P a b (k+1+Qo x) y Q l w) Q) l w
  | some (f,g)=>match Q1y g (O3 b (k+1) x) with
   | true=>jn w (fun J w=>Wx P a b (k+1) x (thn (fun l' w'=>J (Dm l' f) w') Q) l w)
    (fun z d w=>Fy f g z d 0 l fun l=>Wx P a b (k+1+Qo x) y Q l w)
   | false=>False
 | k, .cond c x y,Q,l,w=>X1 (ev l c) (Wx P a b k x Q l w) (Wx P a b (k+Qo x) y Q l w)
 | k, .block id c,Q,l,w=>Wx P a b k c (Q38 id Q) l w
 | k, .loop c,Q,l,w=>match a.getD k none with
  | none=>False
  | some (f,g)=>match Q1y g (O3 b (k+1) c) with
   | true=>lp (Dm l f) w (fun e x d w=>Fy f g x d 0 l fun l=>Wx P a b (k+1) c (thn (fun l' w'=>e (Dm l' f) w') Q) l w)
   | false=>False
 | _,_,_,_,_=>False
theorem Q0I {next a:List Value→World→Prop} {Q b:Hp} (c: ∀l w,next l w→a l w) (d: ∀e l w,Q e l w→b e l w): ∀e l w,thn next Q e l w→thn a b e l w:=by
 intro e l w h;cases e<;>first | exact c _ _ h | exact d _ _ _ h
theorem X1c (P:Program) (m:V9) (c:Code): ∀(k:Nat) (Q j:Hp) (l:List Value) (w:World),(∀e l w,Q e l w→j e l w)→
 Wx P m m.slots k c Q l w→Dh P m.slots k c j l w:=by
 induction c with
 | skip=>intro k Q j l w g h;exact g _ _ _ h
 | label n=>intro k Q j l w g h;exact g _ _ _ h
 | exit id=>intro k Q j l w g h;exact g _ _ _ h
 | ret=>intro k Q j l w g h;exact g _ _ _ h
 | goto n=>intro k Q j l w g h;exact h.elim
 | refuse s=>intro k Q j l w g h;exact h.elim
 | scope c=>intro k Q j l w g h;exact h.elim
 | rangeFunc f p a b=>intro k Q j l w g h;exact h.elim
 | region id ops C=>
  intro k Q j l w g h
  cases C with
  | true=>
   simp only[Wx] at h
   split at h
   ·rename_i u
    intro t
    have v:Z0 P ops.toList (fun l w=>Q .normal l w) ((Region.schedule (P.follows .mixedOrders) ops t).filterMap (ops[·]?)) l w.drew:=by
     split at h
     ·rename_i V
      simp only[Q8W,Rk] at h
      exact X34 P ops _ l u V _ t _ h
     ·split at h
      ·rename_i Y M
       simp only[Q8W,Rk] at h
       exact X2X P ops _ l u M _ t _ h
      ·simp only[X1s,X1I,Q8c,Q7X,By] at h
       obtain ⟨T,B,h0,hT,h⟩:=h
       exact X2w P ops T B _ l u hT h (P.follows .mixedOrders) t w.drew h0
    refine Jw P _ _ _ (R3 ops.toList) l _ _ _ ?_ (Qm.refl _ _) (fun l w H _=>g _ _ _ H) v
    intro o E d v
    simp only[List.mem_filterMap] at E
    obtain ⟨i,_,hi⟩:=E
    simp only[R3,List.contains_eq_mem,List.mem_filterMap,decide_eq_true_eq]
    exact ⟨o,by simpa using Array.mem_of_getElem? hi,v⟩
   ·exact h.elim
  | false=>
   simp only[Wx] at h
   rw[Rk] at h
   refine Jw P _ _ _ (R3 ops.toList) l _ _ _ ?_ (Qm.refl _ _) (fun l w H _=>g _ _ _ H) h
   intro o E d v
   simp only[R3,List.contains_eq_mem,List.mem_filterMap,decide_eq_true_eq]
   exact ⟨o,E,v⟩
 | seq x y r q=>
  intro k Q j l w g h
  simp only[Wx,Dh] at h⊢
  rw[V9.slots_get]
  split at h
  ·rename_i A
   simp only[A,Option.map_none]
   exact r _ _ _ _ _ (Q0I (fun l w h=>q _ _ _ _ _ g h) g) h
  ·rename_i W wr A
   simp only[A,Option.map_some]
   split at h
   ·rename_i U
    obtain ⟨J,h1,M⟩:=Q5C h
    refine Yp J (r _ _ _ _ _ (Q0I (fun l w h=>h) g) h1) fun z d w hz=>?_
    have Z:=M z d w hz
    rw[Q4D,Bs _ _ _ (Sh U)] at Z
    exact q _ _ _ _ _ g Z
   ·exact h.elim
 | cond c x y r q=>
  intro k Q j l w g h
  exact Q50 (r k _ _ _ _ g) (q _ _ _ _ _ g) h
 | block id c L=>
  intro k Q j l w g h
  refine L k _ _ _ _ ?_ h
  intro e l' w' D
  cases e with
  | exit ae=>simp only[Q38] at D⊢;split<;>rename_i R<;>simp only[R,if_true,if_false] at D<;>exact g _ _ _ D
  | _=>exact g _ _ _ D
 | loop c L=>
  intro k Q j l w g h
  simp only[Wx,Dh] at h⊢
  split at h
  ·exact h.elim
  ·rename_i W wr A
   have O:(m.slots.getD k none).getD []=W:=by rw[V9.slots_get,A];rfl
   split at h
   ·rename_i U
    subst O
    refine Q4N (fun N x d w X=>?_) h
    rw[Q4D,Bs _ _ _ (Sh U)] at X
    exact L _ _ _ _ _ (Q0I (fun l w h=>h) g) X
   ·exact h.elim
def Q3A (P:Program) (t:TypeId) (a:Value) (w:World) (K:Value→Prop):Prop:= ∃v,(do loadVar t (←asAddr a):Sem Value).run P w= .ok v w∧K v
theorem Q39: ∃f:Program→TypeId→Value→World→(Value→Prop)→Prop,f=Q3A:=⟨_,rfl⟩
noncomputable def Y8:Program→TypeId→Value→World→(Value→Prop)→Prop:=Classical.choose Q39
theorem Q3x:Y8=Q3A:=Classical.choose_spec Q39
noncomputable def Q5B (P:Program) (l:List Value) (K:List Value→World→Prop):List ResultVar→List Value→World→Prop
 | [],b,w=>K b.reverse w
 | .tmp t::c,b,w=>Q5B P l K c (get l t::b) w
 | .cell a t::c,b,w=>Y8 P t (get l a) w fun v=>Q5B P l K c (v::b) w
def Q3j:List Value→Value
 | [v]=>v
 | vs=> .tuple vs.toArray
noncomputable def results (P:Program) (a:List ResultVar) (K:Value→World→Prop) (l:List Value) (w:World):Prop:=
 Q5B P l (fun vs w=>K (Q3j vs) w) a [] w
noncomputable def Q8g (P:Program) (fn:Func) (K:Value→World→Prop):Hp
 | .normal,l,w | .ret,l,w=>results P fn.results.toList K l w
 | _,_,_=>False
def X15 (K:Value→World→Prop) (e:Ending) (w:World):Prop:=match e with | .returned v=>K v w | _=>False
theorem Q6t (a:Array Value) (t:Nat):a.getD t undef=get a.toList t:=by
 simp[get,List.getD_eq_getElem?_getD]
theorem Q9M (vs:List Value):(if h:vs.toArray.size=1 then vs.toArray[0] else Value.tuple vs.toArray)=Q3j vs:=by
 match vs with
 | []=>rfl
 | [v]=>rfl
 | _::_::_=>rfl
theorem Q2H (P:Program) (l:List Value) (K:List Value→World→Prop) (f:ResultVar→Sem Value)
 (c: ∀t,f (.tmp t)=Pure.pure (get l t)) (d: ∀a t,f (.cell a t)=(do loadVar t (←asAddr (get l a)))): ∀(e:List ResultVar) (b:List Value) (w:World),Q5B P l K e b w→
 ∃vs,(e.mapM f).run P w= .ok vs w∧K (b.reverse++vs) w
 | [],b,w,h=>⟨[],by simp,by rw[List.append_nil];exact h⟩
 | .tmp t::e,b,w,h=>by
  obtain ⟨vs,i,g⟩:=Q2H P l K f c d e _ w h
  refine ⟨get l t::vs,?_,by simpa using g⟩
  rw[List.mapM_cons,c]
  simp[i]
 | .cell a t::e,b,w,h=>by
  simp only[Q5B,Q3x] at h
  obtain ⟨v,j,h⟩:=h
  obtain ⟨vs,i,g⟩:=Q2H P l K f c d e _ w h
  refine ⟨v::vs,?_,by simpa using g⟩
  rw[List.mapM_cons,d,Sem.run_bind,j]
  simp[i]
def X2N (a:Array Value):ResultVar→Sem Value
 | .tmp t=>Pure.pure (a.getD t undef)
 | .cell b t=>do loadVar t (←asAddr (a.getD b undef))
theorem Q65 (fn:Func) (a:Array Value):Go.results fn a=(do
 let vs←fn.results.mapM (X2N a)
 Pure.pure (if h:vs.size=1 then vs[0] else .tuple vs)):=by
 unfold Go.results
 congr 1
theorem Q2m (P:Program) (fn:Func) (K:Value→World→Prop) (a:Array Value) (w:World) (h:results P fn.results.toList K a.toList w):
 ∃v,(Go.results fn a).run P w= .ok v w∧K v w:=by
 rw[Q65,Array.mapM_eq_mapM_toList]
 obtain ⟨vs,b,c⟩:=Q2H P a.toList (fun vs w=>K (Q3j vs) w) (X2N a) (fun t=>by rw[←Q6t];rfl) (fun d t=>by rw[←Q6t];rfl) fn.results.toList [] w h
 refine ⟨Q3j vs,?_,by simpa using c⟩
 rw[Sem.run_bind,Sem.run_map,b]
 simp only[Result.andThen_ok,Sem.run_pure,Q9M]
def Q0y (fn:Func) (a:List Value):List Value:=a++List.replicate (fn.ntmps-a.length) undef
theorem Q6G {P:Program} {f:FuncId} {fn:Func} {c:Code} {b:List Value} {w:World} {K:Value→World→Prop} (d:List (Option (List Nat)))
 (k:P.funcs[f]? =some fn) (j:fn.body=some c) (h:Dh P d 0 c (Q8g P fn K) (Q0y fn b) w):Calls P f b.toArray w (X15 K):=by
 refine calls_of_wp k j (wp_mono (X0p P d c 0 (Q8g P fn K) _ w rfl ?_) ?_)
 ·have:(b.toArray++Array.replicate (fn.ntmps-b.toArray.size) undef).toList=Q0y fn b:=by simp[Q0y]
  simp only[this];exact h
 ·intro e a w ⟨i,g⟩
  cases e with
  | normal=>exact ⟨i,Q2m P fn K _ _ g⟩
  | ret=>exact ⟨i,Q2m P fn K _ _ g⟩
  | _=>exact g.elim
theorem Wq {P:Program} {f:FuncId} {fn:Func} {a:List Value} {w:World} {K:Value→World→Prop}
 (k:P.funcs[f]? =some fn) (d:fn.body.isSome=true) (g:(fn.name== "runtime.NumGoroutine")=false) (h:Calls P f a.toArray w (X15 K)):Q1 P f a w K:=by
 have i:(callFunc f a.toArray).run P w= .ok (.enter f a.toArray) w:=by
  unfold callFunc
  simp only[Sem.run_bind,run_program,Result.andThen_ok,k,g,Bool.false_eq_true,if_false]
  cases b:fn.body with
  | none=>rw[b] at d;cases d
  | some c=>simp
 unfold Q1
 rw[Qa]
 unfold T2
 rw[i]
 refine h.mono fun e w' j=>?_
 cases e<;>exact j
theorem Q4c {P:Program} {f:FuncId} {fn:Func} {a:List Value} {w:World} {K:Value→World→Prop}
 (k:P.funcs[f]? =some fn) (d:fn.body.isSome=true) (g:(fn.name== "runtime.NumGoroutine")=false) (h:Q1 P f a w K):Calls P f a.toArray w (X15 K):=by
 have i:(callFunc f a.toArray).run P w= .ok (.enter f a.toArray) w:=by
  unfold callFunc
  simp only[Sem.run_bind,run_program,Result.andThen_ok,k,g,Bool.false_eq_true,if_false]
  cases b:fn.body with
  | none=>rw[b] at d;cases d
  | some c=>simp
 unfold Q1 at h
 rw[Qa] at h
 unfold T2 at h
 rw[i] at h
 refine Calls.mono h fun e w' j=>?_
 cases e<;>exact j
theorem X22 {P:Program} {f:FuncId} {fn:Func} {b:List Value} {w:World} {K:Value→World→Prop} (a:V9)
 (g:P.funcs[f]? =some fn) (d:fn.body.isSome=true) (i:(fn.name== "runtime.NumGoroutine")=false)
 (h:Wx P a a.slots 0 (fn.body.getD .skip) (Q8g P fn K) (Q0y fn b) w):Q1 P f b w K:=by
 refine Wq g d i ?_
 obtain ⟨c,e⟩:=Option.isSome_iff_exists.1 d
 rw[e] at h
 exact Q6G a.slots g e (X1c P a c 0 _ _ _ _ (fun _ _ _ h=>h) h)
theorem Q9 {P:Program} {f:FuncId} {fn:Func} {a:List Value} {w:World} {K:Value→World→Prop} {g:Prop} (b:V9)
 (i:P.funcs[f]? =some fn) (c:fn.body.isSome=true) (d:(fn.name== "runtime.NumGoroutine")=false)
 (e:g=Wx P b b.slots 0 (fn.body.getD .skip) (Q8g P fn K) (Q0y fn a) w) (h:g):Q1 P f a w K:=
 X22 b i c d (e▸h)
theorem Z9 {P:Program} {f:FuncId} {first caps:List Value} {a:List Value} {w:World} {K:Value→World→Prop} (h:Q1 P f (first++a++caps) w K):Z3 P (.func (.func f) first.toArray caps.toArray) a w K:=by
 simpa [Z3,Q1,Deferred.ofValue,invoke,pure_bind,List.append_toArray] using h
end Go.Emb

namespace Go.Proofs.YtjdiakhipmggjaaGreatDoor
noncomputable abbrev P : Program := Tryz.prog
namespace F
abbrev c6 : Nat := 6
abbrev cL : Nat := 12
abbrev aD : Nat := 13
abbrev aj : Nat := 14
abbrev cM : Nat := 15
abbrev aI : Nat := 16
abbrev c1 : Nat := 17
abbrev ag : Nat := 18
abbrev a7 : Nat := 20
abbrev ah : Nat := 21
abbrev b5 : Nat := 22
abbrev bB : Nat := 23
abbrev ak : Nat := 24
abbrev aE : Nat := 25
abbrev al : Nat := 26
abbrev a8 : Nat := 27
abbrev bC : Nat := 28
abbrev bk : Nat := 29
abbrev aQ : Nat := 30
abbrev cd : Nat := 31
abbrev c2 : Nat := 32
abbrev am : Nat := 33
abbrev av : Nat := 34
abbrev aR : Nat := 35
abbrev u : Nat := 36
abbrev aS : Nat := 37
abbrev c3 : Nat := 40
abbrev cD : Nat := 41
abbrev cw : Nat := 42
abbrev cx : Nat := 43
abbrev j : Nat := 44
abbrev bc : Nat := 45
abbrev o : Nat := 46
abbrev bl : Nat := 47
abbrev bm : Nat := 48
abbrev b6 : Nat := 49
abbrev aT : Nat := 50
abbrev aJ : Nat := 51
abbrev aF : Nat := 52
abbrev n : Nat := 53
abbrev cr : Nat := 54
abbrev bD : Nat := 55
abbrev bN : Nat := 56
abbrev bd : Nat := 57
abbrev bn : Nat := 58
abbrev bO : Nat := 59
abbrev bP : Nat := 60
abbrev bQ : Nat := 61
abbrev bR : Nat := 62
abbrev bS : Nat := 63
abbrev b1 : Nat := 64
abbrev aL : Nat := 65
abbrev aG : Nat := 66
abbrev b7 : Nat := 67
abbrev cQ : Nat := 68
abbrev s : Nat := 69
abbrev aU : Nat := 70
abbrev bE : Nat := 71
abbrev b8 : Nat := 72
abbrev p : Nat := 73
abbrev bF : Nat := 74
abbrev k : Nat := 75
abbrev bG : Nat := 76
abbrev cE : Nat := 77
abbrev cy : Nat := 78
abbrev a9 : Nat := 79
abbrev ad : Nat := 80
abbrev c7 : Nat := 81
abbrev h : Nat := 82
abbrev b9 : Nat := 83
abbrev x : Nat := 84
abbrev c8 : Nat := 85
abbrev c : Nat := 86
abbrev z : Nat := 87
abbrev aK : Nat := 88
abbrev bo : Nat := 89
abbrev ap : Nat := 90
abbrev aq : Nat := 91
abbrev b0 : Nat := 92
abbrev a : Nat := 93
abbrev aM : Nat := 94
abbrev cf : Nat := 95
abbrev be : Nat := 96
abbrev c4 : Nat := 97
abbrev aa : Nat := 98
abbrev bp : Nat := 99
abbrev bq : Nat := 100
abbrev b : Nat := 101
abbrev bf : Nat := 102
abbrev an : Nat := 103
abbrev b2 : Nat := 104
abbrev ba : Nat := 105
abbrev a1 : Nat := 106
abbrev a2 : Nat := 107
abbrev aN : Nat := 108
abbrev aP : Nat := 109
abbrev br : Nat := 110
abbrev y : Nat := 111
abbrev bH : Nat := 113
abbrev a0 : Nat := 114
abbrev cu : Nat := 115
abbrev bI : Nat := 116
abbrev q : Nat := 117
abbrev e : Nat := 118
abbrev a3 : Nat := 119
abbrev ai : Nat := 120
abbrev cm : Nat := 121
abbrev cn : Nat := 122
abbrev ab : Nat := 123
abbrev ao : Nat := 124
abbrev aV : Nat := 125
abbrev co : Nat := 126
abbrev aH : Nat := 127
abbrev cp : Nat := 128
abbrev aw : Nat := 129
abbrev cq : Nat := 130
abbrev ax : Nat := 131
abbrev bA : Nat := 132
abbrev bT : Nat := 133
abbrev ar : Nat := 134
abbrev bb : Nat := 135
abbrev ae : Nat := 136
abbrev af : Nat := 137
abbrev w : Nat := 138
abbrev c9 : Nat := 139
abbrev i : Nat := 140
abbrev cg : Nat := 141
abbrev g : Nat := 142
abbrev cN : Nat := 143
abbrev cA : Nat := 144
abbrev aW : Nat := 145
abbrev bJ : Nat := 146
abbrev bK : Nat := 147
abbrev bs : Nat := 148
abbrev bt : Nat := 149
abbrev bu : Nat := 150
abbrev aX : Nat := 151
abbrev bg : Nat := 152
abbrev aY : Nat := 153
abbrev r : Nat := 154
abbrev cv : Nat := 155
abbrev cR : Nat := 156
abbrev ch : Nat := 157
abbrev au : Nat := 158
abbrev cO : Nat := 159
abbrev d : Nat := 160
abbrev ay : Nat := 161
abbrev ci : Nat := 162
abbrev c5 : Nat := 163
abbrev cj : Nat := 164
abbrev cs : Nat := 165
abbrev f : Nat := 166
abbrev ca : Nat := 167
abbrev bW : Nat := 168
abbrev bX : Nat := 169
abbrev bU : Nat := 170
abbrev bi : Nat := 171
abbrev az : Nat := 172
abbrev bj : Nat := 173
abbrev cF : Nat := 174
abbrev aA : Nat := 175
abbrev cS : Nat := 179
abbrev ce : Nat := 180
abbrev v : Nat := 181
abbrev a4 : Nat := 182
abbrev b3 : Nat := 183
abbrev aO : Nat := 184
abbrev bL : Nat := 185
abbrev bv : Nat := 186
abbrev aC : Nat := 187
abbrev aZ : Nat := 190
abbrev cB : Nat := 191
abbrev cb : Nat := 192
abbrev ck : Nat := 193
abbrev l : Nat := 194
abbrev bY : Nat := 195
abbrev cl : Nat := 196
abbrev cJ : Nat := 197
abbrev m : Nat := 198
abbrev bZ : Nat := 199
abbrev ac : Nat := 202
abbrev b4 : Nat := 203
abbrev cc : Nat := 204
abbrev a5 : Nat := 208
abbrev cK : Nat := 209
abbrev cC : Nat := 210
abbrev cG : Nat := 211
abbrev a6 : Nat := 212
abbrev bw : Nat := 215
abbrev cT : Nat := 219
abbrev ct : Nat := 220
abbrev t : Nat := 221
abbrev cP : Nat := 222
abbrev cz : Nat := 224
abbrev bx : Nat := 225
abbrev bz : Nat := 226
abbrev aB : Nat := 227
abbrev bM : Nat := 228
abbrev cH : Nat := 229
abbrev bh : Nat := 230
abbrev c0 : Nat := 231
abbrev cI : Nat := 232
abbrev bV : Nat := 233
end F
namespace T
abbrev x : Nat := 0
abbrev a1 : Nat := 2
abbrev e : Nat := 3
abbrev u : Nat := 4
abbrev a2 : Nat := 5
abbrev c : Nat := 9
abbrev av : Nat := 12
abbrev an : Nat := 21
abbrev r : Nat := 22
abbrev v : Nat := 23
abbrev i : Nat := 26
abbrev a5 : Nat := 29
abbrev f : Nat := 33
abbrev g : Nat := 37
abbrev aq : Nat := 43
abbrev z : Nat := 44
abbrev a : Nat := 46
abbrev m : Nat := 51
abbrev h : Nat := 54
abbrev k : Nat := 65
abbrev n : Nat := 69
abbrev ak : Nat := 74
abbrev l : Nat := 76
abbrev o : Nat := 78
abbrev a3 : Nat := 80
abbrev a0 : Nat := 82
abbrev j : Nat := 83
abbrev b : Nat := 85
abbrev a4 : Nat := 88
abbrev a7 : Nat := 91
abbrev w : Nat := 94
abbrev q : Nat := 95
abbrev s : Nat := 96
abbrev d : Nat := 98
abbrev p : Nat := 100
abbrev ac : Nat := 120
abbrev ao : Nat := 126
abbrev y : Nat := 136
abbrev a9 : Nat := 139
abbrev ae : Nat := 140
abbrev a8 : Nat := 146
abbrev a6 : Nat := 148
abbrev au : Nat := 154
abbrev aj : Nat := 156
abbrev al : Nat := 157
abbrev aa : Nat := 165
abbrev ag : Nat := 168
abbrev t : Nat := 172
abbrev ax : Nat := 184
abbrev ab : Nat := 190
abbrev ah : Nat := 197
abbrev ai : Nat := 200
abbrev ar : Nat := 203
abbrev am : Nat := 205
abbrev aw : Nat := 220
abbrev ad : Nat := 225
abbrev af : Nat := 226
abbrev ap : Nat := 235
abbrev ay : Nat := 241
end T
namespace G
abbrev b : Nat := 0
abbrev e : Nat := 1
abbrev d : Nat := 2
abbrev a : Nat := 3
abbrev c : Nat := 4
end G
end Go.Proofs.YtjdiakhipmggjaaGreatDoor

set_option maxRecDepth 100000
namespace Go.Proofs.YtjdiakhipmggjaaGreatDoor
open Go.Emb
def Q5I:V9:=[none,none,none,none,some ([1,10],[1,3,10,11,12,13,14,15,16,17,18]),none,none,none,none,none]
def Q1p (w:World) (K:Value→World→Prop):Prop:= H3 P T.b [(0,(.string ⟨#[79,98,106,101,99,116]⟩))] w fun m w=>H3 P T.n [(0,(.string ⟨#[119,104,97,116]⟩)),(1,(.string ⟨#[116,101,120,116]⟩))] w fun i w=>buildSlice P T.k 1 [(0,i)] w fun l w=>H3 P T.b [(0,(.string ⟨#[70,97,117,108,116]⟩)),(1,(.string ⟨#[79,98,106,101,99,116]⟩)),(6,l)] w fun k w=>buildSlice P T.i 2 [(0,m),(1,k)] w fun j w=>Q2 P T.ao (.pointer (some ⟨G.b,0,none⟩)) w fun n w=>lp (α:=Value×Value) (j,(.int .i64 0)) w fun a b o w=>Q3 P .lss T.e (.tmp 10) (.const (.int .i64 6)) b.2 (.int .i64 6) w fun h w=>X1 h (C1 P T.ao n b.2 w fun f w=>H3 P T.b [(0,f),(1,(.string ⟨#[70,97,117,108,116]⟩)),(5,(.bool true))] w fun e w=>buildSlice P T.i 1 [(0,e)] w fun c w=>X3 P .append [T.i,T.i] T.i [false,false] [b.1,c] w fun g w=>Q3 P .add T.e (.tmp 10) (.const (.int .i64 1)) b.2 (.int .i64 1) w fun d w=>a (g,d) w) (K b.1 w)
theorem Q5t {w:World} {K:Value→World→Prop} (h:Q1p w K):Q1 P F.cD [] w K:=Q9 Q5I Tryz.func41 rfl (by decide) (by kernel_rfl) h
def Q6L:V9:=[none,none,none,some ([8],[2,4,8,9,10,11,12,13,14,15,16,17,18,19,20,21,22,23,24,25,26,27,28,29,30,31,32,33]),none,none,none,none,none,none,none]
def Q0q (X:Value) (w:World) (K:Value→World→Prop):Prop:= box P T.b X w fun b w=>fieldAddr P T.b b 7 w fun t5 w=>Q2 P T.j t5 w fun W w=>X3 P .len [T.j] T.e [false] [W] w fun Z w=>lp (α:=Value) (.int .i64 0) w fun g v d_ w=>Q3 P .lss T.e (.tmp 8) (.tmp 7) v Z w fun Y w=>X1 Y (indexAddr P T.j W v w fun t w=>Q2 P T.d t w fun J w=>V8 P T.d w fun a w=>Y0 P T.d a J w fun _u w=>fieldAddr P T.d a 1 w fun A w=>Q2 P T.h A w fun p w=>X3 P .len [T.h] T.e [false] [p] w fun l w=>Q3 P .gtr T.e (.tmp 14) (.const (.int .i64 32)) l (.int .i64 32) w fun c w=>Q0 c false w (fieldAddr P T.d a 6) fun H w=>Q0 c false w (Q2 P T.s H) fun L w=>Q0 c false w (X3 P .len [T.s] T.e [false] [L]) fun k w=>Q0 c false w (Q3 P .gtr T.e (.tmp 19) (.const (.int .i64 32)) k (.int .i64 32)) fun y w=>pick P c (.bool true) y w fun f w=>Q0 f false w (fieldAddr P T.d a 5) fun D w=>Q0 f false w (Q2 P T.q D) fun U w=>Q0 f false w (X3 P .len [T.q] T.e [false] [U]) fun s w=>Q0 f false w (Q3 P .gtr T.e (.tmp 25) (.const (.int .i64 200)) s (.int .i64 200)) fun u w=>pick P f (.bool true) u w fun h w=>Q0 h false w (fieldAddr P T.d a 4) fun E w=>Q0 h false w (Q2 P T.e E) fun B w=>Q0 h false w (Q3 P .gtr T.e (.tmp 30) (.const (.int .i64 64)) B (.int .i64 64)) fun i w=>pick P h (.bool true) i w fun z w=>X1 z (K (.bool true) w) (Q3 P .add T.e (.tmp 8) (.const (.int .i64 1)) v (.int .i64 1) w fun q w=>g q w)) (fieldAddr P T.b b 2 w fun M w=>Q2 P T.h M w fun m w=>X3 P .len [T.h] T.e [false] [m] w fun O w=>Q3 P .gtr T.e (.tmp 36) (.const (.int .i64 32)) O (.int .i64 32) w fun d w=>Q0 d false w (fieldAddr P T.b b 6) fun N w=>Q0 d false w (Q2 P T.k N) fun o w=>Q0 d false w (X3 P .len [T.k] T.e [false] [o]) fun j w=>Q0 d false w (Q3 P .gtr T.e (.tmp 41) (.const (.int .i64 32)) j (.int .i64 32)) fun C w=>pick P d (.bool true) C w fun e w=>Q0 e false w (fieldAddr P T.b b 7) fun n w=>Q0 e false w (Q2 P T.j n) fun r w=>Q0 e false w (X3 P .len [T.j] T.e [false] [r]) fun R w=>Q0 e false w (Q3 P .gtr T.e (.tmp 47) (.const (.int .i64 32)) R (.int .i64 32)) fun V w=>pick P e (.bool true) V w fun Q w=>K Q w)
theorem Q6d {a:Value} {w:World} {K:Value→World→Prop} (h:Q0q a w K):Q1 P F.cE [a] w K:=Q9 Q6L Tryz.func77 rfl (by decide) (by kernel_rfl) h
def Xx:V9:=[none,none,none,some ([8],[4,5,8,9,10,11,12,13,14,15,16,17,18]),none,none,none,none,none,none,none]
def B7 (g h:Value) (w:World) (K:Value→World→Prop):Prop:= X3 P .len [T.j] T.e [false] [g] w fun j w=>lp (α:=Value) (.int .i64 0) w fun a b k w=>Q3 P .lss T.e (.tmp 8) (.tmp 7) b j w fun i w=>X1 i (indexAddr P T.j g b w fun f w=>Q2 P T.d f w fun e w=>Z3 P h [e] w fun c w=>X1 c (K b w) (Q3 P .add T.e (.tmp 8) (.const (.int .i64 1)) b (.int .i64 1) w fun d w=>a d w)) (K (.int .i64 (-1)) w)
theorem Xw {b a:Value} {w:World} {K:Value→World→Prop} (h:B7 b a w K):Q1 P F.g [b,a] w K:=Q9 Xx Tryz.func142 rfl (by decide) (by kernel_rfl) h
def S7 (c b:Value) (w:World) (K:Value→World→Prop):Prop:= Q1 P F.g [c,b] w fun d w=>Q3 P .geq T.e (.tmp 7) (.const (.int .i64 0)) d (.int .i64 0) w fun a w=>K a w
theorem Qr {b a:Value} {w:World} {K:Value→World→Prop} (h:S7 b a w K):Q1 P F.a [b,a] w K:=Q9 (List.replicate 2 none) Tryz.func93 rfl (by decide) (by kernel_rfl) h
def Nv:V9:=[none,none,none,some ([8],[4,5,8,9,10,11,12,13,14,15,16,17,18]),none,none,none,none,none,none,none]
def Qy (g h:Value) (w:World) (K:Value→World→Prop):Prop:= X3 P .len [T.h] T.e [false] [g] w fun j w=>lp (α:=Value) (.int .i64 0) w fun a b k w=>Q3 P .lss T.e (.tmp 8) (.tmp 7) b j w fun i w=>X1 i (indexAddr P T.h g b w fun f w=>Q2 P T.c f w fun e w=>Q3 P .eql T.c (.tmp 11) (.tmp 15) h e w fun c w=>X1 c (K b w) (Q3 P .add T.e (.tmp 8) (.const (.int .i64 1)) b (.int .i64 1) w fun d w=>a d w)) (K (.int .i64 (-1)) w)
theorem Ni {b a:Value} {w:World} {K:Value→World→Prop} (h:Qy b a w K):Q1 P F.ay [b,a] w K:=Q9 Nv Tryz.func161 rfl (by decide) (by kernel_rfl) h
def T8 (c b:Value) (w:World) (K:Value→World→Prop):Prop:= Q1 P F.ay [c,b] w fun d w=>Q3 P .geq T.e (.tmp 7) (.const (.int .i64 0)) d (.int .i64 0) w fun a w=>K a w
theorem Vq {b a:Value} {w:World} {K:Value→World→Prop} (h:T8 b a w K):Q1 P F.ai [b,a] w K:=Q9 (List.replicate 2 none) Tryz.func120 rfl (by decide) (by kernel_rfl) h
def Bt (c:Value) (w:World) (K:Value→World→Prop):Prop:= box P T.d c w fun a w=>fieldAddr P T.d a 3 w fun b w=>Q2 P T.u b w fun d w=>K d w
theorem Q3u {a:Value} {w:World} {K:Value→World→Prop} (h:Bt a w K):Q1 P F.cm [a] w K:=Q9 (List.replicate 2 none) Tryz.func121 rfl (by decide) (by kernel_rfl) h
def Bp (d:Value) (w:World) (K:Value→World→Prop):Prop:= box P T.d d w fun a w=>fieldAddr P T.d a 3 w fun b w=>Q2 P T.u b w fun e w=>J8 P .not e w fun c w=>K c w
theorem Q3p {a:Value} {w:World} {K:Value→World→Prop} (h:Bp a w K):Q1 P F.cn [a] w K:=Q9 (List.replicate 2 none) Tryz.func122 rfl (by decide) (by kernel_rfl) h
def Vi:V9:=[none,none,none,some ([8],[4,5,8,9,10,11,12,13,14,15,16,17,18]),none,none,none,none,none,none,none]
def T1 (g h:Value) (w:World) (K:Value→World→Prop):Prop:= X3 P .len [T.h] T.e [false] [g] w fun j w=>lp (α:=Value) (.int .i64 0) w fun a b k w=>Q3 P .lss T.e (.tmp 8) (.tmp 7) b j w fun i w=>X1 i (indexAddr P T.h g b w fun f w=>Q2 P T.c f w fun e w=>Z3 P h [e] w fun c w=>X1 c (K b w) (Q3 P .add T.e (.tmp 8) (.const (.int .i64 1)) b (.int .i64 1) w fun d w=>a d w)) (K (.int .i64 (-1)) w)
theorem Vl {b a:Value} {w:World} {K:Value→World→Prop} (h:T1 b a w K):Q1 P F.w [b,a] w K:=Q9 Vi Tryz.func138 rfl (by decide) (by kernel_rfl) h
def K3 (c b:Value) (w:World) (K:Value→World→Prop):Prop:= Q1 P F.w [c,b] w fun d w=>Q3 P .geq T.e (.tmp 7) (.const (.int .i64 0)) d (.int .i64 0) w fun a w=>K a w
theorem Jk {b a:Value} {w:World} {K:Value→World→Prop} (h:K3 b a w K):Q1 P F.c [b,a] w K:=Q9 (List.replicate 2 none) Tryz.func86 rfl (by decide) (by kernel_rfl) h
def Vu (b a:Value) (w:World) (K:Value→World→Prop):Prop:= Q2 P T.a4 a w fun e w=>Z3 P e [b] w fun d w=>J8 P .not d w fun c w=>K c w
theorem Fp {b a:Value} {w:World} {K:Value→World→Prop} (h:Vu b a w K):Q1 P F.ci [b,a] w K:=Q9 (List.replicate 2 none) Tryz.func162 rfl (by decide) (by kernel_rfl) h
def Nz (d c:Value) (w:World) (K:Value→World→Prop):Prop:= box P T.a4 c w fun a w=>E7 P (.func F.ci) [] [a] w fun f w=>Q1 P F.c [d,f] w fun e w=>J8 P .not e w fun b w=>K b w
theorem Kn {b a:Value} {w:World} {K:Value→World→Prop} (h:Nz b a w K):Q1 P F.ab [b,a] w K:=Q9 (List.replicate 2 none) Tryz.func123 rfl (by decide) (by kernel_rfl) h
def Q8O:V9:=[none,none,none,some ([],[4,6,9,10,11,12,13,14,15]),none,none,none,none,none,none]
def Q34 (h i:Value) (w:World) (K:Value→World→Prop):Prop:= rng P T.c h w fun g w=>lp (α:=Unit) () w fun a j k w=>V1 P g true T.x w fun f w=>ext P f 0 w fun b w=>X1 b (ext P f 2 w fun d w=>Z3 P i [d] w fun e w=>J8 P .not e w fun c w=>X1 c (K (.bool false) w) (a () w)) (K (.bool true) w)
theorem Q8N {b a:Value} {w:World} {K:Value→World→Prop} (h:Q34 b a w K):Q1 P F.cB [b,a] w K:=Q9 Q8O Tryz.func191 rfl (by decide) (by kernel_rfl) h
def Q0T (b:Value) (w:World) (K:Value→World→Prop):Prop:= Q3 P .geq T.an (.tmp 3) (.const (.int .i32 65)) b (.int .i32 65) w fun a w=>Q0 a true w (fun w J=>J b w) fun e w=>Q0 a true w (Q3 P .leq T.an (.tmp 6) (.const (.int .i32 90)) e (.int .i32 90)) fun d w=>pick P a d (.bool false) w fun c w=>K c w
theorem Q64 {a:Value} {w:World} {K:Value→World→Prop} (h:Q0T a w K):Q1 P F.cj [a] w K:=Q9 (List.replicate 2 none) Tryz.func164 rfl (by decide) (by kernel_rfl) h
def Q0J (b:Value) (w:World) (K:Value→World→Prop):Prop:= Q3 P .geq T.an (.tmp 3) (.const (.int .i32 97)) b (.int .i32 97) w fun a w=>Q0 a true w (fun w J=>J b w) fun e w=>Q0 a true w (Q3 P .leq T.an (.tmp 6) (.const (.int .i32 122)) e (.int .i32 122)) fun d w=>pick P a d (.bool false) w fun c w=>K c w
theorem Q6l {a:Value} {w:World} {K:Value→World→Prop} (h:Q0J a w K):Q1 P F.ck [a] w K:=Q9 (List.replicate 2 none) Tryz.func193 rfl (by decide) (by kernel_rfl) h
def Tw (c:Value) (w:World) (K:Value→World→Prop):Prop:= Q1 P F.cj [c] w fun i w=>Q0 i false w (fun w J=>J c w) fun l w=>Q0 i false w (Q1 P F.ck [l]) fun k w=>pick P i (.bool true) k w fun b w=>Q0 b false w (fun w J=>J c w) fun e w=>Q0 b false w (Q3 P .geq T.an (.tmp 10) (.const (.int .i32 48)) e (.int .i32 48)) fun h w=>Q0 b false w (fun w J=>J h w) fun a w=>Q0 a true w (fun w J=>J c w) fun f w=>Q0 a true w (Q3 P .leq T.an (.tmp 13) (.const (.int .i32 57)) f (.int .i32 57)) fun j w=>Q0 b false w (pick P a j (.bool false)) fun g w=>pick P b (.bool true) g w fun d w=>K d w
theorem Q54 {a:Value} {w:World} {K:Value→World→Prop} (h:Tw a w K):Q1 P F.cb [a] w K:=Q9 (List.replicate 2 none) Tryz.func192 rfl (by decide) (by kernel_rfl) h
def Q2p (c:Value) (w:World) (K:Value→World→Prop):Prop:= Q3 P .eql T.c (.tmp 3) (.const (.string ⟨#[]⟩)) c (.string ⟨#[]⟩) w fun d w=>Q0 d false w (fun w J=>J c w) fun n w=>Q0 d false w (X3 P .len [T.c] T.e [false] [n]) fun o w=>Q0 d false w (Q3 P .gtr T.e (.tmp 7) (.const (.int .i64 32)) o (.int .i64 32)) fun p w=>pick P d (.bool true) p w fun b w=>Q0 b false w (fun w J=>J c w) fun k w=>Q0 b false w (C1 P T.c k (.int .i64 0)) fun i w=>Q0 b false w (Q3 P .geq T.a2 (.tmp 12) (.const (.int .u8 48)) i (.int .u8 48)) fun g w=>Q0 b false w (fun w J=>J g w) fun a w=>Q0 a true w (fun w J=>J c w) fun e w=>Q0 a true w (C1 P T.c e (.int .i64 0)) fun l w=>Q0 a true w (Q3 P .leq T.a2 (.tmp 16) (.const (.int .u8 57)) l (.int .u8 57)) fun j w=>Q0 b false w (pick P a j (.bool false)) fun m w=>pick P b (.bool true) m w fun f w=>X1 f (K (.bool false) w) (Q1 P F.cB [c,(.func (.func F.cb) #[] #[])] w fun h w=>K h w)
theorem Q6Z {a:Value} {w:World} {K:Value→World→Prop} (h:Q2p a w K):Q1 P F.c5 [a] w K:=Q9 (List.replicate 5 none) Tryz.func163 rfl (by decide) (by kernel_rfl) h
def Q0N (c:Value) (w:World) (K:Value→World→Prop):Prop:= Q1 P F.c5 [c] w fun a w=>Q0 a true w (fun w J=>J c w) fun f w=>Q0 a true w (C1 P T.c f (.int .i64 0)) fun e w=>Q0 a true w (conv P T.a2 T.an e) fun d w=>Q0 a true w (Q1 P F.cj [d]) fun g w=>pick P a g (.bool false) w fun b w=>K b w
theorem Q6c {a:Value} {w:World} {K:Value→World→Prop} (h:Q0N a w K):Q1 P F.ao [a] w K:=Q9 (List.replicate 2 none) Tryz.func124 rfl (by decide) (by kernel_rfl) h
def Ll (o k n:Value) (w:World) (K:Value→World→Prop):Prop:= dr w fun a b=>Q5 a (fun d=> ∀w,b w→Q2 P T.ac k w (dk a d w)) fun d=>Q5 a (fun i=> ∀c w,b w→d c w→Z3 P c [o] w (dk a i w)) fun i=>Q5 a (fun e=> ∀w,b w→Q2 P T.ac k w (dk a e w)) fun e=>Q5 a (fun g=> ∀w,b w→Q2 P T.c n w (dk a g w)) fun g=>∀c l j m w,b w→d c w→i l w→e j w→g m w→ Z3 P j [m] w fun f w=>Q3 P .eql T.c (.tmp 7) (.tmp 10) l f w fun h w=>K h w
theorem Gs {c b a:Value} {w:World} {K:Value→World→Prop} (h:Ll c b a w K):Q1 P F.cs [c,b,a] w K:=Q9 (List.replicate 2 none) Tryz.func165 rfl (by decide) (by kernel_rfl) h
def Ac:V9:=[none,none,none,some ([9],[4,5,6,9,10,11,12,13,14,15,16,17,18,19]),none,none,none,none,none,none,none]
def Oi (j n:Value) (w:World) (K:Value→World→Prop):Prop:= box P T.ac n w fun a w=>X3 P .len [T.h] T.e [false] [j] w fun m w=>lp (α:=Value) (.int .i64 0) w fun c d o w=>Q3 P .lss T.e (.tmp 9) (.tmp 8) d m w fun f w=>X1 f (indexAddr P T.h j d w fun k w=>Q2 P T.c k w fun h w=>V8 P T.c w fun b w=>Y0 P T.c b h w fun _u w=>R8 P T.h j none (some d) none w fun e w=>E7 P (.func F.cs) [] [a,b] w fun l w=>Q1 P F.c [e,l] w fun g w=>X1 g (K (.bool false) w) (Q3 P .add T.e (.tmp 9) (.const (.int .i64 1)) d (.int .i64 1) w fun i w=>c i w)) (K (.bool true) w)
theorem Ap {b a:Value} {w:World} {K:Value→World→Prop} (h:Oi b a w K):Q1 P F.aV [b,a] w K:=Q9 Ac Tryz.func125 rfl (by decide) (by kernel_rfl) h
def Q3c (a:Value) (w:World) (K:Value→World→Prop):Prop:= K a w
theorem Q3z {a:Value} {w:World} {K:Value→World→Prop} (h:Q3c a w K):Q1 P F.co [a] w K:=Q9 (List.replicate 2 none) Tryz.func126 rfl (by decide) (by kernel_rfl) h
def Yn:V9:=[none,none,none,some ([8],[4,5,8,9,10,11,12,13,14,15,16,17,18]),none,none,none,none,none,none,none]
def G4 (g h:Value) (w:World) (K:Value→World→Prop):Prop:= X3 P .len [T.k] T.e [false] [g] w fun j w=>lp (α:=Value) (.int .i64 0) w fun a b k w=>Q3 P .lss T.e (.tmp 8) (.tmp 7) b j w fun i w=>X1 i (indexAddr P T.k g b w fun f w=>Q2 P T.n f w fun e w=>Z3 P h [e] w fun c w=>X1 c (K b w) (Q3 P .add T.e (.tmp 8) (.const (.int .i64 1)) b (.int .i64 1) w fun d w=>a d w)) (K (.int .i64 (-1)) w)
theorem Zd {b a:Value} {w:World} {K:Value→World→Prop} (h:G4 b a w K):Q1 P F.i [b,a] w K:=Q9 Yn Tryz.func140 rfl (by decide) (by kernel_rfl) h
def C8 (c b:Value) (w:World) (K:Value→World→Prop):Prop:= Q1 P F.i [c,b] w fun d w=>Q3 P .geq T.e (.tmp 7) (.const (.int .i64 0)) d (.int .i64 0) w fun a w=>K a w
theorem Xj {b a:Value} {w:World} {K:Value→World→Prop} (h:C8 b a w K):Q1 P F.f [b,a] w K:=Q9 (List.replicate 2 none) Tryz.func166 rfl (by decide) (by kernel_rfl) h
def Uh (q n r:Value) (w:World) (K:Value→World→Prop):Prop:= box P T.n q w fun b w=>dr w fun a c=>Q5 a (fun f=> ∀w,c w→Q2 P T.aa n w (dk a f w)) fun f=>Q5 a (fun g=> ∀w,c w→Q2 P T.n b w (dk a g w)) fun g=>Q5 a (fun i=> ∀e d w,c w→f e w→g d w→Z3 P e [d] w (dk a i w)) fun i=>Q5 a (fun l=> ∀w,c w→Q2 P T.aa n w (dk a l w)) fun l=>Q5 a (fun h=> ∀w,c w→Q2 P T.n r w (dk a h w)) fun h=>∀e d o p m w,c w→f e w→g d w→i o w→l p w→h m w→ Z3 P p [m] w fun j w=>Q3 P .eql T.c (.tmp 7) (.tmp 10) o j w fun k w=>K k w
theorem Ce {c b a:Value} {w:World} {K:Value→World→Prop} (h:Uh c b a w K):Q1 P F.ca [c,b,a] w K:=Q9 (List.replicate 2 none) Tryz.func167 rfl (by decide) (by kernel_rfl) h
def Fi:V9:=[none,none,none,some ([9],[4,5,6,9,10,11,12,13,14,15,16,17,18,19]),none,none,none,none,none,none,none]
def Vs (j n:Value) (w:World) (K:Value→World→Prop):Prop:= box P T.aa n w fun a w=>X3 P .len [T.k] T.e [false] [j] w fun m w=>lp (α:=Value) (.int .i64 0) w fun c d o w=>Q3 P .lss T.e (.tmp 9) (.tmp 8) d m w fun f w=>X1 f (indexAddr P T.k j d w fun k w=>Q2 P T.n k w fun h w=>V8 P T.n w fun b w=>Y0 P T.n b h w fun _u w=>R8 P T.k j none (some d) none w fun e w=>E7 P (.func F.ca) [] [a,b] w fun l w=>Q1 P F.f [e,l] w fun g w=>X1 g (K (.bool false) w) (Q3 P .add T.e (.tmp 9) (.const (.int .i64 1)) d (.int .i64 1) w fun i w=>c i w)) (K (.bool true) w)
theorem Bz {b a:Value} {w:World} {K:Value→World→Prop} (h:Vs b a w K):Q1 P F.aH [b,a] w K:=Q9 Fi Tryz.func127 rfl (by decide) (by kernel_rfl) h
def Bu (c:Value) (w:World) (K:Value→World→Prop):Prop:= box P T.n c w fun a w=>fieldAddr P T.n a 0 w fun b w=>Q2 P T.c b w fun d w=>K d w
theorem Q3D {a:Value} {w:World} {K:Value→World→Prop} (h:Bu a w K):Q1 P F.cp [a] w K:=Q9 (List.replicate 2 none) Tryz.func128 rfl (by decide) (by kernel_rfl) h
def Zy (q n r:Value) (w:World) (K:Value→World→Prop):Prop:= box P T.d q w fun b w=>dr w fun a c=>Q5 a (fun f=> ∀w,c w→Q2 P T.a9 n w (dk a f w)) fun f=>Q5 a (fun g=> ∀w,c w→Q2 P T.d b w (dk a g w)) fun g=>Q5 a (fun i=> ∀e d w,c w→f e w→g d w→Z3 P e [d] w (dk a i w)) fun i=>Q5 a (fun l=> ∀w,c w→Q2 P T.a9 n w (dk a l w)) fun l=>Q5 a (fun h=> ∀w,c w→Q2 P T.d r w (dk a h w)) fun h=>∀e d o p m w,c w→f e w→g d w→i o w→l p w→h m w→ Z3 P p [m] w fun j w=>Q3 P .eql T.c (.tmp 7) (.tmp 10) o j w fun k w=>K k w
theorem Rm {c b a:Value} {w:World} {K:Value→World→Prop} (h:Zy c b a w K):Q1 P F.bW [c,b,a] w K:=Q9 (List.replicate 2 none) Tryz.func168 rfl (by decide) (by kernel_rfl) h
def Bf:V9:=[none,none,none,some ([9],[4,5,6,9,10,11,12,13,14,15,16,17,18,19]),none,none,none,none,none,none,none]
def Vh (j n:Value) (w:World) (K:Value→World→Prop):Prop:= box P T.a9 n w fun a w=>X3 P .len [T.j] T.e [false] [j] w fun m w=>lp (α:=Value) (.int .i64 0) w fun c d o w=>Q3 P .lss T.e (.tmp 9) (.tmp 8) d m w fun f w=>X1 f (indexAddr P T.j j d w fun k w=>Q2 P T.d k w fun h w=>V8 P T.d w fun b w=>Y0 P T.d b h w fun _u w=>R8 P T.j j none (some d) none w fun e w=>E7 P (.func F.bW) [] [a,b] w fun l w=>Q1 P F.a [e,l] w fun g w=>X1 g (K (.bool false) w) (Q3 P .add T.e (.tmp 9) (.const (.int .i64 1)) d (.int .i64 1) w fun i w=>c i w)) (K (.bool true) w)
theorem Bb {b a:Value} {w:World} {K:Value→World→Prop} (h:Vh b a w K):Q1 P F.aw [b,a] w K:=Q9 Bf Tryz.func129 rfl (by decide) (by kernel_rfl) h
def Bv (c:Value) (w:World) (K:Value→World→Prop):Prop:= box P T.d c w fun a w=>fieldAddr P T.d a 0 w fun b w=>Q2 P T.c b w fun d w=>K d w
theorem Q32 {a:Value} {w:World} {K:Value→World→Prop} (h:Bv a w K):Q1 P F.cq [a] w K:=Q9 (List.replicate 2 none) Tryz.func130 rfl (by decide) (by kernel_rfl) h
def Jh (d c:Value) (w:World) (K:Value→World→Prop):Prop:= box P T.n d w fun a w=>Q2 P T.ag c w fun g w=>Q2 P T.n a w fun b w=>Z3 P g [b] w fun e w=>J8 P .not e w fun f w=>K f w
theorem Rp {b a:Value} {w:World} {K:Value→World→Prop} (h:Jh b a w K):Q1 P F.bX [b,a] w K:=Q9 (List.replicate 2 none) Tryz.func169 rfl (by decide) (by kernel_rfl) h
def Vg (d c:Value) (w:World) (K:Value→World→Prop):Prop:= box P T.ag c w fun a w=>E7 P (.func F.bX) [] [a] w fun f w=>Q1 P F.f [d,f] w fun e w=>J8 P .not e w fun b w=>K b w
theorem Bg {b a:Value} {w:World} {K:Value→World→Prop} (h:Vg b a w K):Q1 P F.ax [b,a] w K:=Q9 (List.replicate 2 none) Tryz.func131 rfl (by decide) (by kernel_rfl) h
def Q1j (c:Value) (w:World) (K:Value→World→Prop):Prop:= Q3 P .eql T.c (.tmp 3) (.const (.string ⟨#[105,110,116]⟩)) c (.string ⟨#[105,110,116]⟩) w fun f w=>Q0 f false w (fun w J=>J c w) fun h w=>Q0 f false w (Q3 P .eql T.c (.tmp 6) (.const (.string ⟨#[98,111,111,108]⟩)) h (.string ⟨#[98,111,111,108]⟩)) fun g w=>pick P f (.bool true) g w fun b w=>Q0 b false w (fun w J=>J c w) fun a w=>Q0 b false w (Q3 P .eql T.c (.tmp 10) (.const (.string ⟨#[116,101,120,116]⟩)) a (.string ⟨#[116,101,120,116]⟩)) fun e w=>pick P b (.bool true) e w fun d w=>K d w
theorem Q5Q {a:Value} {w:World} {K:Value→World→Prop} (h:Q1j a w K):Q1 P F.aP [a] w K:=Q9 (List.replicate 2 none) Tryz.func109 rfl (by decide) (by kernel_rfl) h
def Va (h i:Value) (w:World) (K:Value→World→Prop):Prop:= X3 P .len [T.c] T.e [false] [h] w fun o w=>X3 P .len [T.c] T.e [false] [i] w fun n w=>Q3 P .geq T.e (.tmp 6) (.tmp 8) o n w fun a w=>Q0 a true w (fun w J=>J h w) fun l w=>Q0 a true w (fun w J=>J h w) fun j w=>Q0 a true w (X3 P .len [T.c] T.e [false] [j]) fun d w=>Q0 a true w (fun w J=>J i w) fun m w=>Q0 a true w (X3 P .len [T.c] T.e [false] [m]) fun e w=>Q0 a true w (Q3 P .sub T.e (.tmp 13) (.tmp 15) d e) fun b w=>Q0 a true w (R8 P T.c l (some b) none none) fun k w=>Q0 a true w (fun w J=>J i w) fun c w=>Q0 a true w (Q3 P .eql T.c (.tmp 17) (.tmp 18) k c) fun f w=>pick P a f (.bool false) w fun g w=>K g w
theorem Bd {b a:Value} {w:World} {K:Value→World→Prop} (h:Va b a w K):Q1 P F.ac [b,a] w K:=Q9 (List.replicate 2 none) Tryz.func202 rfl (by decide) (by kernel_rfl) h
def Ox (b a:Value) (w:World) (K:Value→World→Prop):Prop:= Q1 P F.ac [b,a] w fun c w=>K c w
theorem Am {b a:Value} {w:World} {K:Value→World→Prop} (h:Ox b a w K):Q1 P F.bL [b,a] w K:=Q9 (List.replicate 2 none) Tryz.func185 rfl (by decide) (by kernel_rfl) h
def Jx (a f:Value) (w:World) (K:Value→World→Prop):Prop:= Q1 P F.ac [a,f] w fun g w=>X1 g (X3 P .len [T.c] T.e [false] [a] w fun b w=>X3 P .len [T.c] T.e [false] [f] w fun d w=>Q3 P .sub T.e (.tmp 10) (.tmp 12) b d w fun c w=>R8 P T.c a none (some c) none w fun e w=>K e w) (K a w)
theorem Cj {b a:Value} {w:World} {K:Value→World→Prop} (h:Jx b a w K):Q1 P F.cc [b,a] w K:=Q9 (List.replicate 5 none) Tryz.func204 rfl (by decide) (by kernel_rfl) h
def Mz (b a:Value) (w:World) (K:Value→World→Prop):Prop:= Q1 P F.cc [b,a] w fun c w=>K c w
theorem Kp {b a:Value} {w:World} {K:Value→World→Prop} (h:Mz b a w K):Q1 P F.bv [b,a] w K:=Q9 (List.replicate 2 none) Tryz.func186 rfl (by decide) (by kernel_rfl) h
def Q7m:V9:=[none,none,none,some ([0,4],[0,4,5,6,7,8,9,10]),none,none,none]
def Q2s (e:Value) (w:World) (K:Value→World→Prop):Prop:= lp (α:=Value×Value) (e,(.int .i64 0)) w fun a b g w=>Q1 P F.bL [b.1,(.string ⟨#[91,93]⟩)] w fun f w=>X1 f (Q1 P F.bv [b.1,(.string ⟨#[91,93]⟩)] w fun d w=>Q3 P .add T.e (.tmp 9) (.const (.int .i64 1)) b.2 (.int .i64 1) w fun c w=>a (d,c) w) (K (.tuple #[b.1,b.2]) w)
theorem Q7f {a:Value} {w:World} {K:Value→World→Prop} (h:Q2s a w K):Q1 P F.cv [a] w K:=Q9 Q7m Tryz.func155 rfl (by decide) (by kernel_rfl) h
def Q1r (l:Value) (w:World) (K:Value→World→Prop):Prop:= Q1 P F.cv [l] w fun j w=>ext P j 0 w fun i w=>ext P j 1 w fun k w=>Q3 P .leq T.e (.tmp 10) (.const (.int .i64 3)) k (.int .i64 3) w fun a w=>Q0 a true w (fun w J=>J i w) fun e w=>Q0 a true w (Q1 P F.aP [e]) fun h w=>Q0 a true w (fun w J=>J h w) fun b w=>Q0 b false w (fun w J=>J i w) fun c w=>Q0 b false w (Q1 P F.ao [c]) fun g w=>Q0 a true w (pick P b (.bool true) g) fun d w=>pick P a d (.bool false) w fun f w=>K f w
theorem Q5M {a:Value} {w:World} {K:Value→World→Prop} (h:Q1r a w K):Q1 P F.a0 [a] w K:=Q9 (List.replicate 3 none) Tryz.func114 rfl (by decide) (by kernel_rfl) h
def Gt (b:Value) (w:World) (K:Value→World→Prop):Prop:= Q1 P F.c5 [b] w fun a w=>Q0 a true w (fun w J=>J b w) fun e w=>Q0 a true w (Q1 P F.ao [e]) fun d w=>Q0 a true w (J8 P .not d) fun c w=>pick P a c (.bool false) w fun f w=>K f w
theorem Q4l {a:Value} {w:World} {K:Value→World→Prop} (h:Gt a w K):Q1 P F.bT [a] w K:=Q9 (List.replicate 2 none) Tryz.func133 rfl (by decide) (by kernel_rfl) h
def Bl (f:Value) (w:World) (K:Value→World→Prop):Prop:= box P T.n f w fun a w=>fieldAddr P T.n a 0 w fun d w=>Q2 P T.c d w fun h w=>Q1 P F.bT [h] w fun b w=>Q0 b true w (fieldAddr P T.n a 1) fun g w=>Q0 b true w (Q2 P T.c g) fun e w=>Q0 b true w (Q1 P F.a0 [e]) fun i w=>pick P b i (.bool false) w fun c w=>K c w
theorem Q33 {a:Value} {w:World} {K:Value→World→Prop} (h:Bl a w K):Q1 P F.bA [a] w K:=Q9 (List.replicate 2 none) Tryz.func132 rfl (by decide) (by kernel_rfl) h
def Zg (d c:Value) (w:World) (K:Value→World→Prop):Prop:= box P T.d d w fun a w=>Q2 P T.ae c w fun g w=>Q2 P T.d a w fun b w=>Z3 P g [b] w fun e w=>J8 P .not e w fun f w=>K f w
theorem Hn {b a:Value} {w:World} {K:Value→World→Prop} (h:Zg b a w K):Q1 P F.bU [b,a] w K:=Q9 (List.replicate 2 none) Tryz.func170 rfl (by decide) (by kernel_rfl) h
def Jz (d c:Value) (w:World) (K:Value→World→Prop):Prop:= box P T.ae c w fun a w=>E7 P (.func F.bU) [] [a] w fun f w=>Q1 P F.a [d,f] w fun e w=>J8 P .not e w fun b w=>K b w
theorem Cf {b a:Value} {w:World} {K:Value→World→Prop} (h:Jz b a w K):Q1 P F.ar [b,a] w K:=Q9 (List.replicate 2 none) Tryz.func134 rfl (by decide) (by kernel_rfl) h
def Sq (B A:Value) (w:World) (K:Value→World→Prop):Prop:= box P T.t B w fun a w=>fieldAddr P T.t a 0 w fun D w=>Q2 P T.e D w fun E w=>Q3 P .geq T.e (.tmp 5) (.const (.int .i64 0)) E (.int .i64 0) w fun f w=>Q0 f true w (fieldAddr P T.t a 1) fun H w=>Q0 f true w (Q2 P T.e H) fun C w=>Q0 f true w (fieldAddr P T.t a 0) fun l w=>Q0 f true w (Q2 P T.e l) fun t w=>Q0 f true w (Q3 P .gtr T.e (.tmp 9) (.tmp 11) C t) fun o w=>pick P f o (.bool false) w fun b w=>Q0 b true w (fieldAddr P T.t a 1) fun g w=>Q0 b true w (Q2 P T.e g) fun v w=>Q0 b true w (Q2 P T.e A) fun s w=>Q0 b true w (Q3 P .leq T.e (.tmp 16) (.tmp 17) v s) fun y w=>pick P b y (.bool false) w fun d w=>Q0 d true w (fieldAddr P T.t a 2) fun k w=>Q0 d true w (Q2 P T.e k) fun n w=>Q0 d true w (Q3 P .geq T.e (.tmp 22) (.const (.int .i64 0)) n (.int .i64 0)) fun q w=>pick P d q (.bool false) w fun c w=>Q0 c true w (fieldAddr P T.t a 2) fun m w=>Q0 c true w (Q2 P T.e m) fun u w=>Q0 c true w (Q2 P T.e A) fun i w=>Q0 c true w (Q3 P .lss T.e (.tmp 27) (.tmp 28) u i) fun r w=>pick P c r (.bool false) w fun e w=>Q0 e true w (fieldAddr P T.t a 3) fun p w=>Q0 e true w (Q2 P T.c p) fun j w=>Q0 e true w (Q1 P F.ao [j]) fun z w=>pick P e z (.bool false) w fun h w=>K h w
theorem Q2G {b a:Value} {w:World} {K:Value→World→Prop} (h:Sq b a w K):Q1 P F.bi [b,a] w K:=Q9 (List.replicate 2 none) Tryz.func171 rfl (by decide) (by kernel_rfl) h
def Yq:V9:=[none,none,none,some ([8],[4,5,8,9,10,11,12,13,14,15,16,17,18]),none,none,none,none,none,none,none]
def F9 (g h:Value) (w:World) (K:Value→World→Prop):Prop:= X3 P .len [T.q] T.e [false] [g] w fun j w=>lp (α:=Value) (.int .i64 0) w fun a b k w=>Q3 P .lss T.e (.tmp 8) (.tmp 7) b j w fun i w=>X1 i (indexAddr P T.q g b w fun f w=>Q2 P T.w f w fun e w=>Z3 P h [e] w fun c w=>X1 c (K b w) (Q3 P .add T.e (.tmp 8) (.const (.int .i64 1)) b (.int .i64 1) w fun d w=>a d w)) (K (.int .i64 (-1)) w)
theorem Yt {b a:Value} {w:World} {K:Value→World→Prop} (h:F9 b a w K):Q1 P F.a5 [b,a] w K:=Q9 Yq Tryz.func208 rfl (by decide) (by kernel_rfl) h
def B0 (c b:Value) (w:World) (K:Value→World→Prop):Prop:= Q1 P F.a5 [c,b] w fun d w=>Q3 P .geq T.e (.tmp 7) (.const (.int .i64 0)) d (.int .i64 0) w fun a w=>K a w
theorem Xk {b a:Value} {w:World} {K:Value→World→Prop} (h:B0 b a w K):Q1 P F.l [b,a] w K:=Q9 (List.replicate 2 none) Tryz.func194 rfl (by decide) (by kernel_rfl) h
def Jj (d c:Value) (w:World) (K:Value→World→Prop):Prop:= box P T.w d w fun a w=>Q2 P T.ai c w fun g w=>Q2 P T.w a w fun b w=>Z3 P g [b] w fun e w=>J8 P .not e w fun f w=>K f w
theorem Re {b a:Value} {w:World} {K:Value→World→Prop} (h:Jj b a w K):Q1 P F.bY [b,a] w K:=Q9 (List.replicate 2 none) Tryz.func195 rfl (by decide) (by kernel_rfl) h
def Vd (d c:Value) (w:World) (K:Value→World→Prop):Prop:= box P T.ai c w fun a w=>E7 P (.func F.bY) [] [a] w fun f w=>Q1 P F.l [d,f] w fun e w=>J8 P .not e w fun b w=>K b w
theorem Ba {b a:Value} {w:World} {K:Value→World→Prop} (h:Vd b a w K):Q1 P F.az [b,a] w K:=Q9 (List.replicate 2 none) Tryz.func172 rfl (by decide) (by kernel_rfl) h
def Uj:V9:=[none,none,none,some ([8],[4,5,8,9,10,11,12,13,14,15,16,17,18]),none,none,none,none,none,none,none]
def K7 (g h:Value) (w:World) (K:Value→World→Prop):Prop:= X3 P .len [T.ap] T.e [false] [g] w fun j w=>lp (α:=Value) (.int .i64 0) w fun a b k w=>Q3 P .lss T.e (.tmp 8) (.tmp 7) b j w fun i w=>X1 i (indexAddr P T.ap g b w fun f w=>Q2 P T.ad f w fun e w=>Z3 P h [e] w fun c w=>X1 c (K b w) (Q3 P .add T.e (.tmp 8) (.const (.int .i64 1)) b (.int .i64 1) w fun d w=>a d w)) (K (.int .i64 (-1)) w)
theorem Un {b a:Value} {w:World} {K:Value→World→Prop} (h:K7 b a w K):Q1 P F.t [b,a] w K:=Q9 Uj Tryz.func221 rfl (by decide) (by kernel_rfl) h
def Tv (d c:Value) (w:World) (K:Value→World→Prop):Prop:= box P T.ad d w fun a w=>fieldAddr P T.ad a 0 w fun g w=>Q2 P T.c g w fun b w=>Q2 P T.c c w fun e w=>Q3 P .eql T.c (.tmp 5) (.tmp 6) b e w fun f w=>K f w
theorem Q55 {b a:Value} {w:World} {K:Value→World→Prop} (h:Tv b a w K):Q1 P F.cP [b,a] w K:=Q9 (List.replicate 2 none) Tryz.func222 rfl (by decide) (by kernel_rfl) h
def Q2l (d:Value) (w:World) (K:Value→World→Prop):Prop:= box P T.c d w fun a w=>R8 P T.af (.pointer (some ⟨G.a,0,none⟩)) none none none w fun b w=>E7 P (.func F.cP) [] [a] w fun e w=>Q1 P F.t [b,e] w fun c w=>K c w
theorem Q7q {a:Value} {w:World} {K:Value→World→Prop} (h:Q2l a w K):Q1 P F.cK [a] w K:=Q9 (List.replicate 2 none) Tryz.func209 rfl (by decide) (by kernel_rfl) h
def Q14 (p:Value) (w:World) (K:Value→World→Prop):Prop:= Q1 P F.cK [p] w fun o w=>Q3 P .lss T.e (.tmp 8) (.const (.int .i64 0)) o (.int .i64 0) w fun q w=>X1 q (K (.tuple #[(.bool false),(.bool false),(.bool false)]) w) (dr w fun a k=>Q5 a (fun b=> ∀w,k w→indexAddr P T.af (.pointer (some ⟨G.a,0,none⟩)) o w (dk a b w)) fun b=>Q5 a (fun h=> ∀g w,k w→b g w→fieldAddr P T.ad g 1 w (dk a h w)) fun h=>Q5 a (fun e=> ∀w,k w→indexAddr P T.af (.pointer (some ⟨G.a,0,none⟩)) o w (dk a e w)) fun e=>Q5 a (fun d=> ∀c w,k w→e c w→fieldAddr P T.ad c 2 w (dk a d w)) fun d=>Q5 a (fun l=> ∀f w,k w→h f w→Q2 P T.u f w (dk a l w)) fun l=>Q5 a (fun j=> ∀i w,k w→d i w→Q2 P T.u i w (dk a j w)) fun j=>∀g f c i m n w,k w→b g w→h f w→e c w→d i w→l m w→j n w→ K (.tuple #[m,n,(.bool true)]) w)
theorem Q6F {a:Value} {w:World} {K:Value→World→Prop} (h:Q14 a w K):Q1 P F.cl [a] w K:=Q9 (List.replicate 6 none) Tryz.func196 rfl (by decide) (by kernel_rfl) h
def Q2o (c:Value) (w:World) (K:Value→World→Prop):Prop:= Q1 P F.cv [c] w fun d w=>ext P d 0 w fun f w=>ext P d 1 w fun e w=>Q1 P F.a0 [c] w fun b w=>J8 P .not b w fun a w=>X1 a (K (.int .i64 0) w) (K e w)
theorem Q7k {a:Value} {w:World} {K:Value→World→Prop} (h:Q2o a w K):Q1 P F.cu [a] w K:=Q9 (List.replicate 6 none) Tryz.func115 rfl (by decide) (by kernel_rfl) h
def Ve (b a:Value) (w:World) (K:Value→World→Prop):Prop:= Q1 P F.c0 [b,a] w fun c w=>K c w
theorem Cx {b a:Value} {w:World} {K:Value→World→Prop} (h:Ve b a w K):Q1 P F.aB [b,a] w K:=Q9 (List.replicate 2 none) Tryz.func227 rfl (by decide) (by kernel_rfl) h
def Ad:V9:=[none,none,none,none,none,none,none,none,none,none,none,none,none,none,none,none,none,some ([8,10],[4,8,10,11,12,13,57,58,59,60,61,62,63,64,65,66,67,68,69,70,71,72,73,74,75,76,77,78,79,80,81,82,83,84,85,86,87,88,89,90,91,92,93,94,95,96,97,98,99,100,101,102,103,104,105,106,107,108,109,110,111,112,113,114,115,116,117,118,119,120,121,122,123,124,125,126,127,128,129,130,131,132,133,134,135,136,137,138,139,140,141,142]),none,none,some ([8],[4,8,11,60,61,62,63,64,65,66,67,68,69,70,71,72,73,74,75,76,77]),none,none,none,none,none,none,none,none,none,none,none,none,none,none,none,none,none,none,none,none,none,none,none]
def Oo (h k:Value) (w:World) (K:Value→World→Prop):Prop:= X3 P .len [T.c] T.e [false] [k] w fun c w=>Q3 P .eql T.e (.tmp 17) (.const (.int .i64 0)) c (.int .i64 0) w fun l w=>Q0 l false w (fun w J=>J k w) fun a6 w=>Q0 l false w (fun w J=>J h w) fun ai w=>Q0 l false w (Q3 P .eql T.c (.tmp 20) (.tmp 21) a6 ai) fun al w=>pick P l (.bool true) al w fun an w=>X1 an (K (.int .i64 0) w) (Q3 P .eql T.e (.tmp 25) (.const (.int .i64 1)) c (.int .i64 1) w fun a5 w=>X1 a5 (C1 P T.c k (.int .i64 0) w fun ao w=>Q1 P F.aB [h,ao] w fun a7 w=>K a7 w) (X3 P .len [T.c] T.e [false] [h] w fun bc w=>Q3 P .geq T.e (.tmp 32) (.tmp 34) c bc w fun ad w=>X1 ad (K (.int .i64 (-1)) w) (Q2 P T.e (.pointer (some ⟨G.c,0,none⟩)) w fun ba w=>Q3 P .leq T.e (.tmp 37) (.tmp 38) c ba w fun m w=>Q0 m true w (fun w J=>J h w) fun av w=>Q0 m true w (X3 P .len [T.c] T.e [false] [av]) fun a8 w=>Q0 m true w (Q3 P .leq T.e (.tmp 42) (.const (.int .i64 64)) a8 (.int .i64 64)) fun ac w=>pick P m ac (.bool false) w fun ab w=>X1 ab (Q1 P F.ct [h,k] w fun be w=>K be w) (C1 P T.c k (.int .i64 0) w fun Q w=>C1 P T.c k (.int .i64 1) w fun ak w=>X3 P .len [T.c] T.e [false] [h] w fun ay w=>Q3 P .sub T.e (.tmp 53) (.tmp 54) ay c w fun aa w=>Q3 P .add T.e (.tmp 55) (.const (.int .i64 1)) aa (.int .i64 1) w fun q w=>lp (α:=Value×Value) ((.int .i64 0),(.int .i64 0)) w fun j g d_ w=>Q3 P .lss T.e (.tmp 57) (.tmp 58) g.1 q w fun ax w=>X1 ax (jn (α:=Value) w (fun z w=>C1 P T.c h g.1 w fun az w=>Q3 P .neq T.a2 (.tmp 62) (.tmp 63) az Q w fun aw w=>X1 aw (Q3 P .add T.e (.tmp 66) (.const (.int .i64 1)) g.1 (.int .i64 1) w fun ag w=>R8 P T.c h (some ag) (some q) none w fun bb w=>Q1 P F.aB [bb,Q] w fun A w=>Q3 P .lss T.e (.tmp 72) (.const (.int .i64 0)) A (.int .i64 0) w fun a4 w=>X1 a4 (K (.int .i64 (-1)) w) (Q3 P .add T.e (.tmp 75) (.const (.int .i64 1)) A (.int .i64 1) w fun a2 w=>Q3 P .add T.e (.tmp 74) (.tmp 76) g.1 a2 w fun bd w=>z bd w)) (z g.1 w)) fun i d_ w=>Q3 P .add T.e (.tmp 79) (.const (.int .i64 1)) i (.int .i64 1) w fun ah w=>C1 P T.c h ah w fun a9 w=>Q3 P .eql T.a2 (.tmp 81) (.tmp 82) a9 ak w fun b w=>Q0 b true w (fun w J=>J h w) fun a3 w=>Q0 b true w (fun w J=>J i w) fun ap w=>Q0 b true w (fun w J=>J i w) fun bf w=>Q0 b true w (fun w J=>J c w) fun aj w=>Q0 b true w (Q3 P .add T.e (.tmp 87) (.tmp 88) bf aj) fun ae w=>Q0 b true w (R8 P T.c a3 (some ap) (some ae) none) fun ar w=>Q0 b true w (fun w J=>J k w) fun aq w=>Q0 b true w (Q3 P .eql T.c (.tmp 90) (.tmp 91) ar aq) fun af w=>pick P b af (.bool false) w fun am w=>X1 am (K i w) (Q3 P .add T.e (.tmp 95) (.const (.int .i64 1)) i (.int .i64 1) w fun d w=>Q3 P .add T.e (.tmp 97) (.const (.int .i64 1)) g.2 (.int .i64 1) w fun p w=>Q2 P T.e (.pointer (some ⟨G.c,0,none⟩)) w fun N w=>Q3 P .leq T.e (.tmp 99) (.tmp 100) c N w fun e w=>Q0 e true w (fun w J=>J p w) fun V w=>Q0 e true w (fun w J=>J d w) fun C w=>Q0 e true w (Q1 P F.cT [C]) fun X w=>Q0 e true w (Q3 P .gtr T.e (.tmp 103) (.tmp 105) V X) fun D w=>pick P e D (.bool false) w fun v w=>X1 v (R8 P T.c h (some d) none none w fun B w=>Q1 P F.ct [B,k] w fun n w=>Q3 P .geq T.e (.tmp 113) (.const (.int .i64 0)) n (.int .i64 0) w fun H w=>X1 H (Q3 P .add T.e (.tmp 115) (.tmp 116) n d w fun Y w=>K Y w) (K (.int .i64 (-1)) w)) (Q2 P T.e (.pointer (some ⟨G.c,0,none⟩)) w fun E w=>Q3 P .gtr T.e (.tmp 118) (.tmp 119) c E w fun a w=>Q0 a true w (fun w J=>J p w) fun U w=>Q0 a true w (fun w J=>J d w) fun y w=>Q0 a true w (Q3 P .shr T.e (.tmp 123) (.const (.int .u64 4)) y (.int .u64 4)) fun L w=>Q0 a true w (Q3 P .add T.e (.const (.int .i64 4)) (.tmp 124) (.int .i64 4) L) fun W w=>Q0 a true w (Q3 P .geq T.e (.tmp 122) (.tmp 125) U W) fun O w=>pick P a O (.bool false) w fun f w=>Q0 f true w (fun w J=>J d w) fun R w=>Q0 f true w (fun w J=>J q w) fun s w=>Q0 f true w (Q3 P .lss T.e (.tmp 129) (.tmp 130) R s) fun t w=>pick P f t (.bool false) w fun Z w=>X1 Z (R8 P T.c h (some d) none none w fun r w=>Q1 P F.cI [r,k] w fun o w=>Q3 P .lss T.e (.tmp 138) (.const (.int .i64 0)) o (.int .i64 0) w fun u w=>X1 u (K (.int .i64 (-1)) w) (Q3 P .add T.e (.tmp 140) (.tmp 141) d o w fun M w=>K M w)) (j (d,p) w)))) (K (.int .i64 (-1)) w)))))
theorem Q01 {b a:Value} {w:World} {K:Value→World→Prop} (h:Oo b a w K):Q1 P F.bM [b,a] w K:=Q9 Ad Tryz.func228 rfl (by decide) (by kernel_rfl) h
def Hs (l n:Value) (w:World) (K:Value→World→Prop):Prop:= Q1 P F.bM [l,n] w fun f w=>Q3 P .geq T.e (.tmp 11) (.const (.int .i64 0)) f (.int .i64 0) w fun m w=>X1 m (dr w fun e i=>Q5 e (fun g=> ∀w,i w→R8 P T.c l none (some f) none w (dk e g w)) fun g=>Q5 e (fun c=> ∀w,i w→X3 P .len [T.c] T.e [false] [n] w (dk e c w)) fun c=>Q5 e (fun a=> ∀b w,i w→c b w→Q3 P .add T.e (.tmp 17) (.tmp 19) f b w (dk e a w)) fun a=>Q5 e (fun h=> ∀d w,i w→a d w→R8 P T.c l (some d) none none w (dk e h w)) fun h=>∀j b d k w,i w→g j w→c b w→a d w→h k w→ K (.tuple #[j,k,(.bool true)]) w) (K (.tuple #[l,(.string ⟨#[]⟩),(.bool false)]) w)
theorem Q1X {b a:Value} {w:World} {K:Value→World→Prop} (h:Hs b a w K):Q1 P F.cH [b,a] w K:=Q9 (List.replicate 6 none) Tryz.func229 rfl (by decide) (by kernel_rfl) h
def Tu (f e:Value) (w:World) (K:Value→World→Prop):Prop:= Q1 P F.cH [f,e] w fun d w=>ext P d 0 w fun a w=>ext P d 1 w fun c w=>ext P d 2 w fun b w=>K (.tuple #[a,c,b]) w
theorem Q5f {b a:Value} {w:World} {K:Value→World→Prop} (h:Tu b a w K):Q1 P F.cz [b,a] w K:=Q9 (List.replicate 2 none) Tryz.func224 rfl (by decide) (by kernel_rfl) h
end Go.Proofs.YtjdiakhipmggjaaGreatDoor

set_option maxRecDepth 100000
namespace Go.Proofs.YtjdiakhipmggjaaGreatDoor
open Go.Emb
def Q1g (t:Value) (w:World) (K:Value→World→Prop):Prop:= Q1 P F.cz [t,(.string ⟨#[46]⟩)] w fun d w=>ext P d 0 w fun f w=>ext P d 1 w fun e w=>ext P d 2 w fun i w=>J8 P .not i w fun b w=>Q0 b false w (fun w J=>J f w) fun p w=>Q0 b false w (Q1 P F.ao [p]) fun r w=>Q0 b false w (J8 P .not r) fun h w=>pick P b (.bool true) h w fun c w=>Q0 c false w (fun w J=>J e w) fun k w=>Q0 c false w (Q1 P F.c5 [k]) fun n w=>Q0 c false w (J8 P .not n) fun s w=>pick P c (.bool true) s w fun a w=>Q0 a false w (fun w J=>J e w) fun q w=>Q0 a false w (C1 P T.c q (.int .i64 0)) fun j w=>Q0 a false w (conv P T.a2 T.an j) fun o w=>Q0 a false w (Q1 P F.ck [o]) fun m w=>Q0 a false w (J8 P .not m) fun g w=>pick P a (.bool true) g w fun l w=>X1 l (K (.tuple #[(.string ⟨#[]⟩),(.string ⟨#[]⟩),(.int .i64 30)]) w) (K (.tuple #[f,e,(.int .i64 0)]) w)
theorem Q6u {a:Value} {w:World} {K:Value→World→Prop} (h:Q1g a w K):Q1 P F.cG [a] w K:=Q9 (List.replicate 6 none) Tryz.func211 rfl (by decide) (by kernel_rfl) h
def Q7n:V9:=[none,none,none,none,none,none,none,some ([27],[27,28,29]),none,none,none,none,none,none]
def Q2g (g c:Value) (w:World) (K:Value→World→Prop):Prop:= Q3 P .eql T.c (.tmp 8) (.const (.string ⟨#[119,111,114,100]⟩)) g (.string ⟨#[119,111,114,100]⟩) w fun s w=>X1 s (X3 P .len [T.c] T.e [false] [c] w fun y w=>Q3 P .leq T.e (.tmp 12) (.const (.int .i64 64)) y (.int .i64 64) w fun e w=>Q0 e true w (fun w J=>J c w) fun i w=>Q0 e true w (Q1 P F.b1 [i]) fun B w=>pick P e B (.bool false) w fun d w=>Q0 d true w (fun w J=>J c w) fun j w=>Q0 d true w (Q1 P F.cC [j,(.string ⟨#[10]⟩)]) fun u w=>Q0 d true w (J8 P .not u) fun q w=>pick P d q (.bool false) w fun v w=>K v w) (Q3 P .eql T.c (.tmp 8) (.const (.string ⟨#[110,101,119]⟩)) g (.string ⟨#[110,101,119]⟩) w fun H w=>X1 H (Q1 P F.ao [c] w fun t w=>K t w) (jn (α:=Value) w (fun L w=>Q3 P .eql T.c (.tmp 8) (.const (.string ⟨#[105,115]⟩)) g (.string ⟨#[105,115]⟩) w fun h w=>X1 h (L h w) (Q3 P .eql T.c (.tmp 8) (.const (.string ⟨#[99,97,115,116]⟩)) g (.string ⟨#[99,97,115,116]⟩) w fun A w=>L A w)) fun M Q w=>X1 M (Q1 P F.a0 [c] w fun a w=>Q0 a true w (fun w J=>J c w) fun p w=>Q0 a true w (Q1 P F.aP [p]) fun D w=>Q0 a true w (J8 P .not D) fun m w=>pick P a m (.bool false) w fun E w=>K E w) (Q3 P .eql T.c (.tmp 8) (.const (.string ⟨#[97,114,114,97,121]⟩)) g (.string ⟨#[97,114,114,97,121]⟩) w fun C w=>X1 C (Q1 P F.a0 [c] w fun b w=>Q0 b true w (fun w J=>J c w) fun z w=>Q0 b true w (Q1 P F.cu [z]) fun l w=>Q0 b true w (Q3 P .lss T.e (.tmp 43) (.const (.int .i64 3)) l (.int .i64 3)) fun k w=>pick P b k (.bool false) w fun n w=>K n w) (Q1 P F.cG [c] w fun f w=>ext P f 0 w fun O w=>ext P f 1 w fun N w=>ext P f 2 w fun r w=>Q3 P .eql T.v (.tmp 52) (.const (.int .i64 0)) r (.int .i64 0) w fun o w=>K o w))))
theorem Q7h {b a:Value} {w:World} {K:Value→World→Prop} (h:Q2g b a w K):Q1 P F.cJ [b,a] w K:=Q9 Q7n Tryz.func197 rfl (by decide) (by kernel_rfl) h
def Q6k:V9:=[none,none,none,none,none,some ([16],[16,17,18,19,20,21,22,23,24,25,26,27,28,29,30,31,32,33,34,35,36,37,38,39]),none,none,none,none]
def Q0R (A:Value) (w:World) (K:Value→World→Prop):Prop:= box P T.w A w fun a w=>fieldAddr P T.w a 0 w fun B w=>Q2 P T.c B w fun C w=>Q1 P F.cl [C] w fun k w=>ext P k 0 w fun o w=>ext P k 1 w fun b w=>ext P k 2 w fun r w=>J8 P .not r w fun g w=>X1 g (K (.int .i64 40) w) (jn (α:=Value) w (fun i w=>J8 P .not o w fun d w=>Q0 d true w (fieldAddr P T.w a 1) fun p w=>Q0 d true w (Q2 P T.a1 p) fun n w=>Q0 d true w (Q3 P .neq T.a1 (.tmp 21) (.const (.int .i64 0)) n (.int .i64 0)) fun q w=>pick P d q (.bool false) w fun f w=>X1 f (i f w) (J8 P .not b w fun c w=>Q0 c true w (fieldAddr P T.w a 2) fun t w=>Q0 c true w (Q2 P T.c t) fun l w=>Q0 c true w (Q3 P .neq T.c (.tmp 28) (.const (.string ⟨#[]⟩)) l (.string ⟨#[]⟩)) fun s w=>pick P c s (.bool false) w fun e w=>X1 e (i e w) (Q0 b true w (fieldAddr P T.w a 0) fun m w=>Q0 b true w (Q2 P T.c m) fun v w=>Q0 b true w (fieldAddr P T.w a 2) fun j w=>Q0 b true w (Q2 P T.c j) fun z w=>Q0 b true w (Q1 P F.cJ [v,z]) fun h w=>Q0 b true w (J8 P .not h) fun u w=>pick P b u (.bool false) w fun y w=>i y w))) fun D E w=>X1 D (K (.int .i64 41) w) (K (.int .i64 0) w))
theorem Q63 {a:Value} {w:World} {K:Value→World→Prop} (h:Q0R a w K):Q1 P F.cF [a] w K:=Q9 Q6k Tryz.func174 rfl (by decide) (by kernel_rfl) h
def Sm (d:Value) (w:World) (K:Value→World→Prop):Prop:= box P T.w d w fun a w=>Q2 P T.w a w fun b w=>Q1 P F.cF [b] w fun e w=>Q3 P .eql T.v (.tmp 4) (.const (.int .i64 0)) e (.int .i64 0) w fun c w=>K c w
theorem Q2M {a:Value} {w:World} {K:Value→World→Prop} (h:Sm a w K):Q1 P F.bj [a] w K:=Q9 (List.replicate 2 none) Tryz.func173 rfl (by decide) (by kernel_rfl) h
def Yu:V9:=[none,none,none,some ([8],[4,5,8,9,10,11,12,13,14,15,16,17,18]),none,none,none,none,none,none,none]
def G1 (g h:Value) (w:World) (K:Value→World→Prop):Prop:= X3 P .len [T.s] T.e [false] [g] w fun j w=>lp (α:=Value) (.int .i64 0) w fun a b k w=>Q3 P .lss T.e (.tmp 8) (.tmp 7) b j w fun i w=>X1 i (indexAddr P T.s g b w fun f w=>Q2 P T.t f w fun e w=>Z3 P h [e] w fun c w=>X1 c (K b w) (Q3 P .add T.e (.tmp 8) (.const (.int .i64 1)) b (.int .i64 1) w fun d w=>a d w)) (K (.int .i64 (-1)) w)
theorem Yr {b a:Value} {w:World} {K:Value→World→Prop} (h:G1 b a w K):Q1 P F.a6 [b,a] w K:=Q9 Yu Tryz.func212 rfl (by decide) (by kernel_rfl) h
def B1 (c b:Value) (w:World) (K:Value→World→Prop):Prop:= Q1 P F.a6 [c,b] w fun d w=>Q3 P .geq T.e (.tmp 7) (.const (.int .i64 0)) d (.int .i64 0) w fun a w=>K a w
theorem Xi {b a:Value} {w:World} {K:Value→World→Prop} (h:B1 b a w K):Q1 P F.m [b,a] w K:=Q9 (List.replicate 2 none) Tryz.func198 rfl (by decide) (by kernel_rfl) h
def Je (d c:Value) (w:World) (K:Value→World→Prop):Prop:= box P T.t d w fun a w=>Q2 P T.ah c w fun g w=>Q2 P T.t a w fun b w=>Z3 P g [b] w fun e w=>J8 P .not e w fun f w=>K f w
theorem Rh {b a:Value} {w:World} {K:Value→World→Prop} (h:Je b a w K):Q1 P F.bZ [b,a] w K:=Q9 (List.replicate 2 none) Tryz.func199 rfl (by decide) (by kernel_rfl) h
def Vc (d c:Value) (w:World) (K:Value→World→Prop):Prop:= box P T.ah c w fun a w=>E7 P (.func F.bZ) [] [a] w fun f w=>Q1 P F.m [d,f] w fun e w=>J8 P .not e w fun b w=>K b w
theorem Cy {b a:Value} {w:World} {K:Value→World→Prop} (h:Vc b a w K):Q1 P F.aA [b,a] w K:=Q9 (List.replicate 2 none) Tryz.func175 rfl (by decide) (by kernel_rfl) h
def Fx (a0:Value) (w:World) (K:Value→World→Prop):Prop:= box P T.d a0 w fun c w=>fieldAddr P T.d c 0 w fun t5 w=>Q2 P T.c t5 w fun t6 w=>Q1 P F.bT [t6] w fun t7 w=>J8 P .not t7 w fun i w=>Q0 i false w (fieldAddr P T.d c 1) fun N w=>Q0 i false w (Q2 P T.h N) fun ab w=>Q0 i false w (Q1 P F.ab [ab,(.func (.func F.a0) #[] #[])]) fun U w=>Q0 i false w (J8 P .not U) fun y w=>pick P i (.bool true) y w fun b w=>Q0 b false w (fieldAddr P T.d c 2) fun ag w=>Q0 b false w (Q2 P T.c ag) fun aa w=>Q0 b false w (Q3 P .neq T.c (.tmp 17) (.const (.string ⟨#[]⟩)) aa (.string ⟨#[]⟩)) fun ah w=>Q0 b false w (fun w J=>J ah w) fun d w=>Q0 d true w (fieldAddr P T.d c 2) fun Q w=>Q0 d true w (Q2 P T.c Q) fun D w=>Q0 d true w (Q1 P F.a0 [D]) fun R w=>Q0 d true w (J8 P .not R) fun Y w=>Q0 b false w (pick P d Y (.bool false)) fun am w=>pick P b (.bool true) am w fun E w=>X1 E (K (.bool false) w) (fieldAddr P T.d c 3 w fun O w=>Q2 P T.u O w fun ae w=>X1 ae (fieldAddr P T.d c 4 w fun z w=>Q2 P T.e z w fun Z w=>Q3 P .eql T.e (.tmp 29) (.const (.int .i64 0)) Z (.int .i64 0) w fun e w=>Q0 e true w (fieldAddr P T.d c 5) fun V w=>Q0 e true w (Q2 P T.q V) fun B w=>Q0 e true w (X3 P .len [T.q] T.e [false] [B]) fun aj w=>Q0 e true w (Q3 P .eql T.e (.tmp 34) (.const (.int .i64 0)) aj (.int .i64 0)) fun q w=>pick P e q (.bool false) w fun g w=>Q0 g true w (fieldAddr P T.d c 6) fun ai w=>Q0 g true w (Q2 P T.s ai) fun ak w=>Q0 g true w (X3 P .len [T.s] T.e [false] [ak]) fun t w=>Q0 g true w (Q3 P .eql T.e (.tmp 40) (.const (.int .i64 0)) t (.int .i64 0)) fun l w=>pick P g l (.bool false) w fun W w=>K W w) (fieldAddr P T.d c 5 w fun p w=>Q2 P T.q p w fun o w=>X3 P .len [T.q] T.e [false] [o] w fun r w=>V8 P T.e w fun k w=>Y0 P T.e k r w fun _u w=>E7 P (.func F.bi) [] [k] w fun C w=>Q2 P T.e k w fun al w=>Q3 P .gtr T.e (.tmp 47) (.const (.int .i64 0)) al (.int .i64 0) w fun a w=>Q0 a true w (fieldAddr P T.d c 4) fun M w=>Q0 a true w (Q2 P T.e M) fun L w=>Q0 a true w (fieldAddr P T.d c 1) fun X w=>Q0 a true w (Q2 P T.h X) fun u w=>Q0 a true w (X3 P .len [T.h] T.e [false] [u]) fun j w=>Q0 a true w (Q3 P .gtr T.e (.tmp 51) (.tmp 54) L j) fun m w=>pick P a m (.bool false) w fun h w=>Q0 h true w (fieldAddr P T.d c 5) fun ac w=>Q0 h true w (Q2 P T.q ac) fun s w=>Q0 h true w (Q1 P F.az [s,(.func (.func F.bj) #[] #[])]) fun ad w=>pick P h ad (.bool false) w fun f w=>Q0 f true w (fieldAddr P T.d c 6) fun af w=>Q0 f true w (Q2 P T.s af) fun n w=>Q0 f true w (fun w J=>J C w) fun v w=>Q0 f true w (Q1 P F.aA [n,v]) fun H w=>pick P f H (.bool false) w fun A w=>K A w))
theorem Q4d {a:Value} {w:World} {K:Value→World→Prop} (h:Fx a w K):Q1 P F.bb [a] w K:=Q9 (List.replicate 10 none) Tryz.func135 rfl (by decide) (by kernel_rfl) h
def Tx (a0:Value) (w:World) (K:Value→World→Prop):Prop:= box P T.b a0 w fun b w=>fieldAddr P T.b b 0 w fun t7 w=>Q2 P T.c t7 w fun t8 w=>fieldAddr P T.b b 1 w fun t9 w=>Q2 P T.c t9 w fun aw w=>buildSlice P T.h 2 [(0,t8),(1,aw)] w fun aa w=>fieldAddr P T.b b 2 w fun a2 w=>Q2 P T.h a2 w fun am w=>X3 P .append [T.h,T.h] T.h [false,false] [aa,am] w fun t w=>dr w fun o u=>Q5 o (fun m=> ∀w,u w→R8 P T.h t (some (.int .i64 1)) none none w (dk o m w)) fun m=>Q5 o (fun i=> ∀w,u w→fieldAddr P T.b b 0 w (dk o i w)) fun i=>Q5 o (fun l=> ∀k w,u w→i k w→Q2 P T.c k w (dk o l w)) fun l=>∀r k s w,u w→m r w→i k w→l s w→ Q1 P F.ai [r,s] w fun ag w=>fieldAddr P T.b b 7 w fun az w=>Q2 P T.j az w fun N w=>Q1 P F.a [N,(.func (.func F.cm) #[] #[])] w fun X w=>fieldAddr P T.b b 7 w fun Z w=>Q2 P T.j Z w fun af w=>Q1 P F.a [af,(.func (.func F.cn) #[] #[])] w fun O w=>Q1 P F.ab [t,(.func (.func F.ao) #[] #[])] w fun M w=>J8 P .not M w fun q w=>Q0 q false w (fun w J=>J ag w) fun y w=>pick P q (.bool true) y w fun e w=>Q0 e false w (fieldAddr P T.b b 2) fun a7 w=>Q0 e false w (Q2 P T.h a7) fun D w=>Q0 e false w (Q1 P F.aV [D,(.func (.func F.co) #[] #[])]) fun ba w=>Q0 e false w (J8 P .not ba) fun z w=>pick P e (.bool true) z w fun a5 w=>X1 a5 (K (.bool false) w) (fieldAddr P T.b b 3 w fun E w=>Q2 P T.u E w fun a w=>Q0 a true w (fieldAddr P T.b b 4) fun C w=>Q0 a true w (Q2 P T.u C) fun B w=>Q0 a true w (J8 P .not B) fun ai w=>Q0 a true w (fun w J=>J ai w) fun h w=>Q0 h false w (fieldAddr P T.b b 1) fun bb w=>Q0 h false w (Q2 P T.c bb) fun bd w=>Q0 h false w (Q3 P .neq T.c (.tmp 48) (.const (.string ⟨#[79,98,106,101,99,116]⟩)) bd (.string ⟨#[79,98,106,101,99,116]⟩)) fun ae w=>Q0 a true w (pick P h (.bool true) ae) fun V w=>Q0 a true w (fun w J=>J V w) fun d w=>Q0 d false w (fieldAddr P T.b b 6) fun a1 w=>Q0 d false w (Q2 P T.k a1) fun ak w=>Q0 d false w (X3 P .len [T.k] T.e [false] [ak]) fun v w=>Q0 d false w (Q3 P .gtr T.e (.tmp 54) (.const (.int .i64 0)) v (.int .i64 0)) fun A w=>Q0 a true w (pick P d (.bool true) A) fun a8 w=>Q0 a true w (fun w J=>J a8 w) fun p w=>Q0 p false w (fun w J=>J O w) fun a3 w=>Q0 a true w (pick P p (.bool true) a3) fun aj w=>pick P a aj (.bool false) w fun ab w=>X1 ab (K (.bool false) w) (fieldAddr P T.b b 4 w fun al w=>Q2 P T.u al w fun n w=>Q0 n true w (fieldAddr P T.b b 5) fun H w=>Q0 n true w (Q2 P T.u H) fun ap w=>pick P n ap (.bool false) w fun g w=>Q0 g false w (fun w J=>J X w) fun a6 w=>Q0 g false w (fun w J=>J a6 w) fun j w=>Q0 j true w (fieldAddr P T.b b 4) fun R w=>Q0 j true w (Q2 P T.u R) fun ax w=>Q0 j true w (J8 P .not ax) fun av w=>Q0 g false w (pick P j av (.bool false)) fun ah w=>pick P g (.bool true) ah w fun a4 w=>X1 a4 (K (.bool false) w) (fieldAddr P T.b b 6 w fun a9 w=>Q2 P T.k a9 w fun U w=>Q1 P F.aH [U,(.func (.func F.cp) #[] #[])] w fun an w=>J8 P .not an w fun c w=>Q0 c false w (fieldAddr P T.b b 7) fun ay w=>Q0 c false w (Q2 P T.j ay) fun ao w=>Q0 c false w (Q1 P F.aw [ao,(.func (.func F.cq) #[] #[])]) fun ar w=>Q0 c false w (J8 P .not ar) fun aq w=>pick P c (.bool true) aq w fun ac w=>X1 ac (K (.bool false) w) (fieldAddr P T.b b 6 w fun bc w=>Q2 P T.k bc w fun Q w=>Q1 P F.ax [Q,(.func (.func F.bA) #[] #[])] w fun f w=>Q0 f true w (fieldAddr P T.b b 7) fun ad w=>Q0 f true w (Q2 P T.j ad) fun L w=>Q0 f true w (Q1 P F.ar [L,(.func (.func F.bb) #[] #[])]) fun Y w=>pick P f Y (.bool false) w fun W w=>K W w))))
theorem Q5d {a:Value} {w:World} {K:Value→World→Prop} (h:Tx a w K):Q1 P F.cy [a] w K:=Q9 (List.replicate 15 none) Tryz.func78 rfl (by decide) (by kernel_rfl) h
def Tq (d:Value) (w:World) (K:Value→World→Prop):Prop:= box P T.b d w fun a w=>Q2 P T.b a w fun f w=>Q1 P F.cE [f] w fun b w=>X1 b (K (.int .i64 51) w) (Q2 P T.b a w fun e w=>Q1 P F.cy [e] w fun c w=>J8 P .not c w fun g w=>X1 g (K (.int .i64 50) w) (K (.int .i64 0) w))
theorem Q5e {a:Value} {w:World} {K:Value→World→Prop} (h:Tq a w K):Q1 P F.cw [a] w K:=Q9 (List.replicate 7 none) Tryz.func42 rfl (by decide) (by kernel_rfl) h
def Qp (a:Value) (w:World) (K:Value→World→Prop):Prop:= Q3 P .eql T.h (.tmp 3) (.const (.slice none 0 0)) a (.slice none 0 0) w fun d w=>X1 d (K (.slice none 0 0) w) (buildSlice P T.h 0 [] w fun b w=>X3 P .append [T.h,T.h] T.h [false,false] [b,a] w fun c w=>K c w)
theorem Mn {a:Value} {w:World} {K:Value→World→Prop} (h:Qp a w K):Q1 P F.a9 [a] w K:=Q9 (List.replicate 5 none) Tryz.func79 rfl (by decide) (by kernel_rfl) h
def K8 (a:Value) (w:World) (K:Value→World→Prop):Prop:= Q3 P .eql T.k (.tmp 3) (.const (.slice none 0 0)) a (.slice none 0 0) w fun d w=>X1 d (K (.slice none 0 0) w) (buildSlice P T.k 0 [] w fun b w=>X3 P .append [T.k,T.k] T.k [false,false] [b,a] w fun c w=>K c w)
theorem Ud {a:Value} {w:World} {K:Value→World→Prop} (h:K8 a w K):Q1 P F.ad [a] w K:=Q9 (List.replicate 5 none) Tryz.func80 rfl (by decide) (by kernel_rfl) h
def P1 (a:Value) (w:World) (K:Value→World→Prop):Prop:= Q3 P .eql T.q (.tmp 3) (.const (.slice none 0 0)) a (.slice none 0 0) w fun d w=>X1 d (K (.slice none 0 0) w) (buildSlice P T.q 0 [] w fun b w=>X3 P .append [T.q,T.q] T.q [false,false] [b,a] w fun c w=>K c w)
theorem Up {a:Value} {w:World} {K:Value→World→Prop} (h:P1 a w K):Q1 P F.ae [a] w K:=Q9 (List.replicate 5 none) Tryz.func136 rfl (by decide) (by kernel_rfl) h
def K6 (a:Value) (w:World) (K:Value→World→Prop):Prop:= Q3 P .eql T.s (.tmp 3) (.const (.slice none 0 0)) a (.slice none 0 0) w fun d w=>X1 d (K (.slice none 0 0) w) (buildSlice P T.s 0 [] w fun b w=>X3 P .append [T.s,T.s] T.s [false,false] [b,a] w fun c w=>K c w)
theorem Uq {a:Value} {w:World} {K:Value→World→Prop} (h:K6 a w K):Q1 P F.af [a] w K:=Q9 (List.replicate 5 none) Tryz.func137 rfl (by decide) (by kernel_rfl) h
def Ts (E:Value) (w:World) (K:Value→World→Prop):Prop:= box P T.d E w fun a w=>V8 P T.d w fun A w=>dr w fun b c=>Q5 b (fun r=> ∀w,c w→fieldAddr P T.d a 1 w (dk b r w)) fun r=>Q5 b (fun s=> ∀w,c w→fieldAddr P T.d a 5 w (dk b s w)) fun s=>Q5 b (fun k=> ∀w,c w→fieldAddr P T.d a 6 w (dk b k w)) fun k=>Q5 b (fun o=> ∀j w,c w→r j w→Q2 P T.h j w (dk b o w)) fun o=>Q5 b (fun y=> ∀q w,c w→o q w→Q1 P F.a9 [q] w (dk b y w)) fun y=>Q5 b (fun m=> ∀l w,c w→s l w→Q2 P T.q l w (dk b m w)) fun m=>Q5 b (fun v=> ∀p w,c w→m p w→Q1 P F.ae [p] w (dk b v w)) fun v=>Q5 b (fun e=> ∀n w,c w→k n w→Q2 P T.s n w (dk b e w)) fun e=>Q5 b (fun g=> ∀w,c w→fieldAddr P T.d a 1 w (dk b g w)) fun g=>Q5 b (fun f=> ∀d w,c w→e d w→Q1 P F.af [d] w (dk b f w)) fun f=>∀j l n q B p C d h i w,c w→r j w→s l w→k n w→o q w→y B w→m p w→v C w→e d w→g h w→f i w→ Y0 P T.h h B w fun _u w=>fieldAddr P T.d a 5 w fun u w=>Y0 P T.q u C w fun _u w=>fieldAddr P T.d a 6 w fun z w=>Y0 P T.s z i w fun _u w=>Q2 P T.d a w fun t w=>Y0 P T.d A t w fun _u w=>Y8 P T.d A w fun D=>K D w
theorem Q57 {a:Value} {w:World} {K:Value→World→Prop} (h:Ts a w K):Q1 P F.c7 [a] w K:=Q9 (List.replicate 3 none) Tryz.func81 rfl (by decide) (by kernel_rfl) h
def Q5b:V9:=[none,none,none,none,none,some ([3,17],[3,5,17,18,19,20,21,22,23,24,25,26]),none,none,none,none,none,none]
def Ty (R:Value) (w:World) (K:Value→World→Prop):Prop:= box P T.b R w fun a w=>V8 P T.b w fun N w=>dr w fun b g=>Q5 b (fun s=> ∀w,g w→fieldAddr P T.b a 2 w (dk b s w)) fun s=>Q5 b (fun n=> ∀w,g w→fieldAddr P T.b a 6 w (dk b n w)) fun n=>Q5 b (fun p=> ∀o w,g w→s o w→Q2 P T.h o w (dk b p w)) fun p=>Q5 b (fun H=> ∀r w,g w→p r w→Q1 P F.a9 [r] w (dk b H w)) fun H=>Q5 b (fun f=> ∀q w,g w→n q w→Q2 P T.k q w (dk b f w)) fun f=>Q5 b (fun i=> ∀w,g w→fieldAddr P T.b a 2 w (dk b i w)) fun i=>Q5 b (fun h=> ∀d w,g w→f d w→Q1 P F.ad [d] w (dk b h w)) fun h=>∀o q r O d l m w,g w→s o w→n q w→p r w→H O w→f d w→i l w→h m w→ Y0 P T.h l O w fun _u w=>fieldAddr P T.b a 6 w fun u w=>Y0 P T.k u m w fun _u w=>fieldAddr P T.b a 7 w fun M w=>Q2 P T.j M w fun j w=>X3 P .len [T.j] T.e [false] [j] w fun E w=>lp (α:=Value×Value) ((.slice none 0 0),(.int .i64 0)) w fun e k U w=>Q3 P .lss T.e (.tmp 17) (.tmp 16) k.2 E w fun J w=>X1 J (indexAddr P T.j j k.2 w fun t w=>Q2 P T.d t w fun A w=>V8 P T.d w fun c w=>Y0 P T.d c A w fun _u w=>Q2 P T.d c w fun B w=>Q1 P F.c7 [B] w fun C w=>buildSlice P T.j 1 [(0,C)] w fun L w=>X3 P .append [T.j,T.j] T.j [false,false] [k.1,L] w fun y w=>Q3 P .add T.e (.tmp 17) (.const (.int .i64 1)) k.2 (.int .i64 1) w fun z w=>e (y,z) w) (fieldAddr P T.b a 7 w fun v w=>Y0 P T.j v k.1 w fun _u w=>Q2 P T.b a w fun D w=>Y0 P T.b N D w fun _u w=>Y8 P T.b N w fun Q=>K Q w)
theorem Q56 {a:Value} {w:World} {K:Value→World→Prop} (h:Ty a w K):Q1 P F.cx [a] w K:=Q9 Q5b Tryz.func43 rfl (by decide) (by kernel_rfl) h
def Jq (g f:Value) (w:World) (K:Value→World→Prop):Prop:= nilCheck P g w fun e w=>fieldAddr P T.a0 e 1 w fun b w=>Q2 P T.a3 b w fun d w=>lookup P T.a3 d f true w fun a w=>ext P a 0 w fun h w=>ext P a 1 w fun c w=>K c w
theorem Hb {b a:Value} {w:World} {K:Value→World→Prop} (h:Jq b a w K):Q1 P F.j [b,a] w K:=Q9 (List.replicate 3 none) Tryz.func44 rfl (by decide) (by kernel_rfl) h
def Oe (r v:Value) (w:World) (K:Value→World→Prop):Prop:= V8 P T.b w fun s w=>dr w fun a h=>Q5 a (fun n=> ∀w,h w→nilCheck P r w (dk a n w)) fun n=>Q5 a (fun l=> ∀k w,h w→n k w→fieldAddr P T.a0 k 0 w (dk a l w)) fun l=>Q5 a (fun g=> ∀w,h w→nilCheck P r w (dk a g w)) fun g=>Q5 a (fun b=> ∀c w,h w→g c w→fieldAddr P T.a0 c 1 w (dk a b w)) fun b=>Q5 a (fun q=> ∀m w,h w→l m w→Q2 P T.i m w (dk a q w)) fun q=>Q5 a (fun f=> ∀e w,h w→b e w→Q2 P T.a3 e w (dk a f w)) fun f=>Q5 a (fun i=> ∀d w,h w→f d w→lookup P T.a3 d v false w (dk a i w)) fun i=>∀k m c e t d j w,h w→n k w→l m w→g c w→b e w→q t w→f d w→i j w→ indexAddr P T.i t j w fun o w=>Q2 P T.b o w fun p w=>Y0 P T.b s p w fun _u w=>Y8 P T.b s w fun u=>K u w
theorem Tg {b a:Value} {w:World} {K:Value→World→Prop} (h:Oe b a w K):Q1 P F.h [b,a] w K:=Q9 (List.replicate 2 none) Tryz.func82 rfl (by decide) (by kernel_rfl) h
def Gl:V9:=[none,none,none,none,none,none,some ([29],[4,6,29,30,31,32,33,34,35,36,37,38,39,40,41,42,43,44]),none,none,none,none,none,none,none]
def Lw (f Q:Value) (w:World) (K:Value→World→Prop):Prop:= box P T.b Q w fun a w=>fieldAddr P T.b a 1 w fun R w=>Q2 P T.c R w fun O w=>Q1 P F.j [f,O] w fun u w=>J8 P .not u w fun b w=>Q0 b false w (fun w J=>J f w) fun q w=>Q0 b false w (fieldAddr P T.b a 1) fun N w=>Q0 b false w (Q2 P T.c N) fun j w=>Q0 b false w (Q1 P F.h [q,j]) fun E w=>Q0 b false w (F5 P T.b E 3) fun D w=>pick P b (.bool true) D w fun c w=>Q0 c false w (fun w J=>J f w) fun y w=>Q0 c false w (fieldAddr P T.b a 1) fun s w=>Q0 c false w (Q2 P T.c s) fun z w=>Q0 c false w (Q1 P F.h [y,z]) fun C w=>Q0 c false w (F5 P T.b C 5) fun M w=>pick P c (.bool true) M w fun t w=>X1 t (K (.int .i64 61) w) (fieldAddr P T.b a 2 w fun v w=>Q2 P T.h v w fun h w=>X3 P .len [T.h] T.e [false] [h] w fun r w=>lp (α:=Value) (.int .i64 0) w fun e o U w=>Q3 P .lss T.e (.tmp 29) (.tmp 28) o r w fun A w=>X1 A (indexAddr P T.h h o w fun i w=>Q2 P T.c i w fun g w=>Q1 P F.j [f,g] w fun n w=>J8 P .not n w fun d w=>Q0 d false w (fun w J=>J f w) fun H w=>Q0 d false w (fun w J=>J g w) fun L w=>Q0 d false w (Q1 P F.h [H,L]) fun p w=>Q0 d false w (F5 P T.b p 3) fun k w=>Q0 d false w (J8 P .not k) fun B w=>pick P d (.bool true) B w fun m w=>X1 m (K (.int .i64 62) w) (Q3 P .add T.e (.tmp 29) (.const (.int .i64 1)) o (.int .i64 1) w fun l w=>e l w)) (K (.int .i64 0) w))
theorem Gn {b a:Value} {w:World} {K:Value→World→Prop} (h:Lw b a w K):Q1 P F.bc [b,a] w K:=Q9 Gl Tryz.func45 rfl (by decide) (by kernel_rfl) h
def Yv:V9:=[none,none,none,some ([8],[4,5,8,9,10,11,12,13,14,15,16,17,18]),none,none,none,none,none,none,none]
def F8 (g h:Value) (w:World) (K:Value→World→Prop):Prop:= X3 P .len [T.i] T.e [false] [g] w fun j w=>lp (α:=Value) (.int .i64 0) w fun a b k w=>Q3 P .lss T.e (.tmp 8) (.tmp 7) b j w fun i w=>X1 i (indexAddr P T.i g b w fun f w=>Q2 P T.b f w fun e w=>Z3 P h [e] w fun c w=>X1 c (K b w) (Q3 P .add T.e (.tmp 8) (.const (.int .i64 1)) b (.int .i64 1) w fun d w=>a d w)) (K (.int .i64 (-1)) w)
theorem Za {b a:Value} {w:World} {K:Value→World→Prop} (h:F8 b a w K):Q1 P F.o [b,a] w K:=Q9 Yv Tryz.func46 rfl (by decide) (by kernel_rfl) h
def Kb:V9:=[none,none,none,some ([7],[6,7,9,10,11,12,16,17,18,19,20,21,22,23,24,25,26,27,28,29,30,31,32,33,34,35,36,37,38,39,40,41,42,43,44,45,46,47,48,49,50,51,52]),none,none,none,none,none,none,none,none,none,none,none,none,none]
def Nd (R V W:Value) (w:World) (K:Value→World→Prop):Prop:= buildSlice P T.h 1 [(0,V)] w fun Q w=>Ku P T.a3 none w fun q w=>lp (α:=Value) Q w fun b C X w=>X3 P .len [T.h] T.e [false] [C] w fun L w=>Q3 P .gtr T.e (.tmp 17) (.const (.int .i64 0)) L (.int .i64 0) w fun M w=>X1 M (indexAddr P T.h C (.int .i64 0) w fun D w=>Q2 P T.c D w fun h w=>R8 P T.h C (some (.int .i64 1)) none none w fun s w=>lookup P T.a3 q h true w fun t w=>ext P t 0 w fun U w=>ext P t 1 w fun d w=>Q0 d false w (fun w J=>J R w) fun E w=>Q0 d false w (fun w J=>J h w) fun B w=>Q0 d false w (Q1 P F.j [E,B]) fun N w=>Q0 d false w (J8 P .not N) fun A w=>pick P d (.bool true) A w fun O w=>X1 O (b s w) (mapUpdate P T.a3 q h (.int .i64 1) w fun _u w=>Q1 P F.h [R,h] w fun v w=>V8 P T.b w fun a w=>Y0 P T.b a v w fun _u w=>Q2 P T.b a w fun z w=>Z3 P W [z] w fun y w=>X1 y (K (.bool true) w) (dr w fun c n=>Q5 c (fun f=> ∀w,n w→fieldAddr P T.b a 1 w (dk c f w)) fun f=>Q5 c (fun e=> ∀w,n w→fieldAddr P T.b a 2 w (dk c e w)) fun e=>Q5 c (fun k=> ∀g w,n w→f g w→Q2 P T.c g w (dk c k w)) fun k=>Q5 c (fun i=> ∀l w,n w→k l w→buildSlice P T.h 1 [(0,l)] w (dk c i w)) fun i=>Q5 c (fun o=> ∀m w,n w→i m w→X3 P .append [T.h,T.h] T.h [false,false] [s,m] w (dk c o w)) fun o=>Q5 c (fun p=> ∀j w,n w→e j w→Q2 P T.h j w (dk c p w)) fun p=>∀g j l m u r w,n w→f g w→e j w→k l w→i m w→o u w→p r w→ X3 P .append [T.h,T.h] T.h [false,false] [u,r] w fun H w=>b H w))) (K (.bool false) w)
theorem Kt {c b a:Value} {w:World} {K:Value→World→Prop} (h:Nd c b a w K):Q1 P F.x [c,b,a] w K:=Q9 Kb Tryz.func84 rfl (by decide) (by kernel_rfl) h
def Jl (e d:Value) (w:World) (K:Value→World→Prop):Prop:= box P T.b e w fun a w=>fieldAddr P T.b a 0 w fun h w=>Q2 P T.c h w fun b w=>fieldAddr P T.b d 0 w fun f w=>Q2 P T.c f w fun g w=>Q3 P .eql T.c (.tmp 5) (.tmp 7) b g w fun c w=>K c w
theorem Sw {b a:Value} {w:World} {K:Value→World→Prop} (h:Jl b a w K):Q1 P F.c8 [b,a] w K:=Q9 (List.replicate 2 none) Tryz.func85 rfl (by decide) (by kernel_rfl) h
def Wa (e d b:Value) (w:World) (K:Value→World→Prop):Prop:= Q2 P T.r d w fun a w=>E7 P (.func F.c8) [] [b] w fun f w=>Q1 P F.x [a,e,f] w fun c w=>K c w
theorem Fj {c b a:Value} {w:World} {K:Value→World→Prop} (h:Wa c b a w K):Q1 P F.b9 [c,b,a] w K:=Q9 (List.replicate 2 none) Tryz.func83 rfl (by decide) (by kernel_rfl) h
def Ma (m l:Value) (w:World) (K:Value→World→Prop):Prop:= box P T.r m w fun c w=>box P T.b l w fun a w=>E7 P (.func F.b9) [] [c,a] w fun i w=>fieldAddr P T.b a 1 w fun j w=>Q2 P T.c j w fun k w=>Z3 P i [k] w fun b w=>Q0 b false w (fieldAddr P T.b a 2) fun g w=>Q0 b false w (Q2 P T.h g) fun e w=>Q0 b false w (fun w J=>J i w) fun h w=>Q0 b false w (Q1 P F.c [e,h]) fun f w=>pick P b (.bool true) f w fun d w=>K d w
theorem Pk {b a:Value} {w:World} {K:Value→World→Prop} (h:Ma b a w K):Q1 P F.bl [b,a] w K:=Q9 (List.replicate 3 none) Tryz.func47 rfl (by decide) (by kernel_rfl) h
def Su:V9:=[none,none,none,some ([8],[4,5,8,9,10,11,12,13,14,15,16,17,18]),none,none,none,none,none,none,none]
def Jy (g h:Value) (w:World) (K:Value→World→Prop):Prop:= X3 P .len [T.a7] T.e [false] [g] w fun j w=>lp (α:=Value) (.int .i64 0) w fun a b k w=>Q3 P .lss T.e (.tmp 8) (.tmp 7) b j w fun i w=>X1 i (indexAddr P T.a7 g b w fun f w=>Q2 P T.e f w fun e w=>Q3 P .eql T.e (.tmp 11) (.tmp 15) h e w fun c w=>X1 c (K b w) (Q3 P .add T.e (.tmp 8) (.const (.int .i64 1)) b (.int .i64 1) w fun d w=>a d w)) (K (.int .i64 (-1)) w)
theorem Cd {b a:Value} {w:World} {K:Value→World→Prop} (h:Jy b a w K):Q1 P F.c9 [b,a] w K:=Q9 Su Tryz.func139 rfl (by decide) (by kernel_rfl) h
def Ym (c b:Value) (w:World) (K:Value→World→Prop):Prop:= Q1 P F.c9 [c,b] w fun d w=>Q3 P .geq T.e (.tmp 7) (.const (.int .i64 0)) d (.int .i64 0) w fun a w=>K a w
theorem Em {b a:Value} {w:World} {K:Value→World→Prop} (h:Ym b a w K):Q1 P F.aK [b,a] w K:=Q9 (List.replicate 2 none) Tryz.func88 rfl (by decide) (by kernel_rfl) h
def Fe:V9:=[none,none,none,none,some ([35],[7,35,36,37,38,39,40,41,42,43,44,45,46,47]),none,none,none,none]
def Xa (a0 a1 a2 a3 a4:Value) (w:World) (K:Value→World→Prop):Prop:= Q2 P T.e a1 w fun t9 w=>Q3 P .lss T.e (.tmp 8) (.tmp 9) a0 t9 w fun u w=>Q0 u false w (Q2 P T.a7 a2) fun ao w=>Q0 u false w (fun w J=>J a0 w) fun al w=>Q0 u false w (Q1 P F.aK [ao,al]) fun ak w=>pick P u (.bool true) ak w fun ah w=>X1 ah (K (.tuple #[]) w) (dr w fun a b=>Q5 a (fun h=> ∀w,b w→Q2 P T.r a3 w (dk a h w)) fun h=>Q5 a (fun f=> ∀O w,b w→h O w→nilCheck P O w (dk a f w)) fun f=>Q5 a (fun N=> ∀E w,b w→f E w→fieldAddr P T.a0 E 0 w (dk a N w)) fun N=>Q5 a (fun p=> ∀Q w,b w→N Q w→Q2 P T.i Q w (dk a p w)) fun p=>Q5 a (fun V=> ∀e w,b w→p e w→indexAddr P T.i e a0 w (dk a V w)) fun V=>Q5 a (fun k=> ∀s w,b w→V s w→fieldAddr P T.b s 1 w (dk a k w)) fun k=>Q5 a (fun j=> ∀A w,b w→k A w→Q2 P T.c A w (dk a j w)) fun j=>Q5 a (fun W=> ∀D w,b w→j D w→buildSlice P T.h 1 [(0,D)] w (dk a W w)) fun W=>Q5 a (fun y=> ∀w,b w→Q2 P T.r a3 w (dk a y w)) fun y=>Q5 a (fun m=> ∀t w,b w→y t w→nilCheck P t w (dk a m w)) fun m=>Q5 a (fun z=> ∀v w,b w→m v w→fieldAddr P T.a0 v 0 w (dk a z w)) fun z=>Q5 a (fun n=> ∀L w,b w→z L w→Q2 P T.i L w (dk a n w)) fun n=>Q5 a (fun R=> ∀r w,b w→n r w→indexAddr P T.i r a0 w (dk a R w)) fun R=>Q5 a (fun M=> ∀B w,b w→R B w→fieldAddr P T.b B 2 w (dk a M w)) fun M=>Q5 a (fun Y=> ∀d w,b w→M d w→Q2 P T.h d w (dk a Y w)) fun Y=>∀O E Q e s A D af t v L r B d ad w,b w→h O w→f E w→N Q w→p e w→V s w→k A w→j D w→W af w→y t w→m v w→z L w→n r w→R B w→M d w→Y ad w→ X3 P .append [T.h,T.h] T.h [false,false] [af,ad] w fun ac w=>X3 P .len [T.h] T.e [false] [ac] w fun ar w=>lp (α:=Value) (.int .i64 0) w fun q x4 d_ w=>Q3 P .lss T.e (.tmp 35) (.tmp 34) x4 ar w fun av w=>X1 av (indexAddr P T.h ac x4 w fun aj w=>Q2 P T.c aj w fun aq w=>dr w fun a b=>Q5 a (fun Z=> ∀w,b w→Q2 P T.ak a4 w (dk a Z w)) fun Z=>Q5 a (fun H=> ∀w,b w→Q2 P T.r a3 w (dk a H w)) fun H=>Q5 a (fun o=> ∀l w,b w→H l w→nilCheck P l w (dk a o w)) fun o=>Q5 a (fun U=> ∀g w,b w→o g w→fieldAddr P T.a0 g 1 w (dk a U w)) fun U=>Q5 a (fun c=> ∀C w,b w→U C w→Q2 P T.a3 C w (dk a c w)) fun c=>Q5 a (fun X=> ∀i w,b w→c i w→lookup P T.a3 i aq false w (dk a X w)) fun X=>∀ae l g C i ab w,b w→Z ae w→H l w→o g w→U C w→c i w→X ab w→ Z3 P ae [ab] w fun a5 w=>Q3 P .add T.e (.tmp 35) (.const (.int .i64 1)) x4 (.int .i64 1) w fun aw w=>q aw w) (Q2 P T.a7 a2 w fun ax w=>buildSlice P T.a7 1 [(0,a0)] w fun an w=>X3 P .append [T.a7,T.a7] T.a7 [false,false] [ax,an] w fun am w=>Y0 P T.a7 a2 am w fun _u w=>K (.tuple #[]) w))
theorem Wc {d c b a e:Value} {w:World} {K:Value→World→Prop} (h:Xa d c b a e w K):Q1 P F.z [d,c,b,a,e] w K:=Q9 Fe Tryz.func87 rfl (by decide) (by kernel_rfl) h
def Tb:V9:=[none,none,none,none,none,none,some ([7],[7,10,11,12,13,14,15,16,17,18,19,20,21]),none,none,none,none]
def Nl (p r:Value) (w:World) (K:Value→World→Prop):Prop:= box P T.r p w fun d w=>box P T.e r w fun b w=>V8 P T.a7 w fun c w=>V8 P T.ak w fun a w=>E7 P (.func F.z) [] [b,c,d,a] w fun t w=>Y0 P T.ak a t w fun _u w=>Q2 P T.e b w fun q w=>lp (α:=Value) q w fun e i u w=>Q2 P T.r d w fun m w=>nilCheck P m w fun l w=>fieldAddr P T.a0 l 0 w fun j w=>Q2 P T.i j w fun h w=>X3 P .len [T.i] T.e [false] [h] w fun f w=>Q3 P .lss T.e (.tmp 10) (.tmp 15) i f w fun n w=>X1 n (Q2 P T.ak a w fun g w=>Z3 P g [i] w fun s w=>Q3 P .add T.e (.tmp 17) (.const (.int .i64 1)) i (.int .i64 1) w fun o w=>e o w) (Q2 P T.a7 c w fun k w=>K k w)
theorem Px {b a:Value} {w:World} {K:Value→World→Prop} (h:Nl b a w K):Q1 P F.bm [b,a] w K:=Q9 Tb Tryz.func48 rfl (by decide) (by kernel_rfl) h
def Zu:V9:=[none,some ([2,3],[2,3,7,8,9,10,11,12,13,14,15,16,17,18,19,20,21,22,23,24,25,26,27]),none,none,none]
def I5 (j:Value) (w:World) (K:Value→World→Prop):Prop:= X3 P .len [T.i] T.e [false] [j] w fun t w=>Q3 P .sub T.e (.tmp 5) (.const (.int .i64 1)) t (.int .i64 1) w fun r w=>lp (α:=Value×Value) ((.int .i64 0),r) w fun c g u w=>Q3 P .lss T.e (.tmp 7) (.tmp 8) g.1 g.2 w fun s w=>X1 s (dr w fun f k=>Q5 f (fun d=> ∀w,k w→indexAddr P T.i j g.2 w (dk f d w)) fun d=>Q5 f (fun a=> ∀w,k w→indexAddr P T.i j g.1 w (dk f a w)) fun a=>Q5 f (fun i=> ∀b w,k w→d b w→Q2 P T.b b w (dk f i w)) fun i=>Q5 f (fun h=> ∀e w,k w→a e w→Q2 P T.b e w (dk f h w)) fun h=>∀b e l m w,k w→d b w→a e w→i l w→h m w→ indexAddr P T.i j g.1 w fun o w=>Y0 P T.b o l w fun _u w=>indexAddr P T.i j g.2 w fun q w=>Y0 P T.b q m w fun _u w=>Q3 P .add T.e (.tmp 10) (.const (.int .i64 1)) g.1 (.int .i64 1) w fun p w=>Q3 P .sub T.e (.tmp 12) (.const (.int .i64 1)) g.2 (.int .i64 1) w fun n w=>c (p,n) w) (K (.tuple #[]) w)
theorem Zv {a:Value} {w:World} {K:Value→World→Prop} (h:I5 a w K):Q1 P F.q [a] w K:=Q9 Zu Tryz.func117 rfl (by decide) (by kernel_rfl) h
def Az:V9:=[none,none,none,none,some ([5,6],[5,6,8,9,10,11,12,13,14,15,16,17,18,19,20]),none,none,none,none,none]
def Om (h j:Value) (w:World) (K:Value→World→Prop):Prop:= lp (α:=Value×Value) ((.slice none 0 0),j) w fun a b l w=>Q1 P F.j [h,b.2] w fun c w=>X1 c (Q1 P F.h [h,b.2] w fun d w=>buildSlice P T.i 1 [(0,d)] w fun f w=>X3 P .append [T.i,T.i] T.i [false,false] [b.1,f] w fun g w=>Q1 P F.h [h,b.2] w fun e w=>F5 P T.b e 1 w fun i w=>a (g,i) w) (Q1 P F.q [b.1] w fun k w=>K b.1 w)
theorem Q0g {b a:Value} {w:World} {K:Value→World→Prop} (h:Om b a w K):Q1 P F.aU [b,a] w K:=Q9 Az Tryz.func70 rfl (by decide) (by kernel_rfl) h
def Ib:V9:=[none,none,none,none,some ([5,12],[5,7,12,13,14,15,16,17,18,19,20]),none,none,none,none,none]
def Lb (m n:Value) (w:World) (K:Value→World→Prop):Prop:= Q1 P F.aU [m,n] w fun c w=>X3 P .len [T.i] T.e [false] [c] w fun k w=>lp (α:=Value×Value) ((.slice none 0 0),(.int .i64 0)) w fun b d o w=>Q3 P .lss T.e (.tmp 12) (.tmp 11) d.2 k w fun f w=>X1 f (indexAddr P T.i c d.2 w fun l w=>Q2 P T.b l w fun g w=>V8 P T.b w fun a w=>Y0 P T.b a g w fun _u w=>fieldAddr P T.b a 6 w fun j w=>Q2 P T.k j w fun e w=>X3 P .append [T.k,T.k] T.k [false,false] [d.1,e] w fun h w=>Q3 P .add T.e (.tmp 12) (.const (.int .i64 1)) d.2 (.int .i64 1) w fun i w=>b (h,i) w) (K d.1 w)
theorem Fz {b a:Value} {w:World} {K:Value→World→Prop} (h:Lb b a w K):Q1 P F.u [b,a] w K:=Q9 Ib Tryz.func36 rfl (by decide) (by kernel_rfl) h
def Vt (d c:Value) (w:World) (K:Value→World→Prop):Prop:= box P T.n d w fun a w=>fieldAddr P T.n a 0 w fun g w=>Q2 P T.c g w fun b w=>Q2 P T.c c w fun e w=>Q3 P .eql T.c (.tmp 5) (.tmp 6) b e w fun f w=>K f w
theorem Fm {b a:Value} {w:World} {K:Value→World→Prop} (h:Vt b a w K):Q1 P F.cg [b,a] w K:=Q9 (List.replicate 2 none) Tryz.func141 rfl (by decide) (by kernel_rfl) h
def Mt (f e d:Value) (w:World) (K:Value→World→Prop):Prop:= box P T.c d w fun a w=>Q1 P F.u [f,e] w fun g w=>E7 P (.func F.cg) [] [a] w fun b w=>Q1 P F.i [g,b] w fun c w=>K c w
theorem Pw {c b a:Value} {w:World} {K:Value→World→Prop} (h:Mt c b a w K):Q1 P F.bo [c,b,a] w K:=Q9 (List.replicate 2 none) Tryz.func89 rfl (by decide) (by kernel_rfl) h
def Xg (c b:Value) (w:World) (K:Value→World→Prop):Prop:= nilCheck P c w fun d w=>indexAddr P T.ab d b w fun a w=>Q2 P T.u a w fun e w=>K e w
theorem Of {b a:Value} {w:World} {K:Value→World→Prop} (h:Xg b a w K):Q1 P F.aC [b,a] w K:=Q9 (List.replicate 2 none) Tryz.func187 rfl (by decide) (by kernel_rfl) h
def Sn:V9:=[none,some ([0],[0,5,6,7,8,9,10,11,12,13,14,15,16,17,18,19,20]),some ([0],[0,5,6,7,8,9,10,11,12,13,14,15,16,17,18,19,20]),none,none,none,none,none]
def Jv (l n:Value) (w:World) (K:Value→World→Prop):Prop:= jn (α:=Value) w (fun k w=>lp (α:=Value) l w fun a b q w=>X3 P .len [T.c] T.e [false] [b] w fun m w=>Q3 P .gtr T.e (.tmp 6) (.const (.int .i64 0)) m (.int .i64 0) w fun o w=>X1 o (X3 P .len [T.c] T.e [false] [b] w fun h w=>Q3 P .sub T.e (.tmp 11) (.const (.int .i64 1)) h (.int .i64 1) w fun g w=>C1 P T.c b g w fun e w=>Q1 P F.aC [n,e] w fun j w=>J8 P .not j w fun c w=>X1 c (k b w) (X3 P .len [T.c] T.e [false] [b] w fun i w=>Q3 P .sub T.e (.tmp 18) (.const (.int .i64 1)) i (.int .i64 1) w fun d w=>R8 P T.c b none (some d) none w fun f w=>a f w)) (k b w)) fun p q w=>K p w
theorem Sr {b a:Value} {w:World} {K:Value→World→Prop} (h:Jv b a w K):Q1 P F.au [b,a] w K:=Q9 Sn Tryz.func158 rfl (by decide) (by kernel_rfl) h
end Go.Proofs.YtjdiakhipmggjaaGreatDoor

set_option maxRecDepth 100000
namespace Go.Proofs.YtjdiakhipmggjaaGreatDoor
open Go.Emb
def Dd (d c:Value) (w:World) (K:Value→World→Prop):Prop:= Q3 P .eql T.c (.tmp 7) (.const (.string ⟨#[]⟩)) d (.string ⟨#[]⟩) w fun r w=>Q0 r false w (fun w J=>J c w) fun k w=>Q0 r false w (Q3 P .eql T.c (.tmp 10) (.const (.string ⟨#[]⟩)) k (.string ⟨#[]⟩)) fun p w=>pick P r (.bool true) p w fun m w=>X1 m (K d w) (X3 P .len [T.c] T.e [false] [c] w fun f w=>Q3 P .eql T.e (.tmp 15) (.const (.int .i64 1)) f (.int .i64 1) w fun b w=>Q0 b true w (fun w J=>J c w) fun q w=>Q0 b true w (C1 P T.c q (.int .i64 0)) fun g w=>Q0 b true w (Q3 P .lss T.a2 (.tmp 19) (.const (.int .u8 128)) g (.int .u8 128)) fun l w=>pick P b l (.bool false) w fun i w=>X1 i (C1 P T.c c (.int .i64 0) w fun t w=>Q1 P F.cR [d,t] w fun j w=>K j w) (Q1 P F.ch [c] w fun e w=>ext P e 0 w fun o w=>ext P e 1 w fun n w=>V8 P T.ab w fun a w=>Y0 P T.ab a o w fun _u w=>X1 n (Q1 P F.au [d,a] w fun h w=>K h w) (Q1 P F.cO [d,c] w fun s w=>K s w)))
theorem Aw {b a:Value} {w:World} {K:Value→World→Prop} (h:Dd b a w K):Q1 P F.bI [b,a] w K:=Q9 (List.replicate 12 none) Tryz.func116 rfl (by decide) (by kernel_rfl) h
def Df (l h:Value) (w:World) (K:Value→World→Prop):Prop:= Q3 P .eql T.c (.tmp 6) (.const (.string ⟨#[110,117,108,108]⟩)) h (.string ⟨#[110,117,108,108]⟩) w fun m w=>X1 m (K (.bool true) w) (Q1 P F.bI [h,(.string ⟨#[91,93]⟩)] w fun k w=>Q1 P F.a0 [h] w fun a w=>Q0 a true w (fun w J=>J k w) fun e w=>Q0 a true w (Q1 P F.aP [e]) fun j w=>Q0 a true w (fun w J=>J j w) fun b w=>Q0 b false w (fun w J=>J l w) fun c w=>Q0 b false w (fun w J=>J k w) fun i w=>Q0 b false w (Q1 P F.j [c,i]) fun d w=>Q0 a true w (pick P b (.bool true) d) fun f w=>pick P a f (.bool false) w fun g w=>K g w)
theorem Q03 {b a:Value} {w:World} {K:Value→World→Prop} (h:Df b a w K):Q1 P F.s [b,a] w K:=Q9 (List.replicate 6 none) Tryz.func69 rfl (by decide) (by kernel_rfl) h
def Um (c e:Value) (w:World) (K:Value→World→Prop):Prop:= Q3 P .neq T.c (.tmp 4) (.const (.string ⟨#[110,117,108,108]⟩)) c (.string ⟨#[110,117,108,108]⟩) w fun a w=>Q0 a true w (Q2 P T.r e) fun f w=>Q0 a true w (fun w J=>J c w) fun d w=>Q0 a true w (Q1 P F.s [f,d]) fun g w=>pick P a g (.bool false) w fun b w=>K b w
theorem Rz {b a:Value} {w:World} {K:Value→World→Prop} (h:Um b a w K):Q1 P F.ap [b,a] w K:=Q9 (List.replicate 2 none) Tryz.func90 rfl (by decide) (by kernel_rfl) h
def Jm (b a:Value) (w:World) (K:Value→World→Prop):Prop:= Q2 P T.a4 a w fun e w=>Z3 P e [b] w fun d w=>J8 P .not d w fun c w=>K c w
theorem Sk {b a:Value} {w:World} {K:Value→World→Prop} (h:Jm b a w K):Q1 P F.aq [b,a] w K:=Q9 (List.replicate 2 none) Tryz.func91 rfl (by decide) (by kernel_rfl) h
def Q0z (s:Value) (w:World) (K:Value→World→Prop):Prop:= box P T.d s w fun b w=>dr w fun a c=>Q5 a (fun h=> ∀w,c w→fieldAddr P T.d b 1 w (dk a h w)) fun h=>Q5 a (fun i=> ∀w,c w→fieldAddr P T.d b 2 w (dk a i w)) fun i=>Q5 a (fun f=> ∀d w,c w→h d w→Q2 P T.h d w (dk a f w)) fun f=>Q5 a (fun l=> ∀g w,c w→f g w→Q1 P F.cN [g,(.string ⟨#[44]⟩)] w (dk a l w)) fun l=>Q5 a (fun m=> ∀j w,c w→l j w→Q3 P .add T.c (.const (.string ⟨#[40]⟩)) (.tmp 5) (.string ⟨#[40]⟩) j w (dk a m w)) fun m=>Q5 a (fun o=> ∀e w,c w→m e w→Q3 P .add T.c (.tmp 6) (.const (.string ⟨#[41]⟩)) e (.string ⟨#[41]⟩) w (dk a o w)) fun o=>Q5 a (fun n=> ∀k w,c w→i k w→Q2 P T.c k w (dk a n w)) fun n=>∀d k g j e r q w,c w→h d w→i k w→f g w→l j w→m e w→o r w→n q w→ Q3 P .add T.c (.tmp 7) (.tmp 9) r q w fun p w=>K p w
theorem Q6r {a:Value} {w:World} {K:Value→World→Prop} (h:Q0z a w K):Q1 P F.cf [a] w K:=Q9 (List.replicate 2 none) Tryz.func95 rfl (by decide) (by kernel_rfl) h
def Zj (Z X a2 Y:Value) (w:World) (K:Value→World→Prop):Prop:= box P T.d Z w fun b w=>Q2 P T.y X w fun t9 w=>fieldAddr P T.d b 0 w fun Q w=>Q2 P T.c Q w fun W w=>lookup P T.y t9 W true w fun D w=>ext P D 0 w fun N w=>ext P D 1 w fun g w=>dr w fun a d=>Q5 a (fun j=> ∀w,d w→fieldAddr P T.d b 0 w (dk a j w)) fun j=>Q5 a (fun n=> ∀w,d w→fieldAddr P T.d b 0 w (dk a n w)) fun n=>Q5 a (fun k=> ∀w,d w→fieldAddr P T.b a2 0 w (dk a k w)) fun k=>Q5 a (fun f=> ∀w,d w→Q2 P T.y X w (dk a f w)) fun f=>Q5 a (fun i=> ∀v w,d w→j v w→Q2 P T.c v w (dk a i w)) fun i=>Q5 a (fun A=> ∀w,d w→Q2 P T.y Y w (dk a A w)) fun A=>Q5 a (fun B=> ∀h w,d w→n h w→Q2 P T.c h w (dk a B w)) fun B=>Q5 a (fun y=> ∀w,d w→Q2 P T.d b w (dk a y w)) fun y=>Q5 a (fun l=> ∀o w,d w→y o w→Q1 P F.cf [o] w (dk a l w)) fun l=>Q5 a (fun z=> ∀t w,d w→k t w→Q2 P T.c t w (dk a z w)) fun z=>Q5 a (fun r=> ∀c u w,d w→f c w→i u w→mapEntry P T.y c u w (dk a r w)) fun r=>Q5 a (fun m=> ∀p w,d w→r p w→ext P p 1 w (dk a m w)) fun m=>Q5 a (fun e=> ∀c q s w,d w→f c w→m q w→l s w→entryStore P T.y c q s w (dk a e w)) fun e=>∀v h t c u E C o s H p q M w,d w→j v w→n h w→k t w→f c w→i u w→A E w→B C w→y o w→l s w→z H w→r p w→m q w→e M w→ mapUpdate P T.y E C H w fun _u w=>Q0 g true w (fun w J=>J N w) fun V w=>Q0 g true w (Q2 P T.d b) fun U w=>Q0 g true w (Q1 P F.cf [U]) fun L w=>Q0 g true w (Q3 P .neq T.c (.tmp 29) (.tmp 31) V L) fun R w=>pick P g R (.bool false) w fun O w=>K O w
theorem Hq {d c b a:Value} {w:World} {K:Value→World→Prop} (h:Zj d c b a w K):Q1 P F.aM [d,c,b,a] w K:=Q9 (List.replicate 4 none) Tryz.func94 rfl (by decide) (by kernel_rfl) h
def Uf (f e c:Value) (w:World) (K:Value→World→Prop):Prop:= box P T.b f w fun a w=>fieldAddr P T.b a 7 w fun b w=>Q2 P T.j b w fun h w=>E7 P (.func F.aM) [] [e,a,c] w fun g w=>Q1 P F.a [h,g] w fun d w=>K d w
theorem St {c b a:Value} {w:World} {K:Value→World→Prop} (h:Uf c b a w K):Q1 P F.b0 [c,b,a] w K:=Q9 (List.replicate 2 none) Tryz.func92 rfl (by decide) (by kernel_rfl) h
def Q1d (d c:Value) (w:World) (K:Value→World→Prop):Prop:= box P T.d d w fun a w=>fieldAddr P T.d a 0 w fun g w=>Q2 P T.c g w fun b w=>Q2 P T.c c w fun e w=>Q3 P .eql T.c (.tmp 5) (.tmp 6) b e w fun f w=>K f w
theorem Q6e {b a:Value} {w:World} {K:Value→World→Prop} (h:Q1d b a w K):Q1 P F.cS [b,a] w K:=Q9 (List.replicate 2 none) Tryz.func179 rfl (by decide) (by kernel_rfl) h
def Q3J (m o:Value) (w:World) (K:Value→World→Prop):Prop:= box P T.b m w fun b w=>box P T.c o w fun a w=>V8 P T.d w fun d w=>fieldAddr P T.b b 7 w fun p w=>Q2 P T.j p w fun q w=>E7 P (.func F.cS) [] [a] w fun n w=>Q1 P F.g [q,n] w fun c w=>Q3 P .lss T.e (.tmp 11) (.const (.int .i64 0)) c (.int .i64 0) w fun i w=>X1 i (H3 P T.d [] w fun h w=>Y0 P T.d d h w fun _u w=>Y8 P T.d d w fun e=>K (.tuple #[e,(.bool false)]) w) (fieldAddr P T.b b 7 w fun l w=>Q2 P T.j l w fun f w=>indexAddr P T.j f c w fun j w=>Q2 P T.d j w fun k w=>Q1 P F.c7 [k] w fun g w=>Y0 P T.d d g w fun _u w=>Y8 P T.d d w fun e=>K (.tuple #[e,(.bool true)]) w)
theorem Q8w {b a:Value} {w:World} {K:Value→World→Prop} (h:Q3J b a w K):Q1 P F.cA [b,a] w K:=Q9 (List.replicate 6 none) Tryz.func144 rfl (by decide) (by kernel_rfl) h
def Q0h:V9:=[none,none,none,some ([19],[6,8,10,11,12,13,14,15,19,20,21,22,23,24,25,26,27,28,29,30,31,32,33,34,35,36,37,38,39,40,41,42,43,44,45,46,47]),none,none,none,none,none,none,none,none,none,none,none,none]
def Ol (r M L:Value) (w:World) (K:Value→World→Prop):Prop:= box P T.b M w fun g w=>V8 P T.d w fun i w=>fieldAddr P T.b g 2 w fun C w=>Q2 P T.h C w fun o w=>X3 P .len [T.h] T.e [false] [o] w fun D w=>lp (α:=Value) (.int .i64 0) w fun c v N w=>Q3 P .lss T.e (.tmp 19) (.tmp 18) v D w fun y w=>X1 y (indexAddr P T.h o v w fun t w=>Q2 P T.c t w fun h w=>Q1 P F.h [r,h] w fun u w=>Q1 P F.cA [u,L] w fun l w=>ext P l 0 w fun B w=>ext P l 1 w fun z w=>V8 P T.d w fun b w=>Y0 P T.d b B w fun _u w=>X1 z (dr w fun p k=>Q5 p (fun d=> ∀w,k w→Q2 P T.d b w (dk p d w)) fun d=>∀m w,k w→d m w→ Y0 P T.d i m w fun _u w=>Y8 P T.d i w fun j=>K (.tuple #[h,j,(.bool true)]) w) (Q1 P F.h [r,h] w fun E w=>Q1 P F.aW [r,E,L] w fun f w=>ext P f 0 w fun q w=>ext P f 1 w fun A w=>ext P f 2 w fun s w=>V8 P T.d w fun a w=>Y0 P T.d a A w fun _u w=>X1 s (dr w fun p k=>Q5 p (fun e=> ∀w,k w→Q2 P T.d a w (dk p e w)) fun e=>∀n w,k w→e n w→ Y0 P T.d i n w fun _u w=>Y8 P T.d i w fun j=>K (.tuple #[q,j,(.bool true)]) w) (Q3 P .add T.e (.tmp 19) (.const (.int .i64 1)) v (.int .i64 1) w fun H w=>c H w))) (H3 P T.d [] w fun J w=>Y0 P T.d i J w fun _u w=>Y8 P T.d i w fun j=>K (.tuple #[(.string ⟨#[]⟩),j,(.bool false)]) w)
theorem Ag {c b a:Value} {w:World} {K:Value→World→Prop} (h:Ol c b a w K):Q1 P F.aW [c,b,a] w K:=Q9 Q0h Tryz.func145 rfl (by decide) (by kernel_rfl) h
def Gv:V9:=[none,none,none,none,none,some ([26],[6,8,11,12,13,26,27,28,29,30,31,32,33,34,35,36,37,38,39,40]),none,none,none,none,none,none,none,none,none,some ([43],[6,8,15,16,17,18,43,44,45,46,47,48,49,50,51,52,53,54,55,56,57,58]),none,none,none,none,none,none,none,none]
def La (Y a1 Z:Value) (w:World) (K:Value→World→Prop):Prop:= V8 P T.d w fun q w=>Q1 P F.aU [Y,a1] w fun f w=>Q1 P F.q [f] w fun ac w=>X3 P .len [T.i] T.e [false] [f] w fun N w=>lp (α:=Value) (.int .i64 0) w fun j C d_ w=>Q3 P .lss T.e (.tmp 26) (.tmp 25) C N w fun V w=>X1 V (indexAddr P T.i f C w fun L w=>Q2 P T.b L w fun U w=>V8 P T.b w fun a w=>Y0 P T.b a U w fun _u w=>Q2 P T.b a w fun z w=>Q1 P F.cA [z,Z] w fun t w=>ext P t 0 w fun W w=>ext P t 1 w fun B w=>V8 P T.d w fun c w=>Y0 P T.d c W w fun _u w=>X1 B (dr w fun i k=>Q5 i (fun h=> ∀w,k w→fieldAddr P T.b a 0 w (dk i h w)) fun h=>Q5 i (fun n=> ∀g w,k w→h g w→Q2 P T.c g w (dk i n w)) fun n=>Q5 i (fun o=> ∀w,k w→Q2 P T.d c w (dk i o w)) fun o=>∀g u v w,k w→h g w→n u w→o v w→ Y0 P T.d q v w fun _u w=>Y8 P T.d q w fun s=>K (.tuple #[u,s,(.bool true)]) w) (Q3 P .add T.e (.tmp 26) (.const (.int .i64 1)) C (.int .i64 1) w fun H w=>j H w)) (X3 P .len [T.i] T.e [false] [f] w fun R w=>lp (α:=Value) (.int .i64 0) w fun e p d_ w=>Q3 P .lss T.e (.tmp 43) (.tmp 42) p R w fun A w=>X1 A (indexAddr P T.i f p w fun D w=>Q2 P T.b D w fun M w=>V8 P T.b w fun d w=>Y0 P T.b d M w fun _u w=>Q2 P T.b d w fun X w=>Q1 P F.aW [Y,X,Z] w fun m w=>ext P m 0 w fun O w=>ext P m 1 w fun J w=>ext P m 2 w fun y w=>V8 P T.d w fun b w=>Y0 P T.d b J w fun _u w=>X1 y (dr w fun i k=>Q5 i (fun l=> ∀w,k w→Q2 P T.d b w (dk i l w)) fun l=>∀r w,k w→l r w→ Y0 P T.d q r w fun _u w=>Y8 P T.d q w fun s=>K (.tuple #[O,s,(.bool true)]) w) (Q3 P .add T.e (.tmp 43) (.const (.int .i64 1)) p (.int .i64 1) w fun Q w=>e Q w)) (H3 P T.d [] w fun E w=>Y0 P T.d q E w fun _u w=>Y8 P T.d q w fun s=>K (.tuple #[(.string ⟨#[]⟩),s,(.bool false)]) w))
theorem Gq {c b a:Value} {w:World} {K:Value→World→Prop} (h:La c b a w K):Q1 P F.be [c,b,a] w K:=Q9 Gv Tryz.func96 rfl (by decide) (by kernel_rfl) h
def Fc:V9:=[none,none,none,some ([21],[4,6,21,22,23,24,25,26,27,28,29,30,31,32]),none,none,none,none,none,none,none,none,none,some ([37],[4,9,37,38,39,40,41,42,43,44,45,46]),none,none,none,none,none,none,none,none,some ([50],[4,11,50,51,52,53,54,55,56,57,58,59,60,61,62,63,64,65,66,67,68,69,70]),none,none,none,none,none,none,none,none,none,none,none,none,none,none,none,some ([],[4,14,15,16,17,82,83,84,85,86,87,88,89,90,91,92,93,94,95,96,97,98,99,100]),none,none,none,none,none,none,none]
def Vp (a0 a1:Value) (w:World) (K:Value→World→Prop):Prop:= box P T.r a0 w fun u w=>box P T.b a1 w fun l w=>fieldAddr P T.b l 6 w fun ah w=>Q2 P T.k ah w fun q w=>X3 P .len [T.k] T.e [false] [q] w fun a9 w=>lp (α:=Value) (.int .i64 0) w fun f x3 Y w=>Q3 P .lss T.e (.tmp 21) (.tmp 20) x3 a9 w fun aa w=>X1 aa (indexAddr P T.k q x3 w fun ad w=>Q2 P T.n ad w fun ak w=>V8 P T.n w fun t6 w=>Y0 P T.n t6 ak w fun _u w=>Q2 P T.r u w fun R w=>fieldAddr P T.b l 1 w fun a5 w=>Q2 P T.c a5 w fun ag w=>fieldAddr P T.n t6 0 w fun N w=>Q2 P T.c N w fun ae w=>Q1 P F.bo [R,ag,ae] w fun bb w=>Q3 P .geq T.e (.tmp 30) (.const (.int .i64 0)) bb (.int .i64 0) w fun A w=>X1 A (K (.int .i64 64) w) (Q3 P .add T.e (.tmp 21) (.const (.int .i64 1)) x3 (.int .i64 1) w fun ab w=>f ab w)) (E7 P (.func F.ap) [] [u] w fun av w=>V8 P T.a4 w fun v w=>Y0 P T.a4 v av w fun _u w=>fieldAddr P T.b l 6 w fun bi w=>Q2 P T.k bi w fun n w=>X3 P .len [T.k] T.e [false] [n] w fun bl w=>lp (α:=Value) (.int .i64 0) w fun a h Y w=>Q3 P .lss T.e (.tmp 37) (.tmp 36) h bl w fun bg w=>X1 bg (indexAddr P T.k n h w fun ai w=>Q2 P T.n ai w fun J w=>V8 P T.n w fun t9 w=>Y0 P T.n t9 J w fun _u w=>Q2 P T.a4 v w fun al w=>fieldAddr P T.n t9 1 w fun bc w=>Q2 P T.c bc w fun D w=>Z3 P al [D] w fun C w=>J8 P .not C w fun an w=>X1 an (K (.int .i64 65) w) (Q3 P .add T.e (.tmp 37) (.const (.int .i64 1)) h (.int .i64 1) w fun Q w=>a Q w)) (fieldAddr P T.b l 7 w fun bm w=>Q2 P T.j bm w fun t w=>X3 P .len [T.j] T.e [false] [t] w fun aj w=>lp (α:=Value) (.int .i64 0) w fun b i Y w=>Q3 P .lss T.e (.tmp 50) (.tmp 49) i aj w fun W w=>X1 W (indexAddr P T.j t i w fun ba w=>Q2 P T.d ba w fun ap w=>V8 P T.d w fun e w=>Y0 P T.d e ap w fun _u w=>Q2 P T.a4 v w fun y w=>fieldAddr P T.d e 2 w fun B w=>Q2 P T.c B w fun bj w=>Z3 P y [bj] w fun z w=>J8 P .not z w fun g w=>Q0 g true w (fieldAddr P T.d e 2) fun af w=>Q0 g true w (Q2 P T.c af) fun bf w=>Q0 g true w (Q3 P .neq T.c (.tmp 61) (.const (.string ⟨#[]⟩)) bf (.string ⟨#[]⟩)) fun aq w=>pick P g aq (.bool false) w fun c w=>Q0 c false w (fieldAddr P T.d e 1) fun L w=>Q0 c false w (Q2 P T.h L) fun az w=>Q0 c false w (E7 P (.func F.aq) [] [v]) fun M w=>Q0 c false w (Q1 P F.c [az,M]) fun ax w=>pick P c (.bool true) ax w fun bh w=>X1 bh (K (.int .i64 65) w) (Q3 P .add T.e (.tmp 50) (.const (.int .i64 1)) i (.int .i64 1) w fun ao w=>b ao w)) (Ku P T.y none w fun V w=>Ku P T.y none w fun a6 w=>V8 P T.y w fun r w=>V8 P T.y w fun m w=>Y0 P T.y r V w fun _u w=>Y0 P T.y m a6 w fun _u w=>Q2 P T.r u w fun a4 w=>fieldAddr P T.b l 0 w fun am w=>Q2 P T.c am w fun bd w=>E7 P (.func F.b0) [] [r,m] w fun ay w=>Q1 P F.x [a4,bd,ay] w fun bk w=>X1 bk (K (.int .i64 66) w) (fieldAddr P T.b l 4 w fun X w=>Q2 P T.u X w fun ar w=>X1 ar (K (.int .i64 0) w) (Q2 P T.y m w fun O w=>rng P T.y O w fun s w=>lp (α:=Unit) () w fun d bu Y w=>V1 P s false T.x w fun a8 w=>ext P a8 0 w fun aw w=>X1 aw (Q8x P s w fun a3 w=>ext P a3 0 w fun a2 w=>Q2 P T.r u w fun bn w=>fieldAddr P T.b l 0 w fun U w=>Q2 P T.c U w fun H w=>Q1 P F.be [bn,H,a2] w fun j w=>ext P j 0 w fun bq w=>ext P j 1 w fun ac w=>ext P j 2 w fun Z w=>V8 P T.d w fun o w=>Y0 P T.d o ac w fun _u w=>J8 P .not Z w fun k w=>Q0 k false w (fieldAddr P T.d o 3) fun be w=>Q0 k false w (Q2 P T.u be) fun E w=>pick P k (.bool true) E w fun p w=>X1 p (K (.int .i64 67) w) (d () w)) (K (.int .i64 0) w))))))
theorem Fw {b a:Value} {w:World} {K:Value→World→Prop} (h:Vp b a w K):Q1 P F.b6 [b,a] w K:=Q9 Fc Tryz.func49 rfl (by decide) (by kernel_rfl) h
def Q95:V9:=[none,none,none,none,none,some ([30],[2,3,4,7,8,9,30,31,32,33,34,35,36,37,38,39,40,41,42,43,44,45,46,47,48,49,50,51,52]),none,none,none,none,none,none,none,none,none,none,some ([58],[2,3,4,10,11,58,59,60,61,62,63,64,65,66,67,68,69,70,71,72,73,74,75,76,77]),none,none,none,none,none,none,none,none,none,some ([85],[2,3,4,12,13,14,85,86,87,88,89,90,91,92,93,94,95,96,97]),none,none,none,none,none,none,none,none,none,none,none,none,none,some ([114],[2,3,4,17,18,114,115,116,117,118,119,120,121,122,123,124,125,126,127,128,129,130,131,132,133]),none,none,none,none,none,none,none,none]
def Q3P (a0:Value) (w:World) (K:Value→World→Prop):Prop:= Q1 P F.cD [] w fun bh w=>Ku P T.a3 none w fun bq w=>H3 P T.a0 [(0,bh),(1,bq)] w fun a4 w=>box P T.a0 a4 w fun a w=>nilCheck P a w fun bg w=>fieldAddr P T.a0 bg 0 w fun a5 w=>Q2 P T.i a5 w fun bp w=>X3 P .len [T.i] T.e [false] [bp] w fun e w=>X3 P .len [T.i] T.e [false] [a0] w fun bc w=>lp (α:=Value) (.int .i64 0) w fun y x5 d_ w=>Q3 P .lss T.e (.tmp 30) (.tmp 29) x5 bc w fun aw w=>X1 aw (indexAddr P T.i a0 x5 w fun bm w=>Q2 P T.b bm w fun bz w=>V8 P T.b w fun t8 w=>Y0 P T.b t8 bz w fun _u w=>Q2 P T.b t8 w fun az w=>Q1 P F.cw [az] w fun ao w=>Q3 P .neq T.v (.tmp 37) (.const (.int .i64 0)) ao (.int .i64 0) w fun bw w=>X1 bw (K (.tuple #[(.pointer none),x5,ao]) w) (dr w fun b c=>Q5 b (fun p=> ∀w,c w→nilCheck P a w (dk b p w)) fun p=>Q5 b (fun m=> ∀j w,c w→p j w→fieldAddr P T.a0 j 0 w (dk b m w)) fun m=>Q5 b (fun E=> ∀i w,c w→m i w→Q2 P T.i i w (dk b E w)) fun E=>Q5 b (fun t=> ∀w,c w→Q2 P T.b t8 w (dk b t w)) fun t=>Q5 b (fun v=> ∀n w,c w→t n w→Q1 P F.cx [n] w (dk b v w)) fun v=>Q5 b (fun N=> ∀z w,c w→v z w→buildSlice P T.i 1 [(0,z)] w (dk b N w)) fun N=>∀j i ad n z ap w,c w→p j w→m i w→E ad w→t n w→v z w→N ap w→ X3 P .append [T.i,T.i] T.i [false,false] [ad,ap] w fun bf w=>nilCheck P a w fun a9 w=>fieldAddr P T.a0 a9 0 w fun a8 w=>Y0 P T.i a8 bf w fun _u w=>Q3 P .add T.e (.tmp 30) (.const (.int .i64 1)) x5 (.int .i64 1) w fun br w=>y br w)) (nilCheck P a w fun ar w=>fieldAddr P T.a0 ar 0 w fun ax w=>Q2 P T.i ax w fun am w=>X3 P .len [T.i] T.e [false] [am] w fun av w=>lp (α:=Value) (.int .i64 0) w fun f d d_ w=>Q3 P .lss T.e (.tmp 58) (.tmp 57) d av w fun bj w=>X1 bj (indexAddr P T.i am d w fun bu w=>Q2 P T.b bu w fun bk w=>V8 P T.b w fun H w=>Y0 P T.b H bk w fun _u w=>fieldAddr P T.b H 0 w fun bi w=>Q2 P T.c bi w fun a2 w=>Q1 P F.j [a,a2] w fun bn w=>X1 bn (Q3 P .sub T.e (.tmp 67) (.tmp 68) d e w fun bx w=>K (.tuple #[(.pointer none),bx,(.int .i64 60)]) w) (dr w fun b c=>Q5 b (fun k=> ∀w,c w→nilCheck P a w (dk b k w)) fun k=>Q5 b (fun q=> ∀o w,c w→k o w→fieldAddr P T.a0 o 1 w (dk b q w)) fun q=>Q5 b (fun l=> ∀w,c w→fieldAddr P T.b H 0 w (dk b l w)) fun l=>Q5 b (fun L=> ∀u w,c w→q u w→Q2 P T.a3 u w (dk b L w)) fun L=>Q5 b (fun M=> ∀r w,c w→l r w→Q2 P T.c r w (dk b M w)) fun M=>∀o u r ah ak w,c w→k o w→q u w→l r w→L ah w→M ak w→ mapUpdate P T.a3 ah ak d w fun _u w=>Q3 P .add T.e (.tmp 58) (.const (.int .i64 1)) d (.int .i64 1) w fun b0 w=>f b0 w)) (nilCheck P a w fun bl w=>fieldAddr P T.a0 bl 0 w fun a3 w=>Q2 P T.i a3 w fun bs w=>R8 P T.i bs (some e) none none w fun ag w=>X3 P .len [T.i] T.e [false] [ag] w fun bo w=>lp (α:=Value) (.int .i64 0) w fun g s d_ w=>Q3 P .lss T.e (.tmp 85) (.tmp 84) s bo w fun bd w=>X1 bd (indexAddr P T.i ag s w fun a7 w=>Q2 P T.b a7 w fun a1 w=>V8 P T.b w fun af w=>Y0 P T.b af a1 w fun _u w=>Q2 P T.b af w fun be w=>Q1 P F.bc [a,be] w fun R w=>Q3 P .neq T.v (.tmp 93) (.const (.int .i64 0)) R (.int .i64 0) w fun bb w=>X1 bb (K (.tuple #[(.pointer none),s,R]) w) (Q3 P .add T.e (.tmp 85) (.const (.int .i64 1)) s (.int .i64 1) w fun a6 w=>g a6 w)) (nilCheck P a w fun ay w=>fieldAddr P T.a0 ay 0 w fun X w=>Q2 P T.i X w fun Z w=>R8 P T.i Z (some e) none none w fun ac w=>E7 P (.func F.bl) [a] [] w fun aj w=>Q1 P F.o [ac,aj] w fun A w=>Q3 P .geq T.e (.tmp 107) (.const (.int .i64 0)) A (.int .i64 0) w fun al w=>X1 al (K (.tuple #[(.pointer none),A,(.int .i64 63)]) w) (Q1 P F.bm [a,e] w fun C w=>X3 P .len [T.a7] T.e [false] [C] w fun an w=>lp (α:=Value) (.int .i64 0) w fun h J d_ w=>Q3 P .lss T.e (.tmp 114) (.tmp 113) J an w fun Q w=>X1 Q (indexAddr P T.a7 C J w fun Y w=>Q2 P T.e Y w fun D w=>nilCheck P a w fun V w=>fieldAddr P T.a0 V 0 w fun ai w=>Q2 P T.i ai w fun ab w=>indexAddr P T.i ab D w fun W w=>Q2 P T.b W w fun ae w=>Q1 P F.b6 [a,ae] w fun B w=>Q3 P .neq T.v (.tmp 127) (.const (.int .i64 0)) B (.int .i64 0) w fun U w=>X1 U (Q3 P .sub T.e (.tmp 129) (.tmp 130) D e w fun O w=>K (.tuple #[(.pointer none),O,B]) w) (Q3 P .add T.e (.tmp 114) (.const (.int .i64 1)) J (.int .i64 1) w fun aa w=>h aa w)) (K (.tuple #[a,(.int .i64 0),(.int .i64 0)]) w)))))
theorem Q8H {a:Value} {w:World} {K:Value→World→Prop} (h:Q3P a w K):Q1 P F.cL [a] w K:=Q9 Q95 Tryz.func12 rfl (by decide) (by kernel_rfl) h
def Vv (w:World) (K:Value→World→Prop):Prop:= H3 P T.w [(0,(.string ⟨#[105,110,116]⟩)),(1,(.int .i64 1))] w fun p w=>H3 P T.w [(0,(.string ⟨#[114,101,116,117,114,110]⟩))] w fun n w=>buildSlice P T.q 2 [(0,p),(1,n)] w fun r w=>H3 P T.n [(0,(.string ⟨#[120]⟩)),(1,(.string ⟨#[105,110,116]⟩))] w fun s w=>H3 P T.n [(0,(.string ⟨#[110,101,120,116]⟩)),(1,(.string ⟨#[65]⟩))] w fun o w=>buildSlice P T.k 2 [(0,s),(1,o)] w fun q w=>buildSlice P T.h 2 [(0,(.string ⟨#[105,110,116]⟩)),(1,(.string ⟨#[65]⟩))] w fun t w=>H3 P T.d [(0,(.string ⟨#[102]⟩)),(1,t),(2,(.string ⟨#[105,110,116]⟩)),(4,(.int .i64 3)),(5,r)] w fun e w=>H3 P T.w [(0,(.string ⟨#[114,101,116,117,114,110]⟩))] w fun j w=>buildSlice P T.q 1 [(0,j)] w fun h w=>H3 P T.d [(0,(.string ⟨#[103]⟩)),(4,(.int .i64 1)),(5,h)] w fun c w=>buildSlice P T.j 2 [(0,e),(1,c)] w fun m w=>H3 P T.b [(0,(.string ⟨#[65]⟩)),(1,(.string ⟨#[79,98,106,101,99,116]⟩)),(6,q),(7,m)] w fun a w=>buildSlice P T.h 1 [(0,(.string ⟨#[73]⟩))] w fun k w=>H3 P T.n [(0,(.string ⟨#[108]⟩)),(1,(.string ⟨#[65,91,93]⟩))] w fun i w=>buildSlice P T.k 1 [(0,i)] w fun l w=>H3 P T.b [(0,(.string ⟨#[66]⟩)),(1,(.string ⟨#[65]⟩)),(2,k),(6,l)] w fun b w=>H3 P T.b [(0,(.string ⟨#[73]⟩)),(1,(.string ⟨#[79,98,106,101,99,116]⟩)),(3,(.bool true)),(4,(.bool true))] w fun f w=>H3 P T.b [(0,(.string ⟨#[68]⟩)),(1,(.string ⟨#[79,98,106,101,99,116]⟩)),(4,(.bool true))] w fun d w=>buildSlice P T.i 4 [(0,a),(1,b),(2,f),(3,d)] w fun g w=>K g w
theorem Fl {w:World} {K:Value→World→Prop} (h:Vv w K):Q1 P F.aD [] w K:=Q9 (List.replicate 3 none) Tryz.func13 rfl (by decide) (by kernel_rfl) h
def Hz (b:Value) (w:World) (K:Value→World→Prop):Prop:= nilCheck P b w fun e w=>fieldAddr P T.p e 3 w fun a w=>Q2 P T.g a w fun d w=>X3 P .len [T.g] T.e [false] [d] w fun c w=>K c w
theorem Q20 {a:Value} {w:World} {K:Value→World→Prop} (h:Hz a w K):Q1 P F.c1 [a] w K:=Q9 (List.replicate 2 none) Tryz.func17 rfl (by decide) (by kernel_rfl) h
def Ew (o:Value) (w:World) (K:Value→World→Prop):Prop:= dr w fun a b=>Q5 a (fun h=> ∀w,b w→nilCheck P o w (dk a h w)) fun h=>Q5 a (fun j=> ∀k w,b w→h k w→fieldAddr P T.p k 1 w (dk a j w)) fun j=>Q5 a (fun e=> ∀w,b w→nilCheck P o w (dk a e w)) fun e=>Q5 a (fun i=> ∀g w,b w→e g w→fieldAddr P T.p g 2 w (dk a i w)) fun i=>Q5 a (fun n=> ∀f w,b w→j f w→Q2 P T.e f w (dk a n w)) fun n=>Q5 a (fun c=> ∀l w,b w→i l w→Q2 P T.e l w (dk a c w)) fun c=>∀k f g l p d w,b w→h k w→j f w→e g w→i l w→n p w→c d w→ Q3 P .sub T.e (.tmp 6) (.tmp 10) p d w fun m w=>K m w
theorem Q1a {a:Value} {w:World} {K:Value→World→Prop} (h:Ew a w K):Q1 P F.ag [a] w K:=Q9 (List.replicate 2 none) Tryz.func18 rfl (by decide) (by kernel_rfl) h
def Hy (k h:Value) (w:World) (K:Value→World→Prop):Prop:= Q3 P .geq T.e (.tmp 5) (.const (.int .i64 0)) h (.int .i64 0) w fun a w=>Q0 a true w (fun w J=>J h w) fun i w=>Q0 a true w (fun w J=>J k w) fun j w=>Q0 a true w (nilCheck P j) fun b w=>Q0 a true w (fieldAddr P T.p b 3) fun f w=>Q0 a true w (Q2 P T.g f) fun e w=>Q0 a true w (X3 P .len [T.g] T.e [false] [e]) fun c w=>Q0 a true w (Q3 P .lss T.e (.tmp 8) (.tmp 13) i c) fun g w=>pick P a g (.bool false) w fun d w=>K d w
theorem Q22 {b a:Value} {w:World} {K:Value→World→Prop} (h:Hy b a w K):Q1 P F.aJ [b,a] w K:=Q9 (List.replicate 2 none) Tryz.func51 rfl (by decide) (by kernel_rfl) h
def Ef (h g:Value) (w:World) (K:Value→World→Prop):Prop:= Q1 P F.aJ [h,g] w fun j w=>J8 P .not j w fun i w=>X1 i (K (.string ⟨#[]⟩) w) (nilCheck P h w fun b w=>fieldAddr P T.p b 3 w fun e w=>Q2 P T.g e w fun d w=>indexAddr P T.g d g w fun f w=>fieldAddr P T.o f 0 w fun c w=>Q2 P T.c c w fun a w=>K a w)
theorem Q19 {b a:Value} {w:World} {K:Value→World→Prop} (h:Ef b a w K):Q1 P F.a7 [b,a] w K:=Q9 (List.replicate 5 none) Tryz.func20 rfl (by decide) (by kernel_rfl) h
def En (i h:Value) (w:World) (K:Value→World→Prop):Prop:= Q1 P F.aJ [i,h] w fun k w=>J8 P .not k w fun j w=>X1 j (K (.int .i64 0) w) (nilCheck P i w fun b w=>fieldAddr P T.p b 3 w fun f w=>Q2 P T.g f w fun d w=>indexAddr P T.g d h w fun g w=>fieldAddr P T.o g 1 w fun c w=>Q2 P T.l c w fun a w=>X3 P .len [T.l] T.e [false] [a] w fun e w=>K e w)
theorem Q1m {b a:Value} {w:World} {K:Value→World→Prop} (h:En b a w K):Q1 P F.ah [b,a] w K:=Q9 (List.replicate 5 none) Tryz.func21 rfl (by decide) (by kernel_rfl) h
def Zt:V9:=[none,none,none,some ([8],[4,5,8,9,10,11,12,13,14,15,16,17,18]),none,none,none,none,none,none,none]
def I3 (g h:Value) (w:World) (K:Value→World→Prop):Prop:= X3 P .len [T.g] T.e [false] [g] w fun j w=>lp (α:=Value) (.int .i64 0) w fun a b k w=>Q3 P .lss T.e (.tmp 8) (.tmp 7) b j w fun i w=>X1 i (indexAddr P T.g g b w fun f w=>Q2 P T.o f w fun e w=>Z3 P h [e] w fun c w=>X1 c (K b w) (Q3 P .add T.e (.tmp 8) (.const (.int .i64 1)) b (.int .i64 1) w fun d w=>a d w)) (K (.int .i64 (-1)) w)
theorem Zw {b a:Value} {w:World} {K:Value→World→Prop} (h:I3 b a w K):Q1 P F.aa [b,a] w K:=Q9 Zt Tryz.func98 rfl (by decide) (by kernel_rfl) h
def F6 (c b:Value) (w:World) (K:Value→World→Prop):Prop:= Q1 P F.aa [c,b] w fun d w=>Q3 P .geq T.e (.tmp 7) (.const (.int .i64 0)) d (.int .i64 0) w fun a w=>K a w
theorem Yh {b a:Value} {w:World} {K:Value→World→Prop} (h:F6 b a w K):Q1 P F.n [b,a] w K:=Q9 (List.replicate 2 none) Tryz.func53 rfl (by decide) (by kernel_rfl) h
def Rw (O R:Value) (w:World) (K:Value→World→Prop):Prop:= box P T.f R w fun a w=>Q2 P T.f a w fun Q w=>H3 P T.f [] w fun U w=>Q3 P .eql T.f (.tmp 6) (.tmp 7) Q U w fun V w=>X1 V (K (.string ⟨#[110,117,108,108]⟩) w) (Q2 P T.f a w fun q w=>fieldAddr P T.f a 1 w fun C w=>Q2 P T.a1 C w fun u w=>H3 P T.f [(0,(.int .i64 1)),(1,u)] w fun m w=>Q3 P .eql T.f (.tmp 10) (.tmp 13) q m w fun j w=>X1 j (K (.string ⟨#[105,110,116]⟩) w) (Q2 P T.f a w fun D w=>fieldAddr P T.f a 1 w fun B w=>Q2 P T.a1 B w fun E w=>Q3 P .and T.a1 (.tmp 18) (.const (.int .i64 1)) E (.int .i64 1) w fun e w=>H3 P T.f [(0,(.int .i64 2)),(1,e)] w fun s w=>Q3 P .eql T.f (.tmp 16) (.tmp 20) D s w fun o w=>X1 o (K (.string ⟨#[98,111,111,108]⟩) w) (Q2 P T.f a w fun z w=>fieldAddr P T.f a 2 w fun M w=>Q2 P T.c M w fun p w=>H3 P T.f [(0,(.int .i64 3)),(2,p)] w fun r w=>Q3 P .eql T.f (.tmp 23) (.tmp 26) z r w fun b w=>Q0 b true w (fieldAddr P T.f a 2) fun A w=>Q0 b true w (Q2 P T.c A) fun v w=>Q0 b true w (X3 P .len [T.c] T.e [false] [v]) fun d w=>Q0 b true w (Q3 P .leq T.e (.tmp 31) (.const (.int .i64 4096)) d (.int .i64 4096)) fun t w=>pick P b t (.bool false) w fun c w=>Q0 c true w (fieldAddr P T.f a 2) fun k w=>Q0 c true w (Q2 P T.c k) fun J w=>Q0 c true w (Q1 P F.b1 [J]) fun f w=>pick P c f (.bool false) w fun H w=>X1 H (K (.string ⟨#[116,101,120,116]⟩) w) (Q2 P T.f a w fun l w=>fieldAddr P T.f a 3 w fun g w=>Q2 P T.e g w fun y w=>H3 P T.f [(0,(.int .i64 4)),(3,y)] w fun i w=>Q3 P .eql T.f (.tmp 40) (.tmp 43) l i w fun h w=>X1 h (fieldAddr P T.f a 3 w fun n w=>Q2 P T.e n w fun L w=>Q1 P F.a7 [O,L] w fun N w=>K N w) (K (.string ⟨#[]⟩) w)))))
theorem Q2O {b a:Value} {w:World} {K:Value→World→Prop} (h:Rw b a w K):Q1 P F.cd [b,a] w K:=Q9 (List.replicate 13 none) Tryz.func31 rfl (by decide) (by kernel_rfl) h
def Vb (a f:Value) (w:World) (K:Value→World→Prop):Prop:= Q1 P F.ac [a,f] w fun g w=>J8 P .not g w fun h w=>X1 h (K (.tuple #[a,(.bool false)]) w) (X3 P .len [T.c] T.e [false] [a] w fun c w=>X3 P .len [T.c] T.e [false] [f] w fun d w=>Q3 P .sub T.e (.tmp 13) (.tmp 15) c d w fun b w=>R8 P T.c a none (some b) none w fun e w=>K (.tuple #[e,(.bool true)]) w)
theorem Be {b a:Value} {w:World} {K:Value→World→Prop} (h:Vb b a w K):Q1 P F.ce [b,a] w K:=Q9 (List.replicate 5 none) Tryz.func180 rfl (by decide) (by kernel_rfl) h
def Ot (d c:Value) (w:World) (K:Value→World→Prop):Prop:= Q1 P F.ce [d,c] w fun b w=>ext P b 0 w fun e w=>ext P b 1 w fun a w=>K (.tuple #[e,a]) w
theorem Ae {b a:Value} {w:World} {K:Value→World→Prop} (h:Ot b a w K):Q1 P F.bJ [b,a] w K:=Q9 (List.replicate 2 none) Tryz.func146 rfl (by decide) (by kernel_rfl) h
def Q2n (f:Value) (w:World) (K:Value→World→Prop):Prop:= Q1 P F.bJ [f,(.string ⟨#[91,93]⟩)] w fun g w=>ext P g 0 w fun h w=>ext P g 1 w fun i w=>J8 P .not i w fun a w=>Q0 a false w (fun w J=>J f w) fun c w=>Q0 a false w (Q1 P F.a0 [c]) fun e w=>Q0 a false w (J8 P .not e) fun d w=>pick P a (.bool true) d w fun b w=>X1 b (K (.string ⟨#[]⟩) w) (K h w)
theorem Q6S {a:Value} {w:World} {K:Value→World→Prop} (h:Q2n a w K):Q1 P F.c4 [a] w K:=Q9 (List.replicate 6 none) Tryz.func97 rfl (by decide) (by kernel_rfl) h
def Mk (d c:Value) (w:World) (K:Value→World→Prop):Prop:= box P T.b d w fun a w=>fieldAddr P T.b a 0 w fun g w=>Q2 P T.c g w fun b w=>Q2 P T.c c w fun e w=>Q3 P .eql T.c (.tmp 5) (.tmp 6) b e w fun f w=>K f w
theorem Pf {b a:Value} {w:World} {K:Value→World→Prop} (h:Mk b a w K):Q1 P F.br [b,a] w K:=Q9 (List.replicate 2 none) Tryz.func110 rfl (by decide) (by kernel_rfl) h
def Es (i d z:Value) (w:World) (K:Value→World→Prop):Prop:= box P T.c z w fun a w=>Q1 P F.s [i,d] w fun o w=>J8 P .not o w fun b w=>Q0 b false w (fun w J=>J i w) fun l w=>Q0 b false w (Q2 P T.c a) fun y w=>Q0 b false w (Q1 P F.s [l,y]) fun f w=>Q0 b false w (J8 P .not f) fun t w=>pick P b (.bool true) t w fun r w=>X1 r (K (.bool false) w) (Q2 P T.c a w fun q w=>Q3 P .eql T.c (.tmp 19) (.tmp 20) d q w fun n w=>X1 n (K (.bool true) w) (Q1 P F.aP [d] w fun c w=>Q0 c false w (Q2 P T.c a) fun p w=>Q0 c false w (Q1 P F.aP [p]) fun s w=>pick P c (.bool true) s w fun m w=>X1 m (K (.bool false) w) (Q3 P .eql T.c (.tmp 30) (.const (.string ⟨#[110,117,108,108]⟩)) d (.string ⟨#[110,117,108,108]⟩) w fun e w=>X1 e (K (.bool true) w) (Q1 P F.c4 [d] w fun u w=>Q3 P .neq T.c (.tmp 34) (.const (.string ⟨#[]⟩)) u (.string ⟨#[]⟩) w fun j w=>X1 j (Q2 P T.c a w fun v w=>Q3 P .eql T.c (.tmp 36) (.const (.string ⟨#[79,98,106,101,99,116]⟩)) v (.string ⟨#[79,98,106,101,99,116]⟩) w fun g w=>K g w) (E7 P (.func F.br) [] [a] w fun k w=>Q1 P F.x [i,d,k] w fun h w=>K h w)))))
theorem Q0n {c b a:Value} {w:World} {K:Value→World→Prop} (h:Es c b a w K):Q1 P F.bR [c,b,a] w K:=Q9 (List.replicate 13 none) Tryz.func62 rfl (by decide) (by kernel_rfl) h
def Hc (l n m:Value) (w:World) (K:Value→World→Prop):Prop:= box P T.f n w fun b w=>Q2 P T.f b w fun o w=>Q1 P F.cd [l,o] w fun c w=>Q3 P .neq T.c (.tmp 11) (.const (.string ⟨#[]⟩)) c (.string ⟨#[]⟩) w fun a w=>Q0 a true w (fun w J=>J l w) fun k w=>Q0 a true w (nilCheck P k) fun f w=>Q0 a true w (fieldAddr P T.p f 0) fun d w=>Q0 a true w (Q2 P T.r d) fun j w=>Q0 a true w (fun w J=>J c w) fun e w=>Q0 a true w (fun w J=>J m w) fun g w=>Q0 a true w (Q1 P F.bR [j,e,g]) fun h w=>pick P a h (.bool false) w fun i w=>K i w
theorem Q13 {c b a:Value} {w:World} {K:Value→World→Prop} (h:Hc c b a w K):Q1 P F.a8 [c,b,a] w K:=Q9 (List.replicate 3 none) Tryz.func27 rfl (by decide) (by kernel_rfl) h
def Ey (t v y:Value) (w:World) (K:Value→World→Prop):Prop:= box P T.o v w fun a w=>fieldAddr P T.o a 0 w fun z w=>Q2 P T.c z w fun u w=>Q1 P F.c4 [u] w fun m w=>Q3 P .neq T.c (.tmp 11) (.const (.string ⟨#[]⟩)) m (.string ⟨#[]⟩) w fun q w=>X1 q (K m w) (dr w fun b k=>Q5 b (fun e=> ∀w,k w→nilCheck P t w (dk b e w)) fun e=>Q5 b (fun d=> ∀c w,k w→e c w→fieldAddr P T.p c 0 w (dk b d w)) fun d=>Q5 b (fun g=> ∀w,k w→fieldAddr P T.o a 0 w (dk b g w)) fun g=>Q5 b (fun i=> ∀f w,k w→d f w→Q2 P T.r f w (dk b i w)) fun i=>Q5 b (fun j=> ∀h w,k w→g h w→Q2 P T.c h w (dk b j w)) fun j=>∀c f h n l w,k w→e c w→d f w→g h w→i n w→j l w→ Q1 P F.u [n,l] w fun o w=>indexAddr P T.k o y w fun p w=>fieldAddr P T.n p 1 w fun r w=>Q2 P T.c r w fun s w=>K s w)
theorem Q0H {c b a:Value} {w:World} {K:Value→World→Prop} (h:Ey c b a w K):Q1 P F.aF [c,b,a] w K:=Q9 (List.replicate 6 none) Tryz.func52 rfl (by decide) (by kernel_rfl) h
def Vr (h g:Value) (w:World) (K:Value→World→Prop):Prop:= Q1 P F.j [h,g] w fun a w=>Q0 a true w (fun w J=>J h w) fun i w=>Q0 a true w (fun w J=>J g w) fun b w=>Q0 a true w (Q1 P F.h [i,b]) fun e w=>Q0 a true w (F5 P T.b e 4) fun d w=>Q0 a true w (J8 P .not d) fun c w=>pick P a c (.bool false) w fun f w=>K f w
theorem Fg {b a:Value} {w:World} {K:Value→World→Prop} (h:Vr b a w K):Q1 P F.aG [b,a] w K:=Q9 (List.replicate 2 none) Tryz.func66 rfl (by decide) (by kernel_rfl) h
end Go.Proofs.YtjdiakhipmggjaaGreatDoor
