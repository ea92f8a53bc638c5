/- Parts of a proof about the given program: its functions as texts of their own, what each computes, plain laws of that. The conditions of each stand in its statement. -/
import Derived.WalkKit
import Derived.Test.YtjdiakhipmggjaaGreatDoorProg
import Derived.KernelRfl
set_option linter.unnecessarySimpa false
set_option linter.defProp false
set_option linter.unusedSectionVars false
set_option linter.unusedVariables false
set_option linter.unusedSimpArgs false
namespace Go.Emb
def T2 (P:Program) (s:Sem Next) (w:World) (K:Value→World→Prop):Prop:=
 match s.run P w with
 | .ok (.value v) w'=>K v w'
 | .ok .skip w'=>K undef w'
 | .ok (.enter f a) w'=>Calls P f a w' fun e b=>match e with | .returned v=>K v b | _=>False
 | .ok (.row row a) w'=>Rows P row a w' K
 | _=>False
theorem X1g: ∃f:Program→Sem Next→World→(Value→World→Prop)→Prop,f=T2:=⟨_,rfl⟩
noncomputable def op:Program→Sem Next→World→(Value→World→Prop)→Prop:=Classical.choose X1g
theorem A9:op=T2:=Classical.choose_spec X1g
theorem X4c {P:Program} {o:Oper} {a:Act} {w:World} {next:Act→World→Prop} {Q:Exit→Act→World→Prop}
 (h:op P (execOp a.eval o) w (fun v w=>next (a.put o.dst v) w)):o.wp P a w next Q:=by
 unfold Oper.wp
 rw[A9] at h
 unfold T2 at h
 cases c:(execOp a.eval o).run P w with
 | halt x w'=>rw[c] at h;exact h.elim
 | ok n w'=>
  rw[c] at h
  cases n<;>simp only at h<;>try exact h.elim
  ·exact h
  ·exact h
  ·refine Calls.mono h fun e d b=>?_
   cases e<;>first | exact b | exact b.elim
  ·exact h
theorem Ro {P:Program} {s:Sem Next} {K d:Value→World→Prop} {w:World} (a: ∀v w,K v w→d v w) (h:op P s w K):op P s w d:=by
 rw[A9] at*
 unfold T2 at*
 cases c:s.run P w with
 | halt x w'=>rw[c] at h;exact h.elim
 | ok n w'=>
  rw[c] at h
  cases n<;>simp only at h⊢ <;>try exact h.elim
  ·exact a _ _ h
  ·exact a _ _ h
  ·refine Calls.mono h fun e f b=>?_
   cases e<;>first | exact a _ _ b | exact b.elim
  ·exact h.mono a
def sv (s:Sem Value):Sem Next:=do Pure.pure (.value (←s))
def su (s:Sem Unit):Sem Next:=do s;Pure.pure .skip
section
variable (P : Program)
noncomputable def pick (c a b:Value) (w:World) (K:Value→World→Prop):Prop:=op P (do Pure.pure (.value (if←asBool c then a else b))) w K
noncomputable def W0 (e:TypeId) (w:World) (K:Value→World→Prop):Prop:=op P (sv (Instr.alloc e true (.tuple #[]))) w K
noncomputable def box (e:TypeId) (x:Value) (w:World) (K:Value→World→Prop):Prop:=op P (sv (Instr.box e x)) w K
noncomputable def H2 (t:TypeId) (a:List (Nat×Value)) (w:World) (K:Value→World→Prop):Prop:=op P (sv (Instr.build t a.toArray)) w K
noncomputable def buildSlice (t:TypeId) (n:Nat) (a:List (Nat×Value)) (w:World) (K:Value→World→Prop):Prop:=op P (sv (Instr.buildSlice t n a.toArray)) w K
noncomputable def Q2 (t:TypeId) (a:Value) (w:World) (K:Value→World→Prop):Prop:=op P (sv (Instr.loadAt t a)) w K
noncomputable def Y0 (t:TypeId) (a x:Value) (w:World) (K:Value→World→Prop):Prop:=op P (su (Instr.storeAt t a x)) w K
noncomputable def nilCheck (x:Value) (w:World) (K:Value→World→Prop):Prop:=op P (execOp (fun _=>x) {dst:=none,op:= .nilCheck (.const x),type:=0,pos:= "",after:= #[],guard:=none}) w K
noncomputable def Q3 (o:BinOp) (t:TypeId) (b a:Operand) (x y:Value) (w:World) (K:Value→World→Prop):Prop:=op P (sv (do eqGuard o t b a x y;Go.binOp o t x y)) w K
noncomputable def J9 (o:UnOp) (x:Value) (w:World) (K:Value→World→Prop):Prop:=op P (sv (Op.unary o x)) w K
noncomputable def conv (s d:TypeId) (x:Value) (w:World) (K:Value→World→Prop):Prop:=op P (sv (Go.convert s d x)) w K
noncomputable def X1L (t:TypeId) (x:Value) (w:World) (K:Value→World→Prop):Prop:=op P (sv (Instr.makeInterface t x)) w K
noncomputable def E7 (f:Fn) (first caps:List Value) (w:World) (K:Value→World→Prop):Prop:=op P (sv (Instr.makeFunc f first.toArray caps.toArray)) w K
noncomputable def Tf (t:TypeId) (r:Option Value) (w:World) (K:Value→World→Prop):Prop:=op P (sv (Instr.makeMap t r)) w K
noncomputable def Dq (t:TypeId) (n c:Value) (w:World) (K:Value→World→Prop):Prop:=op P (sv (Instr.makeSlice t n c)) w K
noncomputable def R7 (t:TypeId) (x:Value) (b a c:Option Value) (w:World) (K:Value→World→Prop):Prop:=op P (sv (Instr.sliceAt t x b a c)) w K
noncomputable def fieldAddr (t:TypeId) (x:Value) (f:Nat) (w:World) (K:Value→World→Prop):Prop:=op P (sv (Instr.fieldAt t x f)) w K
noncomputable def F4 (t:TypeId) (x:Value) (f:Nat) (w:World) (K:Value→World→Prop):Prop:=op P (sv (Instr.field t x f)) w K
noncomputable def indexAddr (t:TypeId) (x i:Value) (w:World) (K:Value→World→Prop):Prop:=op P (sv (Instr.indexAt t x i)) w K
noncomputable def C3 (t:TypeId) (x i:Value) (w:World) (K:Value→World→Prop):Prop:=op P (sv (Instr.index t x i)) w K
noncomputable def lookup (t:TypeId) (x i:Value) (ok:Bool) (w:World) (K:Value→World→Prop):Prop:=op P (sv (Instr.lookup t x i ok)) w K
noncomputable def mapUpdate (t:TypeId) (m k x:Value) (w:World) (K:Value→World→Prop):Prop:=op P (su (Instr.mapUpdate t m k x)) w K
noncomputable def mapEntry (t:TypeId) (m k:Value) (w:World) (K:Value→World→Prop):Prop:=op P (sv (Instr.mapEntry t m k)) w K
noncomputable def entryStore (t:TypeId) (m s x:Value) (w:World) (K:Value→World→Prop):Prop:=op P (su (Instr.entryStore t m s x)) w K
noncomputable def rng (t:TypeId) (x:Value) (w:World) (K:Value→World→Prop):Prop:=op P (sv (Instr.range t x)) w K
noncomputable def V1 (b:Value) (a:Bool) (t:TypeId) (w:World) (K:Value→World→Prop):Prop:=op P (sv (Instr.next b a t)) w K
noncomputable def Q8C (a:Value) (w:World) (K:Value→World→Prop):Prop:=op P (sv (Instr.entry a)) w K
noncomputable def pnc (x:Value) (w:World) (K:Value→World→Prop):Prop:=op P (sv (Instr.panic x)) w K
noncomputable def ext (x:Value) (i:Nat) (w:World) (K:Value→World→Prop):Prop:=op P (sv (Instr.extract x i)) w K
noncomputable def X3 (b:Builtin) (a:List TypeId) (t:TypeId) (cs:List Bool) (xs:List Value) (w:World) (K:Value→World→Prop):Prop:=op P (Go.builtin b a.toArray t cs.toArray xs.toArray) w K
noncomputable def Q1 (f:FuncId) (xs:List Value) (w:World) (K:Value→World→Prop):Prop:=op P (callFunc f xs.toArray) w K
noncomputable def Z3 (f:Value) (xs:List Value) (w:World) (K:Value→World→Prop):Prop:=op P (do let d←Deferred.ofValue f xs.toArray;invoke d.target d.args) w K
end
def get (l:List Value) (t:Nat):Value:=l.getD t undef
def ev (l:List Value):Operand→Value
 | .tmp t=>get l t
 | .const v=>v
 | .global g=> .pointer (some ⟨g,0,none⟩)
 | .func f=> .func (.func f) #[] #[]
def put (l:List Value) (d:Option Tmp) (v:Value):List Value:=
 match d with
 | some d=>l.set d v
 | none=>l
def evs (l:List Value) (xs:Array Operand):List Value:=xs.toList.map (ev l)
def evp (l:List Value) (xs:Array (Nat×Operand)):List (Nat×Value):=xs.toList.map fun p=>(p.1,ev l p.2)
def evo (l:List Value) (x:Option Operand):Option Value:=match x with | some x=>some (ev l x) | none=>none
def isC:Operand→Bool | .const _=>true | _=>false
noncomputable def Dv (P:Program) (l:List Value) (o:Oper) (c:Call) (w:World) (K:Value→World→Prop):Prop:=
 match c.callee with
 | .builtin b=>X3 P b c.argTypes.toList o.type (c.args.toList.map isC) (evs l c.args) w K
 | .value (.func f)=>Q1 P f (evs l c.args) w K
 | .value f=>Z3 P (ev l f) (evs l c.args) w K
 | _=>op P (execOp (ev l) o) w K
noncomputable def W1 (P:Program) (l:List Value) (o:Oper) (w:World) (K:Value→World→Prop):Prop:=
 match o.op with
 | .move x=>K (ev l x) w
 | .assign x=>K (ev l x) w
 | .pick c a b=>pick P (ev l c) (ev l a) (ev l b) w K
 | .alloc e=>W0 P e w K
 | .box e x=>box P e (ev l x) w K
 | .build t h=>H2 P t (evp l h) w K
 | .buildSlice t n h=>buildSlice P t n (evp l h) w K
 | .load t a=>Q2 P t (ev l a) w K
 | .store t a x=>Y0 P t (ev l a) (ev l x) w K
 | .nilCheck x=>nilCheck P (ev l x) w K
 | .binOp op t x y _=>Q3 P op t x y (ev l x) (ev l y) w K
 | .unOp op _ x=>J9 P op (ev l x) w K
 | .convert s d x=>conv P s d (ev l x) w K
 | .makeInterface t x=>X1L P t (ev l x) w K
 | .makeFunc f first caps=>E7 P f (evs l first) (evs l caps) w K
 | .makeMap t r=>Tf P t (evo l r) w K
 | .makeSlice t n c=>Dq P t (ev l n) (ev l c) w K
 | .slice t x p q u=>R7 P t (ev l x) (evo l p) (evo l q) (evo l u) w K
 | .fieldAddr t x f=>fieldAddr P t (ev l x) f w K
 | .field t x f=>F4 P t (ev l x) f w K
 | .indexAddr t x i=>indexAddr P t (ev l x) (ev l i) w K
 | .index t x i=>C3 P t (ev l x) (ev l i) w K
 | .lookup t x i ok=>lookup P t (ev l x) (ev l i) ok w K
 | .mapUpdate t m k x=>mapUpdate P t (ev l m) (ev l k) (ev l x) w K
 | .insert t m k x=>mapUpdate P t (ev l m) (ev l k) (ev l x) w K
 | .mapEntry t m k=>mapEntry P t (ev l m) (ev l k) w K
 | .entryStore t m s x=>entryStore P t (ev l m) (ev l s) (ev l x) w K
 | .range t x=>rng P t (ev l x) w K
 | .next g j=>V1 P (ev l g) j o.type w K
 | .extract x i=>ext P (ev l x) i w K
 | .entry g=>Q8C P (ev l g) w K
 | .panic x=>pnc P (ev l x) w K
 | .call c=>Dv P l o c w K
 | _=>op P (execOp (ev l) o) w K
theorem Q8c {α β:Type} (f:α→β) (a:Array α):a.map f=(a.toList.map f).toArray:=by rw[←Array.toList_map,Array.toArray_toList]
theorem X2f (l:List Value) (x:Option Operand):x.map (ev l)=evo l x:=by cases x<;>rfl
theorem Q5E {P:Program} {l:List Value} {o:Oper} {c:Call} {K g:Value→World→Prop} {w:World} (d: ∀v w,K v w→g v w) (h:Dv P l o c w K):Dv P l o c w g:=by
 obtain ⟨a,e,i⟩:=c
 cases a with
 | builtin b=>exact Ro d h
 | invoke r m=>exact Ro d h
 | value f=>cases f<;>(simp only[Dv,Z3,Q1] at h⊢;exact Ro d h)
theorem K3 {P:Program} {l:List Value} {o:Oper} {K b:Value→World→Prop} {w:World} (a: ∀v w,K v w→b v w) (h:W1 P l o w K):W1 P l o w b:=by
 obtain ⟨d,p,e,pos,c,g⟩:=o
 cases p<;>first | exact a _ _ h | exact Q5E a h | exact Ro a h | (simp only[W1] at h⊢;exact Ro a h)
theorem Q6L {P:Program} {l:List Value} {o:Oper} {K:Value→World→Prop} {w:World} (h:W1 P l o w K):op P (execOp (ev l) o) w K:=by
 unfold W1 at h
 split at h<;>rename_i a
 all_goals first
  | exact h
  | (unfold execOp;rw[a];exact h)
  | (unfold execOp;rw[a];simp only[Q8c,X2f];exact h)
  | (unfold execOp;rw[a,A9];exact h)
  | skip
 rename_i c
 unfold Dv at h
 split at h<;>rename_i b
 ·unfold execOp;rw[a];simp only[resolve,b,Q8c]
  simp only[pure_bind,invoke]
  unfold X3 at h
  simp only[Array.toArray_toList] at h
  refine (congrArg (fun z=>op P (builtin _ c.argTypes o.type (List.toArray z) _) w K) (List.map_congr_left (fun x _=>?_))).mp h
  cases x<;>rfl
 ·unfold execOp;rw[a];simp only[resolve,b,Q8c]
  simp only[ev,Deferred.ofValue,pure_bind,invoke]
  simpa [Q1,evs] using h
 ·unfold execOp;rw[a];simp only[resolve,b,Q8c]
  exact h
 ·exact h
def Nr (v:Value) (b:Bool) (w:World) (a:World→(Value→World→Prop)→Prop) (J:Value→World→Prop):Prop:=
 match v with
 | .bool c=>if c=b then a w J else J undef w
 | _=>J undef w
theorem Q9B: ∃f:Value→Bool→World→(World→(Value→World→Prop)→Prop)→(Value→World→Prop)→Prop,f=Nr:=⟨_,rfl⟩
noncomputable def Q0:Value→Bool→World→(World→(Value→World→Prop)→Prop)→(Value→World→Prop)→Prop:=Classical.choose Q9B
theorem Hf:Q0=Nr:=Classical.choose_spec Q9B
def Q3r (v:Value) (t e:Prop):Prop:=
 match v with
 | .bool true=>t
 | .bool false=>e
 | _=>False
theorem Q9V: ∃f:Value→Prop→Prop→Prop,f=Q3r:=⟨_,rfl⟩
noncomputable def X1:Value→Prop→Prop→Prop:=Classical.choose Q9V
theorem Q5T:X1=Q3r:=Classical.choose_spec Q9V
noncomputable def Z0 (P:Program) (ops:List Oper) (next:List Value→World→Prop):List Oper→List Value→World→Prop
 | [],l,w=>next l w
 | o::a,l,w=>
  match o.guard with
  | none=>W1 P l o w (fun v w=>Z0 P ops next a (put l o.dst v) w)
  | some (j,b)=>match (ops[j]?).bind (·.dst) with
   | some d=>Q0 (get l d) b w (W1 P l o) (fun v w=>Z0 P ops next a (put l o.dst v) w)
   | none=>Z0 P ops next a (put l o.dst undef) w
def Tm:Nat→Type
 | 0=>Unit
 | 1=>Value
 | n+2=>Value×Tm (n+1)
def Of (l:List Value):(a:List Nat)→Tm a.length
 | []=>()
 | [s]=>get l s
 | s::t::r=>(get l s,Of l (t::r))
def Re (i:Nat) (e:Value):(a:List Nat)→Tm a.length→Value
 | [],_=>e
 | [s],x=>if s=i then x else e
 | s::t::r,x=>if s=i then x.1 else Re i e (t::r) x.2
def H4 (a b:List Nat) (x:Tm a.length) (d:Nat→Value):Nat→List Value→List Value
 | _,[]=>[]
 | i,v::l=>Re i (if b.contains i then d i else v) a x::H4 a b x d (i+1) l
def X1h (α:Type) (x0:α) (w:World) (a:(α→World→Prop)→α→(Nat→Value)→World→Prop):Prop:=
 ∃(I:α→World→Prop) (μ:α→World→Nat),I x0 w∧ ∀x d w,I x w→a (fun b w'=>I b w'∧μ b w'<μ x w) x d w
theorem X1C: ∃f:(α:Type)→α→World→((α→World→Prop)→α→(Nat→Value)→World→Prop)→Prop,f=X1h:=⟨_,rfl⟩
noncomputable def lp {α:Type}:α→World→((α→World→Prop)→α→(Nat→Value)→World→Prop)→Prop:=Classical.choose X1C α
theorem X1o {α:Type} (x0:α) (w:World) (a:(α→World→Prop)→α→(Nat→Value)→World→Prop):lp x0 w a=X1h α x0 w a:=
 congrFun (congrFun (congrFun (congrFun (Classical.choose_spec X1C) α) x0) w) a
def X1l (α:Type) (w:World) (A:(α→World→Prop)→World→Prop) (B:α→(Nat→Value)→World→Prop):Prop:=
 ∃I:α→World→Prop,A I w∧ ∀x d w,I x w→B x d w
theorem X1v: ∃f:(α:Type)→World→((α→World→Prop)→World→Prop)→(α→(Nat→Value)→World→Prop)→Prop,f=X1l:=⟨_,rfl⟩
noncomputable def jn {α:Type}:World→((α→World→Prop)→World→Prop)→(α→(Nat→Value)→World→Prop)→Prop:=Classical.choose X1v α
theorem X1p {α:Type} (w:World) (A:(α→World→Prop)→World→Prop) (B:α→(Nat→Value)→World→Prop):jn w A B=X1l α w A B:=
 congrFun (congrFun (congrFun (congrFun (Classical.choose_spec X1v) α) w) A) B
theorem Ur {α:Type} {w:World} {A:(α→World→Prop)→World→Prop} {B:α→(Nat→Value)→World→Prop} (I:α→World→Prop) (h:A I w) (a: ∀x d w,I x w→B x d w):jn w A B:=by
 rw[X1p];exact ⟨I,h,a⟩
theorem Q6s {α:Type} {w:World} {A:(α→World→Prop)→World→Prop} {B:α→(Nat→Value)→World→Prop} (h:jn w A B): ∃I:α→World→Prop,A I w∧ ∀x d w,I x w→B x d w:=by
 rw[X1p] at h;exact h
theorem Wj {α:Type} {x0:α} {w:World} {a:(α→World→Prop)→α→(Nat→Value)→World→Prop} (I:α→World→Prop) (μ:α→World→Nat) (e:I x0 w)
 (c: ∀x d w,I x w→a (fun b w'=>I b w'∧μ b w'<μ x w) x d w):lp x0 w a:=by
 rw[X1o];exact ⟨I,μ,e,c⟩
theorem X08 {α:Type} {x0:α} {w:World} {a:(α→World→Prop)→α→(Nat→Value)→World→Prop} (h:lp x0 w a):
 ∃(I:α→World→Prop) (μ:α→World→Nat),I x0 w∧ ∀x d w,I x w→a (fun b w'=>I b w'∧μ b w'<μ x w) x d w:=by
 rw[X1o] at h;exact h
def R0 (ops:List Oper):List Nat:=ops.filterMap (·.dst)
def Qm:Code→Nat
 | .seq a b=>Qm a+Qm b+1
 | .cond _ a b=>Qm a+Qm b
 | .block _ c=>Qm c
 | .loop c=>Qm c+1
 | .scope c=>Qm c
 | _=>0
def N3 (d:List (Option (List Nat))):Nat→Code→List Nat
 | _, .region _ ops _=>R0 ops.toList
 | k, .seq a b=>(d.getD k none).getD []++(N3 d (k+1) a++N3 d (k+1+Qm a) b)
 | k, .cond _ a b=>N3 d k a++N3 d (k+Qm a) b
 | k, .block _ c=>N3 d k c
 | k, .loop c=>(d.getD k none).getD []++N3 d (k+1) c
 | k, .scope c=>N3 d k c
 | _,_=>[]
abbrev Hi:=Exit→List Value→World→Prop
def thn (next:List Value→World→Prop) (Q:Hi):Hi
 | .normal,a,w=>next a w
 | e,a,w=>Q e a w
def Q3i (id:Nat) (Q:Hi):Hi
 | .exit b,a,w=>if b=id then Q .normal a w else Q (.exit b) a w
 | e,a,w=>Q e a w
noncomputable def De (P:Program) (a:List (Option (List Nat))):Nat→Code→Hi→List Value→World→Prop
 | _, .skip,Q,l,w=>Q .normal l w
 | _, .label _,Q,l,w=>Q .normal l w
 | _, .exit id,Q,l,w=>Q (.exit id) l w
 | _, .ret,Q,l,w=>Q .ret l w
 | _, .region _ ops false,Q,l,w=>Z0 P ops.toList (fun l w=>Q .normal l w) ops.toList l w
 | _, .region _ ops true,Q,l,w=> ∀t,Z0 P ops.toList (fun l w=>Q .normal l w) ((Region.schedule (P.follows .mixedOrders) ops t).filterMap (ops[·]?)) l w.drew
 | k, .seq x y,Q,l,w=>match a.getD k none with
  | none=>De P a (k+1) x (thn (fun l w=>De P a (k+1+Qm x) y Q l w) Q) l w
  | some e=>jn w (fun J w=>De P a (k+1) x (thn (fun l' w'=>J (Of l' e) w') Q) l w)
   (fun z d w=>De P a (k+1+Qm x) y Q (H4 e (N3 a (k+1) x) z d 0 l) w)
 | k, .cond c x y,Q,l,w=>X1 (ev l c) (De P a k x Q l w) (De P a (k+Qm x) y Q l w)
 | k, .block id c,Q,l,w=>De P a k c (Q3i id Q) l w
 | k, .loop c,Q,l,w=>
  lp (Of l ((a.getD k none).getD [])) w (fun b x d w=>De P a (k+1) c (thn (fun l' w'=>b (Of l' ((a.getD k none).getD [])) w') Q) (H4 ((a.getD k none).getD []) (N3 a (k+1) c) x d 0 l) w)
 | _,_,_,_,_=>False
theorem Q8g {ops:List Oper} {l:List Value} {o:Oper} {j:Nat} {b:Bool} (e:o.guard=some (j,b)) {d:Nat} (a:(ops[j]?).bind (·.dst)=some d):
 Region.wanted o (yielded ops.toArray l.toArray)=true↔get l d= .bool b:=by
 unfold Region.wanted yielded
 rw[e]
 simp only[List.getElem?_toArray]
 rw[a]
 simp only[Option.bind_some,get,List.getD_eq_getElem?_getD]
 have key: ∀x:Option Value,((match x with | some (.bool c)=>some c | _=>none)==some b)=true↔x.getD undef= .bool b:=by
  intro x
  cases x with
  | none=>simp[undef]
  | some v=>cases v<;>simp
 exact key _
theorem Q6M {ops:List Oper} {l:List Value} {o:Oper} {j:Nat} {b:Bool} (c:o.guard=some (j,b)) (a:(ops[j]?).bind (·.dst)=none):
 Region.wanted o (yielded ops.toArray l.toArray)=false:=by
 unfold Region.wanted yielded
 rw[c]
 simp only[List.getElem?_toArray]
 rw[a]
 rfl
theorem Lg {v:Value} {b:Bool} {a:World→(Value→World→Prop)→Prop} {J:Value→World→Prop} {w:World} (h:Q0 v b w a J):
 (v= .bool b∧a w J)∨(v≠ .bool b∧J undef w):=by
 rw[Hf] at h
 unfold Nr at h
 split at h
 ·split at h
  ·rename_i c;subst c;exact .inl ⟨rfl,h⟩
  ·rename_i c;exact .inr ⟨by simp[c],h⟩
 ·rename_i d;exact .inr ⟨d b,h⟩
theorem Q0N {v:Value} {b:Bool} {a:World→(Value→World→Prop)→Prop} {J:Value→World→Prop} {w:World}
 (h:(v= .bool b∧a w J)∨(v≠ .bool b∧J undef w)):Q0 v b w a J:=by
 rw[Hf]
 unfold Nr
 split
 ·split
  ·rename_i c;subst c
   rcases h with h | h
   ·exact h.2
   ·exact absurd rfl h.1
  ·rename_i c
   rcases h with h | h
   ·exact absurd (Value.bool.inj h.1) c
   ·exact h.2
 ·rename_i d
  rcases h with h | h
  ·exact absurd h.1 (d b)
  ·exact h.2
theorem Q3E (a:Act):a.eval=ev a.tmps.toList:=by
 funext x
 cases x<;>simp[Act.eval,ev,get,List.getD_eq_getElem?_getD]
theorem Q8R (a:Act) (d:Option Tmp) (v:Value):(a.put d v).tmps.toList=put a.tmps.toList d v:=by
 cases d<;>simp[Act.put,put]
theorem Q8H (a:Act) (d:Option Tmp) (v:Value):(a.put d v).defers=a.defers:=by
 cases d<;>simp[Act.put]
def lift (Q:Hi):Exit→Act→World→Prop:=fun e a w=>a.defers=[]∧Q e a.tmps.toList w
theorem Q18 (P:Program) (ops:Array Oper) (Q:Exit→Act→World→Prop) (next:List Value→World→Prop)
 (y: ∀a w,a.defers=[]→next a.tmps.toList w→Q .normal a w) (is:List Nat) (s: ∀i∈is,i<ops.size):
 ∀(a:Act) (w:World),a.defers=[]→Z0 P ops.toList next (is.filterMap (ops[·]?)) a.tmps.toList w→wpOps P ops Q is a w:=by
 induction is with
 | nil=>intro a w o h;exact y a w o h
 | cons i is u=>
  intro a w o h
  have p:=s i (by simp)
  have m:ops[i]? =some ops[i]:=by simp[p]
  rw[List.filterMap_cons,m] at h
  simp only[Z0] at h
  simp only[wpOps,m]
  have q:ops.toList.toArray=ops:=by simp
  have r:a.tmps.toList.toArray=a.tmps:=by simp
  have f: ∀{v w},Z0 P ops.toList next (is.filterMap (ops[·]?)) (put a.tmps.toList ops[i].dst v) w→wpOps P ops Q is (a.put ops[i].dst v) w:=by
   intro v w e
   refine u (fun j t=>s j (by simp[t])) _ _ (by rw[Q8H];exact o) ?_
   rw[Q8R];exact e
  have k:W1 P a.tmps.toList ops[i] w (fun v w=>Z0 P ops.toList next (is.filterMap (ops[·]?)) (put a.tmps.toList ops[i].dst v) w)→
   ops[i].wp P a w (wpOps P ops Q is) Q:=by
   intro h
   refine X4c ?_
   rw[Q3E]
   exact Ro (fun v w e=>f e) (Q6L h)
  split at h
  ·rename_i n
   rw[if_pos (by simp[Region.wanted,n])]
   exact .inl (k h)
  ·rename_i j b n
   split at h
   ·rename_i d c
    have g:=Q8g (ops:=ops.toList) (l:=a.tmps.toList) n c
    rw[q,r] at g
    rcases Lg h with ⟨e,h⟩ | ⟨e,h⟩
    ·rw[if_pos (g.2 e)];exact .inl (k h)
    ·rw[if_neg (fun h=>e (g.1 h))];exact f h
   ·rename_i c
    have g:=Q6M (ops:=ops.toList) (l:=a.tmps.toList) n c
    rw[q,r] at g
    rw[if_neg (by rw[g];simp)];exact f h
theorem As (ops:Array Oper):(List.range ops.size).filterMap (ops[·]?)=ops.toList:=by
 apply List.ext_getElem?
 intro i
 rw[←Array.length_toList]
 have: ∀l:List Oper,(List.range l.length).filterMap (l[·]?)=l:=by
  intro l
  induction l with
  | nil=>rfl
  | cons x l a=>
   rw[List.length_cons,List.range_succ_eq_map,List.filterMap_cons]
   simp only[List.getElem?_cons_zero,List.filterMap_map]
   congr 1
 have h:=this ops.toList
 simp only[Array.getElem?_toList] at h
 rw[h]
theorem Q2h (b:Bool) (ops:Array Oper) (t:Nat): ∀i∈Region.schedule b ops t,i<ops.size:=by
 have key: ∀m c t a e,(∀i∈e,i<ops.size)→ ∀i∈Region.linearise.go m ops c t a e,i<ops.size:=by
  intro m c
  induction c with
  | zero=>intro t a e h i d;simp[Region.linearise.go] at d;exact h i d
  | succ c g=>
   intro t a e h i d
   simp only[Region.linearise.go] at d
   split at d
   ·rename_i j f
    refine g _ _ _ ?_ i d
    intro k hk
    rcases List.mem_cons.1 hk with rfl | hk
    ·have:=List.mem_of_getElem? f
     simp only[List.mem_filter,List.mem_range] at this
     exact this.1
    ·exact h k hk
   ·simp at d;exact h i d
 intro i d
 unfold Region.schedule at d
 split at d
 ·exact key _ _ _ _ _ (by simp) i d
 ·exact key _ _ _ _ _ (by simp) i d
def Qh (W:List Nat) (l l':List Value):Prop:=l'.length=l.length∧ ∀i,W.contains i=false→l'[i]? =l[i]?
theorem Qh.refl (W:List Nat) (l:List Value):Qh W l l:=⟨rfl,fun _ _=>rfl⟩
theorem Qh.trans {W:List Nat} {a b c:List Value} (h:Qh W a b) (k:Qh W b c):Qh W a c:=
 ⟨k.1.trans h.1,fun i d=>(k.2 i d).trans (h.2 i d)⟩
theorem Rx (a c:List Nat) (x:Tm a.length) (d:Nat→Value) (l:List Value): ∀i,(H4 a c x d i l).length=l.length:=by
 induction l with
 | nil=>intro i;rfl
 | cons v l b=>intro i;simp[H4,b]
theorem Bq (a b:List Nat) (x:Tm a.length) (d:Nat→Value) (l:List Value): ∀i j,(H4 a b x d i l)[j]? =(l[j]?).map fun v=>Re (i+j) (if b.contains (i+j) then d (i+j) else v) a x:=by
 induction l with
 | nil=>intro i j;simp[H4]
 | cons v l c=>
  intro i j
  cases j with
  | zero=>simp[H4]
  | succ j=>simp only[H4,List.getElem?_cons_succ,c];rw[show i+1+j=i+(j+1) from by omega]
theorem Vt (i:Nat) (e:Value): ∀(b:List Nat) (x:Tm b.length),b.contains i=false→Re i e b x=e
 | [],_,_=>rfl
 | [s],x,h=>by
  have a: ¬s=i:=by intro a;subst a;simp at h
  exact if_neg a
 | s::t::r,x,h=>by
  simp only[Re]
  split
  ·rename_i a;subst a;simp at h
  ·refine Vt i e (t::r) x.2 ?_
   simp only[List.contains_cons,Bool.or_eq_false_iff] at h⊢
   exact h.2
theorem Q6e (l:List Value) (i:Nat) (e c:Value): ∀(b:List Nat),b.contains i=true→Re i e b (Of l b)=get l i
 | [],h=>by simp at h
 | [s],h=>by
  simp only[List.contains_cons,List.contains_nil,Bool.or_false,beq_iff_eq] at h
  subst h;simp[Re,Of]
 | s::t::r,h=>by
  simp only[Re,Of]
  split
  ·rename_i a;subst a;rfl
  ·rename_i a
   refine Q6e l i e c (t::r) ?_
   simp only[List.contains_cons,Bool.or_eq_true,beq_iff_eq] at h⊢
   rcases h with h | h
   ·exact absurd h.symm a
   ·exact h
theorem Tg (a c:List Nat) (l l':List Value) (j:l'.length=l.length)
 (h: ∀i,a.contains i=false→c.contains i=false→l'[i]? =l[i]?):l'=H4 a c (Of l' a) (get l') 0 l:=by
 apply List.ext_getElem?
 intro i
 rw[Bq]
 simp only[Nat.zero_add]
 cases e:l[i]? with
 | none=>
  have:=List.getElem?_eq_none_iff.1 e
  simp only[Option.map_none]
  exact List.getElem?_eq_none (by omega)
 | some v=>
  have m:i<l.length:=(List.getElem?_eq_some_iff.1 e).1
  have k:l'[i]? =some (get l' i):=by
   simp only[get,List.getD_eq_getElem?_getD]
   rw[List.getElem?_eq_getElem (by omega)];rfl
  rw[k]
  simp only[Option.map_some,Option.some.injEq]
  by_cases g:a.contains i=true
  ·rw[Q6e l' i _ undef a g]
  ·have b:a.contains i=false:=by simpa using g
   rw[Vt _ _ _ _ b]
   by_cases d:c.contains i=true
   ·rw[if_pos d]
   ·have f:c.contains i=false:=by simpa using d
    rw[if_neg d]
    have:=h i b f
    rw[k,e] at this
    exact Option.some.inj this
theorem Q4L {v:Value} {t e b a:Prop} (c:t→b) (d:e→a) (h:X1 v t e):X1 v b a:=by
 rw[Q5T] at*
 unfold Q3r at*
 split at h
 ·exact c h
 ·exact d h
 ·exact h.elim
theorem Jr (P:Program) (c:List Oper) (next b:List Value→World→Prop) (W:List Nat) (k:List Value): ∀(ops:List Oper) (l:List Value) (w:World),
 (∀o∈ops,∀d,o.dst=some d→W.contains d=true)→Qh W k l→(∀l w,next l w→Qh W k l→b l w)→Z0 P c next ops l w→Z0 P c b ops l w
 | [],l,w,_,j,p,h=>p l w h j
 | o::f,l,w,q,j,p,h=>by
  have g: ∀v,Qh W k (put l o.dst v):=by
   intro v
   cases s:o.dst with
   | none=>exact j
   | some d=>
    have t:=q o (by simp) d s
    refine j.trans ⟨by simp[put],fun i r=>?_⟩
    have:d≠i:=by intro e;subst e;rw[t] at r;cases r
    simp[put,this]
  have a: ∀v w,Z0 P c next f (put l o.dst v) w→Z0 P c b f (put l o.dst v) w:=fun v w u=>
   Jr P c next b W k f _ w (fun o y=>q o (by simp[y])) (g v) p u
  simp only[Z0] at h⊢
  split at h
  ·exact K3 a h
  ·split at h
   ·refine Q0N ((Lg h).imp (fun ⟨n,m⟩=>⟨n,K3 a m⟩) (fun ⟨n,m⟩=>⟨n,a _ _ m⟩))
   ·exact a _ _ h
theorem Q4c {α:Type} {x0:α} {c a:(α→World→Prop)→α→(Nat→Value)→World→Prop} {w:World}
 (e: ∀b x d w,c b x d w→a b x d w) (h:lp x0 w c):lp x0 w a:=by
 obtain ⟨I,μ,g,f⟩:=X08 h
 exact Wj I μ g fun x d w i=>e _ _ _ _ (f x d w i)
theorem T3 {a b:List Nat} {i:Nat} (h:a.contains i=true):(a++b).contains i=true:=by simp at h⊢;exact .inl h
theorem R6 {a b:List Nat} {i:Nat} (h:b.contains i=true):(a++b).contains i=true:=by simp at h⊢;exact .inr h
theorem Q4a (P:Program) (q:List (Option (List Nat))) (c:Code): ∀(k:Nat) (Q A:Hi) (W:List Nat) (m l:List Value) (w:World),
 (∀i,(N3 q k c).contains i=true→W.contains i=true)→Qh W m l→
 (∀e l w,Q e l w→Qh W m l→A e l w)→De P q k c Q l w→De P q k c A l w:=by
 induction c with
 | skip=>intro k Q A W m l w _ g j h;exact j _ _ _ h g
 | label n=>intro k Q A W m l w _ g j h;exact j _ _ _ h g
 | exit id=>intro k Q A W m l w _ g j h;exact j _ _ _ h g
 | ret=>intro k Q A W m l w _ g j h;exact j _ _ _ h g
 | goto n=>intro k Q A W m l w _ g j h;exact h.elim
 | refuse s=>intro k Q A W m l w _ g j h;exact h.elim
 | scope c=>intro k Q A W m l w _ g j h;exact h.elim
 | rangeFunc f p a b=>intro k Q A W m l w _ g j h;exact h.elim
 | region id ops L=>
  intro k Q A W m l w B g j h
  have M: ∀o∈ops.toList,∀d,o.dst=some d→W.contains d=true:=by
   intro o R d hd
   refine B d ?_
   simp only[N3,R0,List.contains_eq_mem,List.mem_filterMap,decide_eq_true_eq]
   exact ⟨o,R,hd⟩
  cases L with
  | false=>exact Jr P _ _ _ W m _ _ _ M g (fun l w Y g=>j _ _ _ Y g) h
  | true=>
   intro t
   refine Jr P _ _ _ W m _ _ _ ?_ g (fun l w Y g=>j _ _ _ Y g) (h t)
   intro o R
   simp only[List.mem_filterMap] at R
   obtain ⟨i,_,r⟩:=R
   exact M o (by simpa using Array.mem_of_getElem? r)
 | seq x y E D=>
  intro k Q A W m l w B g j h
  have Z: ∀i,(N3 q (k+1) x).contains i=true→W.contains i=true:=fun i r=>B i (R6 (T3 r))
  have hy: ∀i,(N3 q (k+1+Qm x) y).contains i=true→W.contains i=true:=fun i r=>B i (R6 (R6 r))
  simp only[De] at h⊢
  split at h
  ·refine E _ _ _ W m l w Z g ?_ h
   intro e l' w' C u
   cases e with
   | normal=>exact D _ _ _ W m l' w' hy u j C
   | _=>exact j _ _ _ C u
  ·rename_i sl U
   obtain ⟨J,O,N⟩:=Q6s h
   refine Ur J (E _ _ _ W m l w Z g ?_ O) fun z d w hz=>?_
   ·intro e l' w' C u
    cases e with
    | normal=>exact C
    | _=>exact j _ _ _ C u
   ·refine D _ _ _ W m _ w hy (g.trans ⟨Rx _ _ _ _ _ _,fun i r=>?_⟩) j (N z d w hz)
    rw[Bq]
    have O:sl.contains i=false:=by
     cases H:sl.contains i with
     | false=>rfl
     | true=>rw[B i (T3 (by rw[U];exact H))] at r;cases r
    have N:(N3 q (k+1) x).contains i=false:=by
     cases H:(N3 q (k+1) x).contains i with
     | false=>rfl
     | true=>rw[Z i H] at r;cases r
    simp only[Nat.zero_add]
    cases hl:l[i]? with
    | none=>rfl
    | some v=>simp only[Option.map_some,Vt _ _ _ _ O,N,Bool.false_eq_true,if_false]
 | cond c x y E D=>
  intro k Q A W m l w B g j h
  exact Q4L (E k _ _ W m l w (fun i r=>B i (T3 r)) g j) (D _ _ _ W m l w (fun i r=>B i (R6 r)) g j) h
 | block id c X=>
  intro k Q A W m l w B g j h
  refine X k _ _ W m l w B g ?_ h
  intro e l' w' C u
  cases e with
  | exit ah=>simp only[Q3i] at C⊢;split<;>rename_i V<;>simp only[V,if_true,if_false] at C<;>exact j _ _ _ C u
  | _=>exact j _ _ _ C u
 | loop c X=>
  intro k Q A W m l w B g j h
  refine Q4c (fun aa x d w hb=>?_) h
  refine X _ _ _ W m _ _ (fun i r=>B i (R6 r)) ?_ ?_ hb
  ·refine g.trans ⟨Rx _ _ _ _ _ _,fun i r=>?_⟩
   rw[Bq]
   have O:((q.getD k none).getD []).contains i=false:=by
    cases H:((q.getD k none).getD []).contains i with
    | false=>rfl
    | true=>rw[B i (T3 H)] at r;cases r
   have N:(N3 q (k+1) c).contains i=false:=by
    cases H:(N3 q (k+1) c).contains i with
    | false=>rfl
    | true=>rw[B i (R6 H)] at r;cases r
   simp only[Nat.zero_add]
   cases hl:l[i]? with
   | none=>rfl
   | some v=>simp only[Option.map_some,Vt _ _ _ _ O,N,Bool.false_eq_true,if_false]
  ·intro e l' w' C u
   cases e with
   | normal=>exact C
   | _=>exact j _ _ _ C u
theorem X0f (P:Program) (g:List (Option (List Nat))) (c:Code): ∀(k:Nat) (Q:Hi) (a:Act) (w:World),
 a.defers=[]→De P g k c Q a.tmps.toList w→c.wp P (lift Q) a w:=by
 induction c with
 | skip=>intro k Q a w j h;exact wp_skip ⟨j,h⟩
 | label n=>intro k Q a w j h;exact wp_label ⟨j,h⟩
 | exit id=>intro k Q a w j h;exact wp_exit ⟨j,h⟩
 | ret=>intro k Q a w j h;exact wp_ret ⟨j,h⟩
 | goto n=>intro k Q a w j h;exact h.elim
 | refuse s=>intro k Q a w j h;exact h.elim
 | scope c=>intro k Q a w j h;exact h.elim
 | rangeFunc f p a b=>intro k Q a w j h;exact h.elim
 | region id ops B=>
  intro k Q a w j h
  cases B with
  | false=>
   refine wp_region (Q18 P ops _ _ (fun a w j h=>⟨j,h⟩) _ (by simp) a w j ?_)
   rw[As];exact h
  | true=>
   refine wp_region_draw fun t=>?_
   exact Q18 P ops _ _ (fun a w j h=>⟨j,h⟩) _ (Q2h _ _ _) a _ j (h t)
 | seq x y u r=>
  intro k Q a w j h
  simp only[De] at h
  split at h
  ·refine wp_seq (wp_mono (u _ _ a w j h) ?_)
   intro e o w' ⟨m,q⟩
   cases e with
   | normal=>exact r _ _ o w' m q
   | _=>exact ⟨m,q⟩
  ·rename_i Y aa
   obtain ⟨J,W,C⟩:=Q6s h
   have H:=Q4a P g x (k+1) _ (fun e l' w'=>thn (fun l' w'=>J (Of l' Y) w') Q e l' w'∧Qh (N3 g (k+1) x) a.tmps.toList l') (N3 g (k+1) x) a.tmps.toList a.tmps.toList w (fun _ h=>h) (Qh.refl _ _) (fun e l w h X=>⟨h,X⟩) W
   refine wp_seq (wp_mono (u (k+1) _ a w j H) ?_)
   intro e o w' ⟨m,q,A⟩
   cases e with
   | normal=>
    refine r (k+1+Qm x) _ o w' m ?_
    rw[Tg Y (N3 g (k+1) x) a.tmps.toList o.tmps.toList A.1 (fun i _ h=>A.2 i h)]
    exact C _ _ _ q
   | _=>exact ⟨m,q⟩
 | cond c x y u r=>
  intro k Q a w j h
  simp only[De,Q5T,Q3r] at h
  split at h
  ·rename_i M
   exact wp_cond_true (by rw[Q3E];exact M) (u _ _ _ _ j h)
  ·rename_i M
   exact wp_cond_false (by rw[Q3E];exact M) (r _ _ _ _ j h)
  ·exact h.elim
 | block id c U=>
  intro k Q a w j h
  refine wp_block (wp_mono (U k _ a w j h) ?_)
  intro e o w' ⟨m,q⟩
  cases e with
  | exit ae=>
   simp only[Q3i,Exit.inBlock] at q⊢
   split<;>rename_i N<;>simp only[N,if_true,if_false] at q<;>exact ⟨m,q⟩
  | _=>exact ⟨m,q⟩
 | loop c U=>
  intro k Q a w j h
  obtain ⟨I,μ,h0,Z⟩:=X08 h
  refine wp_loop (fun o w'=>o.defers=[]∧(∃d,o.tmps.toList=H4 ((g.getD k none).getD []) (N3 g (k+1) c) (Of o.tmps.toList ((g.getD k none).getD [])) d 0 a.tmps.toList)∧I (Of o.tmps.toList ((g.getD k none).getD [])) w') (fun o w'=>μ (Of o.tmps.toList ((g.getD k none).getD [])) w') ⟨j,⟨get a.tmps.toList,Tg _ _ _ _ rfl (fun _ _ _=>rfl)⟩,h0⟩ ?_
  intro z w1 ⟨V,⟨d1,v⟩,L⟩
  have R:=Z _ d1 w1 L
  dsimp only at R
  rw[←v] at R
  have O:=Q4a P g c (k+1) _ (fun e l' w'=>thn (fun l' w'=>I (Of l' ((g.getD k none).getD [])) w'∧μ (Of l' ((g.getD k none).getD [])) w'<μ (Of z.tmps.toList ((g.getD k none).getD [])) w1) Q e l' w'∧Qh (N3 g (k+1) c) z.tmps.toList l') (N3 g (k+1) c) z.tmps.toList z.tmps.toList w1 (fun _ h=>h) (Qh.refl _ _) (fun e l w h X=>⟨h,X⟩) R
  refine wp_mono (U _ _ z w1 V O) ?_
  intro e a2 w2 ⟨E,C,D⟩
  cases e with
  | normal=>
   refine ⟨⟨E,⟨get a2.tmps.toList,Tg _ _ _ _ ?_ ?_⟩,C.1⟩,C.2⟩
   ·rw[D.1,v,Rx]
   ·intro i W H
    rw[D.2 i H,v,Bq]
    simp only[Nat.zero_add,Vt _ _ _ _ W,H,Bool.false_eq_true,if_false,Option.map_id']
  | _=>exact ⟨E,C⟩
def Q8m:List Value→Nat→Value→(List Value→Prop)→Prop
 | [],_,_,k=>k []
 | _::l,0,v,k=>k (v::l)
 | x::l,n+1,v,k=>Q8m l n v (fun l'=>k (x::l'))
def Q3L (l:List Value) (d:Option Tmp) (v:Value) (k:List Value→Prop):Prop:=
 match d with
 | some d=>Q8m l d v k
 | none=>k l
def Q8N:List Value→Nat→(Value→Prop)→Prop
 | [],_,k=>k undef
 | x::_,0,k=>k x
 | _::l,n+1,k=>Q8N l n k
def evK (l:List Value) (o:Operand) (k:Value→Prop):Prop:=
 match o with
 | .tmp t=>Q8N l t k
 | .const v=>k v
 | .global g=>k (.pointer (some ⟨g,0,none⟩))
 | .func f=>k (.func (.func f) #[] #[])
def Q3h (i:Nat) (e:Value):(a:List Nat)→Tm a.length→(Value→Prop)→Prop
 | [],_,k=>k e
 | [s],x,k=>if s=i then k x else k e
 | s::t::r,x,k=>if s=i then k x.1 else Q3h i e (t::r) x.2 k
def Gs (a b:List Nat) (x:Tm a.length) (d:Nat→Value):Nat→List Value→(List Value→Prop)→Prop
 | _,[],k=>k []
 | i,v::l,k=>match b.contains i with
  | true=>Q3h i (d i) a x (fun u=>Gs a b x d (i+1) l (fun l'=>k (u::l')))
  | false=>Q3h i v a x (fun u=>Gs a b x d (i+1) l (fun l'=>k (u::l')))
theorem X1I (l:List Value): ∀(n:Nat) (v:Value) (k:List Value→Prop),Q8m l n v k=k (l.set n v):=by
 induction l with
 | nil=>intro n v k;rfl
 | cons x l a=>intro n v k;cases n with
  | zero=>rfl
  | succ n=>simp only[Q8m,a,List.set_cons_succ]
theorem Q7s (l:List Value) (d:Option Tmp) (v:Value) (k:List Value→Prop):Q3L l d v k=k (put l d v):=by
 cases d with
 | none=>rfl
 | some d=>exact X1I l d v k
theorem X2l (l:List Value): ∀(n:Nat) (k:Value→Prop),Q8N l n k=k (get l n):=by
 induction l with
 | nil=>intro n k;rfl
 | cons x l a=>intro n k;cases n with
  | zero=>rfl
  | succ n=>simp only[Q8N,a];rfl
theorem X3y (l:List Value) (o:Operand) (k:Value→Prop):evK l o k=k (ev l o):=by
 cases o with
 | tmp t=>exact X2l l t k
 | _=>rfl
theorem Q0v (i:Nat) (e:Value) (k:Value→Prop): ∀(a:List Nat) (x:Tm a.length),Q3h i e a x k=k (Re i e a x)
 | [],_=>rfl
 | [s],x=>by
  by_cases h:s=i
  ·exact (if_pos h).trans (congrArg k (if_pos h).symm)
  ·exact (if_neg h).trans (congrArg k (if_neg h).symm)
 | s::t::r,x=>by
  by_cases h:s=i
  ·exact (if_pos h).trans (congrArg k (if_pos h).symm)
  ·exact ((if_neg h).trans (Q0v i e k (t::r) x.2)).trans (congrArg k (if_neg h).symm)
theorem Q4O (a c:List Nat) (x:Tm a.length) (d:Nat→Value) (l:List Value): ∀(i:Nat) (k:List Value→Prop),Gs a c x d i l k=k (H4 a c x d i l):=by
 induction l with
 | nil=>intro i k;rfl
 | cons v l b=>
  intro i k
  simp only[Gs,H4]
  split
  ·rename_i h;rw[Q0v,b,if_pos h]
  ·rename_i h;rw[Q0v,b,if_neg (by rw[h];simp)]
theorem Bg (b c a:List Nat) (h: ∀i,c.contains i=a.contains i) (x:Tm b.length) (d:Nat→Value) (l:List Value): ∀i,H4 b c x d i l=H4 b a x d i l:=by
 induction l with
 | nil=>intro i;rfl
 | cons v l e=>intro i;simp only[H4,e,h]
noncomputable def P4 (P:Program) (ops:List Oper) (next:List Value→World→Prop):List Oper→List Value→World→Prop
 | [],l,w=>next l w
 | o::a,l,w=>
  match o.guard with
  | none=>match o.op with
   | .move x=>evK l x fun v=>Q3L l o.dst v fun l=>P4 P ops next a l w
   | .assign x=>evK l x fun v=>Q3L l o.dst v fun l=>P4 P ops next a l w
   | _=>W1 P l o w (fun v w=>Q3L l o.dst v fun l=>P4 P ops next a l w)
  | some (j,b)=>match (ops[j]?).bind (·.dst) with
   | some d=>Q0 (get l d) b w (W1 P l o) (fun v w=>Q3L l o.dst v fun l=>P4 P ops next a l w)
   | none=>Q3L l o.dst undef fun l=>P4 P ops next a l w
theorem Rb (P:Program) (ops:List Oper) (next:List Value→World→Prop) (os:List Oper): ∀(l:List Value) (w:World),P4 P ops next os l w=Z0 P ops next os l w:=by
 induction os with
 | nil=>intro l w;rfl
 | cons o a c=>
  intro l w
  obtain ⟨dst,p,e,pos,d,g⟩:=o
  cases g with
  | none=>cases p<;>simp only[P4,Z0,Q7s,X3y,c,W1]
  | some q=>obtain ⟨j,b⟩:=q;simp only[P4,Z0,Q7s,c]
def Sx (T:World→World→Prop) (φ:Value→World→Prop):Prop:= ∀v w w',φ v w→T w w'→φ v w'
def dk (T:World→World→Prop) (φ:Value→World→Prop) (w:World):Value→World→Prop:=fun v w'=>T w w'∧φ v w'
def Q6l (T:World→World→Prop) (A:(Value→World→Prop)→Prop) (a:(Value→World→Prop)→Prop):Prop:=
 ∃φ,Sx T φ∧A φ∧a φ
theorem Q97: ∃f:(World→World→Prop)→((Value→World→Prop)→Prop)→((Value→World→Prop)→Prop)→Prop,f=Q6l:=⟨_,rfl⟩
noncomputable def Q5:(World→World→Prop)→((Value→World→Prop)→Prop)→((Value→World→Prop)→Prop)→Prop:=Classical.choose Q97
theorem X06:Q5=Q6l:=Classical.choose_spec Q97
def Q8W (w:World) (A:(World→World→Prop)→(World→Prop)→Prop):Prop:= ∃T B,B w.drew∧(∀w w',B w→T w w'→B w')∧A T B
theorem X1s: ∃f:World→((World→World→Prop)→(World→Prop)→Prop)→Prop,f=Q8W:=⟨_,rfl⟩
noncomputable def dr:World→((World→World→Prop)→(World→Prop)→Prop)→Prop:=Classical.choose X1s
theorem X1q:dr=Q8W:=Classical.choose_spec X1s
theorem Im {w:World} {A:(World→World→Prop)→(World→Prop)→Prop} (T:World→World→Prop) (B:World→Prop) (h:B w.drew) (a: ∀w w',B w→T w w'→B w') (b:A T B):dr w A:=by
 rw[X1q];exact ⟨T,B,h,a,b⟩
theorem E5 {T:World→World→Prop} {A a:(Value→World→Prop)→Prop} (φ:Value→World→Prop) (b:Sx T φ) (h:A φ) (c:a φ):Q5 T A a:=by
 rw[X06];exact ⟨φ,b,h,c⟩
def Q42 (T:World→World→Prop) (A a:(List Value→Value→World→Prop)→Prop):Prop:=
 ∃φ,(∀xs,Sx T (φ xs))∧A φ∧a φ
theorem Q7G: ∃f:(World→World→Prop)→((List Value→Value→World→Prop)→Prop)→((List Value→Value→World→Prop)→Prop)→Prop,f=Q42:=⟨_,rfl⟩
noncomputable def Rt:(World→World→Prop)→((List Value→Value→World→Prop)→Prop)→((List Value→Value→World→Prop)→Prop)→Prop:=Classical.choose Q7G
theorem Q7D:Rt=Q42:=Classical.choose_spec Q7G
theorem Q46 {T:World→World→Prop} {A a:(List Value→Value→World→Prop)→Prop} (φ:List Value→Value→World→Prop) (b: ∀xs,Sx T (φ xs)) (h:A φ) (c:a φ):Rt T A a:=by
 rw[Q7D];exact ⟨φ,b,h,c⟩
noncomputable def runOp (P:Program) (ops:List Oper) (l:List Value) (o:Oper) (w:World) (K:Value→World→Prop):Prop:=
 match o.guard with
 | none=>W1 P l o w K
 | some (j,b)=>match (ops[j]?).bind (·.dst) with
  | some d=>Q0 (get l d) b w (W1 P l o) K
  | none=>False
inductive Ent where
  | val (v : Value)
  | ref (j : Nat)
def Ent.at (u:Nat→Value):Ent→Value
 | .val v=>v
 | .ref j=>u j
def Qa (u:Nat→Value) (S:List Ent):List Value:=S.map (Ent.at u)
def getE:List Ent→Nat→Ent
 | [],_=> .val undef
 | x::_,0=>x
 | _::l,n+1=>getE l n
def entOf (S:List Ent):Operand→Ent
 | .tmp t=>getE S t
 | .const v=> .val v
 | .global g=> .val (.pointer (some ⟨g,0,none⟩))
 | .func f=> .val (.func (.func f) #[] #[])
def mv (o:Oper):Option Operand:=
 match o.guard with
 | some _=>none
 | none=>match o.op with
  | .move x=>some x
  | .assign x=>some x
  | _=>none
def Q2L:List Ent→Nat→Ent→List Ent
 | [],_,_=>[]
 | _::l,0,e=>e::l
 | x::l,n+1,e=>x::Q2L l n e
def putE (S:List Ent) (d:Option Nat) (e:Ent):List Ent:=
 match d with
 | some d=>Q2L S d e
 | none=>S
def B6 (o:Oper):List Nat:=o.op.operands.toList.filterMap fun | .tmp t=>some t | _=>none
def H9 (ops:List Oper) (o:Oper):List Nat:=
 match o.guard with
 | none=>[]
 | some (j,_)=>match (ops[j]?).bind (·.dst) with | some d=>[d] | none=>[]
def Q1q:List Nat→List Nat
 | []=>[]
 | x::l=>x::(Q1q l).filter (fun y=> !(y==x))
def Q54:Ent→List Nat
 | .ref j=>[j]
 | .val _=>[]
def Q1E (S:List Ent):List Nat→List Nat
 | []=>[]
 | s::l=>Q54 (getE S s)++Q1E S l
def refs (ops:List Oper) (S:List Ent) (o:Oper):List Nat:=Q1q (Q1E S (H9 ops o++B6 o))
def Pm:List Nat→(Nat→Value)→((Nat→Value)→Prop)→Prop
 | [],u,k=>k u
 | j::a,u,k=> ∀t:Value,Pm a (fun n=>if n=j then t else u n) k
abbrev Su:=List (Nat×List Nat×(List Value→Value→World→Prop))
def Ux:Su→Nat→Option (List Nat×(List Value→Value→World→Prop))
 | [],_=>none
 | (i,φ)::l,j=>if i=j then some φ else Ux l j
def Pt (b:Su) (u:Nat→Value) (w:World) (a:Prop):List Nat→Prop
 | []=>a
 | j::c=>match Ux b j with
  | some ([],φ)=>φ [] (u j) w→Pt b u w a c
  | _=>Pt b u w a c
def Q1u (b:Su) (u:Nat→Value) (w:World) (a:Prop):List Nat→Prop
 | []=>a
 | j::c=>match Ux b j with
  | some (R,φ)=>φ (R.map u) (u j) w→Q1u b u w a c
  | none=>Q1u b u w a c
def Q6k (o:Oper):Bool:=match o.op with | .store .. =>true | _=>false
noncomputable def chain (P:Program) (ops:List Oper) (T:World→World→Prop) (B:World→Prop) (V1:List Value→World→Prop) (tail:List Oper):Nat→List Oper→List Ent→Su→List Nat→Prop
 | _,[],S,b,done=>Pm done (fun _=>undef) fun u=> ∀w,B w→Q1u b u w (P4 P ops V1 tail (Qa u S) w) done
 | i,o::a,S,b,done=>
  match mv o with
  | some x=>chain P ops T B V1 tail (i+1) a (putE S o.dst (entOf S x)) b done
  | none=>match Q6k o with
   | true=>Rt T (fun φ=>Pm (refs ops S o) (fun _=>undef) fun u=> ∀w,B w→Pt b u w (runOp P ops (Qa u S) o w (dk T (φ ((refs ops S o).map u)) w)) (refs ops S o))
    (fun φ=>chain P ops T B V1 tail (i+1) a (putE S o.dst (.ref i)) (b++[(i,refs ops S o,φ)]) (done++[i]))
   | false=>Q5 T (fun φ=>Pm (refs ops S o) (fun _=>undef) fun u=> ∀w,B w→Pt b u w (runOp P ops (Qa u S) o w (dk T φ w)) (refs ops S o))
    (fun φ=>chain P ops T B V1 tail (i+1) a (putE S o.dst (.ref i)) (b++[(i,[],fun _=>φ)]) (done++[i]))
def Xo:Op→Bool
 | .ready _ | .waits _ | .sliceToArrayPointer .. | .makeChan .. | .typeAssert .. | .go _ | .defer _ | .send .. | .recv .. | .select .. =>false
 | .call c=>match c.callee with | .invoke .. =>false | _=>true
 | _=>true
theorem Bi {l l':List Value} {x:Option Operand} (h: ∀y∈x.toArray,ev l y=ev l' y):evo l x=evo l' x:=by
 cases x with
 | none=>rfl
 | some y=>simp only[evo];rw[h y (by simp)]
theorem Q1m {l l':List Value} {xs:Array Operand} (h: ∀y∈xs,ev l y=ev l' y):evs l xs=evs l' xs:=by
 unfold evs;exact List.map_congr_left fun y a=>h y (by simpa using a)
theorem Q4N {l l':List Value} {xs:Array (Nat×Operand)} (h: ∀y∈(xs.toList.map (·.2)).toArray,ev l y=ev l' y):evp l xs=evp l' xs:=by
 unfold evp
 refine List.map_congr_left fun y a=>?_
 rw[h y.2 (by simp;exact ⟨y.1,by simpa using a⟩)]
theorem Dy {P:Program} {l l':List Value} {o:Oper} (k:Xo o.op=true) (h: ∀x∈o.op.operands,ev l x=ev l' x):W1 P l o=W1 P l' o:=by
 obtain ⟨d,p,C,pos,B,g⟩:=o
 funext w K
 cases p with
 | call c=>
  obtain ⟨j,i,D⟩:=c
  have q:evs l i=evs l' i:=Q1m fun y e=>h y (by simp[Op.operands,Call.operands];exact .inr e)
  cases j with
  | invoke r m=>simp[Xo] at k
  | builtin b=>simp only[W1,Dv,q]
  | value f=>
   have z:ev l f=ev l' f:=h f (by simp[Op.operands,Call.operands])
   cases f<;>simp only[W1,Dv,q,z]
 | build t A=>simp only[W1];rw[Q4N h]
 | buildSlice t n A=>simp only[W1];rw[Q4N h]
 | makeFunc f a b=>
  simp only[W1]
  rw[Q1m (xs:=a) fun y e=>h y (by simp[Op.operands];exact .inl e),Q1m (xs:=b) fun y e=>h y (by simp[Op.operands];exact .inr e)]
 | makeMap t r=>simp only[W1];rw[Bi h]
 | slice t x s u v=>
  simp only[W1]
  rw[h x (by simp[Op.operands]),Bi (x:=s) fun y e=>h y (by simp[Op.operands] at e⊢;simp[e]),Bi (x:=u) fun y e=>h y (by simp[Op.operands] at e⊢;simp[e]),Bi (x:=v) fun y e=>h y (by simp[Op.operands] at e⊢;simp[e])]
 | _=>first
  | (simp[Xo] at k;done)
  | (simp only[Op.operands,List.mem_toArray,List.mem_cons,List.not_mem_nil,or_false,forall_eq_or_imp,forall_eq] at h;simp only[W1,h];done)
  | rfl
def Kz:List Oper→List Nat→List Nat
 | [],acc=>acc
 | o::a,acc=>Kz a (acc++[(o.after.toList.filter (Region.binds .any)).foldl (fun s e=>s ||| 2 ^ e.on ||| acc.getD e.on 0) 0])
def Qe (a b:Oper):Bool:=
 match a.dst with
 | some d=>(B6 b).contains d||b.dst==some d
 | none=>false
def Q3D (a:List Nat) (ops:List Oper):Bool:=
 ops.zipIdx.all fun (o,j)=>ops.zipIdx.all fun (q,i)=> !(decide (i<j))|| !(Qe q o||Qe o q)||(a.getD j 0).testBit i
def Uw (ops:List Oper):Bool:=
 ops.zipIdx.all fun (o,i)=>Xo o.op&&(o.after.toList.filter (Region.binds .any)).all (fun e=>decide (e.on<i))&&
  match o.guard with | none=>true | some (j,_)=>(o.after.toList.filter (Region.binds .any)).any (fun e=>e.on==j)
def Q57 (m:Region.Mode) (ops:List Oper):List Nat→List Nat→Bool
 | [],_=>true
 | j::L,seen=>((ops[j]?.map fun o=>o.after.toList).getD []).all (fun e=> !Region.binds m e||seen.contains e.on)&&Q57 m ops L (j::seen)
def T6 (m:Region.Mode) (ops:List Oper) (L:List Nat):Bool:=
 Q57 m ops L []&&(List.range ops.length).all (L.contains ·)&&ops.all (fun o=>o.after.toList.all fun e=> !Region.binds m e||decide (e.on<ops.length))
def X10 (m:Region.Mode) (ops:List Oper):Nat→List Nat→List Nat→List Nat
 | 0,_,seen=>seen.reverse
 | n+1,a,seen=>
  match a.find? (fun j=>((ops[j]?.map fun o=>o.after.toList).getD []).all (fun e=> !Region.binds m e||seen.contains e.on)) with
  | some j=>X10 m ops n (a.erase j) (j::seen)
  | none=>seen.reverse
def Xl:List Nat→Bool
 | []=>true
 | x::l=> !l.contains x&&Xl l
def T8 (ops:List Oper) (j:Nat):List Nat:=(ops[j]?.map fun o=>(o.after.toList.filter (Region.binds .any)).map (·.on)).getD []
def Sb (ops:List Oper) (L:List Nat):Prop:= ∀a j b,L=a++j::b→ ∀i∈T8 ops j,i∈a
theorem Q6g (f:Edge→Nat) (l:List Edge): ∀(s i:Nat),(l.foldl (fun s e=>s ||| 2 ^ e.on ||| f e) s).testBit i=true→
 s.testBit i=true∨ ∃e∈l,e.on=i∨(f e).testBit i=true:=by
 induction l with
 | nil=>intro s i h;exact .inl h
 | cons e l a=>
  intro s i h
  rcases a _ _ h with h | ⟨b,c,h⟩
  ·simp only[Nat.testBit_or,Bool.or_eq_true] at h
   rcases h with (h | h) | h
   ·exact .inl h
   ·rw[Nat.testBit_two_pow] at h
    exact .inr ⟨e,by simp, .inl (by simpa using h)⟩
   ·exact .inr ⟨e,by simp, .inr h⟩
  ·exact .inr ⟨b,by simp[c],h⟩
theorem Q4o (a:List Oper): ∀(b:List Oper) (acc:List Nat),acc.length+b.length=a.length→(∀k,acc.length≤k→a[k]? =b[k-acc.length]?)→
 (∀j i,j<acc.length→(acc.getD j 0).testBit i=true→ ∃k∈T8 a j,k=i∨(k<j∧(acc.getD k 0).testBit i=true))→
 (∀j,j<a.length→ ∀k∈T8 a j,k<j)→
 ∀j i,j<a.length→((Kz b acc).getD j 0).testBit i=true→ ∃k∈T8 a j,k=i∨(k<j∧((Kz b acc).getD k 0).testBit i=true)
 | [],acc,q,_,d,_=>by
  intro j i t h
  exact d j i (by simp at q;omega) h
 | o::b,acc,q,l,d,p=>by
  have w:a[acc.length]? =some o:=by rw[l _ (Nat.le_refl _)];simp
  refine Q4o a b _ (by simp at q⊢;omega) ?_ ?_ p
  ·intro k f
   simp only[List.length_append,List.length_cons,List.length_nil] at f⊢
   rw[l k (by omega)]
   obtain ⟨m,u⟩: ∃m,k-acc.length=m+1:=⟨k-acc.length-1,by omega⟩
   rw[u,List.getElem?_cons_succ]
   congr 1;omega
  ·intro j i t h
   simp only[List.length_append,List.length_cons,List.length_nil] at t
   have c: ∀k,k<acc.length→(acc++[(o.after.toList.filter (Region.binds .any)).foldl (fun s e=>s ||| 2 ^ e.on ||| acc.getD e.on 0) 0]).getD k 0=acc.getD k 0:=by
    intro k f
    simp only[List.getD_eq_getElem?_getD]
    rw[List.getElem?_append_left f]
   by_cases n:j<acc.length
   ·rw[c j n] at h
    obtain ⟨k,f,h⟩:=d j i n h
    exact ⟨k,f,h.imp id fun ⟨y,v⟩=>⟨y,by rw[c k (by omega)];exact v⟩⟩
   ·have r:j=acc.length:=by omega
    subst r
    simp only[List.getD_eq_getElem?_getD,List.getElem?_append_right (Nat.le_refl _),Nat.sub_self,List.getElem?_cons_zero,Option.getD_some] at h
    rcases Q6g (fun e=>acc.getD e.on 0) _ _ _ (by simpa only[List.getD_eq_getElem?_getD] using h) with h | ⟨e,z,h⟩
    ·simp at h
    ·have g:e.on∈T8 a acc.length:=by
      unfold T8;rw[w];simp only[Option.map_some,Option.getD_some,List.mem_map];exact ⟨e,z,rfl⟩
     refine ⟨e.on,g,h.imp id fun h=>?_⟩
     have f:=p acc.length (by simp at q;omega) _ g
     exact ⟨f,by rw[c _ f];exact h⟩
theorem Th {ops:List Oper} (h:Uw ops=true): ∀j,j<ops.length→ ∀k∈T8 ops j,k<j:=by
 intro j b k a
 simp only[Uw,List.all_eq_true,Bool.and_eq_true] at h
 unfold T8 at a
 rw[List.getElem?_eq_getElem b] at a
 simp only[Option.map_some,Option.getD_some,List.mem_map] at a
 obtain ⟨e,c,rfl⟩:=a
 have:=(h (ops[j],j) (by rw[List.mem_zipIdx_iff_getElem?];simp[b])).1.2 e c
 simpa using this
theorem Q5c {ops:List Oper} (q:Uw ops=true) {L:List Nat} (g:Sb ops L): ∀(j:Nat),j<ops.length→ ∀i b a,L=b++j::a→((Kz ops []).getD j 0).testBit i=true→i∈b:=by
 intro j
 induction j using Nat.strongRecOn with
 | _ j p=>
  intro d i b a f o
  obtain ⟨k,m,h⟩:=Q4o ops ops [] (by simp) (by simp) (by intro j i d;simp at d) (Th q) j i d o
  have c:=g b j a f k m
  rcases h with rfl | ⟨e,h⟩
  ·exact c
  ·obtain ⟨n,l,rfl⟩:=List.append_of_mem c
   have:=p k e (by omega) i n (l++j::a) (by rw[f];simp) h
   exact List.mem_append_left _ this
theorem Wp: ∀(n:Nat) (a:List Nat),(∀k,k<n→k∈a)→n≤a.length
 | 0,_,_=>Nat.zero_le _
 | n+1,a,h=>by
  have c:=Wp n (a.erase n) fun k d=>(List.mem_erase_of_ne (by omega)).2 (h k (by omega))
  have b:=List.length_erase_of_mem (h n (by omega))
  have e:=List.length_pos_of_mem (h n (by omega))
  omega
theorem G9: ∀(n:Nat) (l:List Nat),l.Nodup→(∀k∈l,k<n)→l.length≤n
 | 0,l,_,h=>by
  cases l with
  | nil=>simp
  | cons x l=>exact absurd (h x (by simp)) (by omega)
 | n+1,l,b,h=>by
  by_cases c:n∈l
  ·have g:=G9 n (l.erase n) (b.erase n) fun k a=>by
    have d:=h k (List.mem_of_mem_erase a)
    have f:k≠n:=fun e=>by subst e;exact (List.Nodup.not_mem_erase b) a
    omega
   have d:=List.length_erase_of_mem c
   have f:=List.length_pos_of_mem c
   omega
  ·have:=G9 n l b fun k a=>by
    have d:=h k a
    have f:k≠n:=fun e=>by subst e;exact c a
    omega
   omega
theorem Q9x {m:Region.Mode} {e:Edge} (h:Region.binds .any e=true):Region.binds m e=true:=by
 unfold Region.binds at h⊢
 cases a:e.ground<;>rw[a] at h<;>first | rfl | (exact absurd h (by simp<;>rfl)) | (simp at h;cases h)
theorem Q8k {m:Region.Mode} {ops:List Oper} {L:List Nat} (h:T6 m ops L=true) (k:Nat) (b:k<ops.length): ∀e∈(ops[k]?.map fun o=>o.after.toList).getD [],Region.binds m e=true→e.on<ops.length:=by
 intro e a c
 simp only[T6,Bool.and_eq_true,List.all_eq_true] at h
 rw[List.getElem?_eq_getElem b] at a
 have:=h.2 ops[k] (List.getElem_mem b) e (by simpa using a)
 rw[c] at this
 simpa using this
theorem Q5K {m:Region.Mode} {ops:List Oper} {L:List Nat} (h:T6 m ops L=true): ∀k,k<ops.length→k∈L:=by
 intro k a
 simp only[T6,Bool.and_eq_true,List.all_eq_true] at h
 simpa using h.1.2 k (by simpa using a)
theorem Q7S (m:Region.Mode) (ops:Array Oper) (R:Uw ops.toList=true) (L0:List Nat) (Q:T6 m ops.toList L0=true): ∀(fuel t:Nat) (listed:Array Bool) (a:List Nat),
 fuel+a.length=ops.size→listed.size=ops.size→(∀i,i<ops.size→(listed.getD i true=true↔i∈a))→a.Nodup→(∀i∈a,i<ops.size)→Sb ops.toList a.reverse→
 (Region.linearise.go m ops fuel t listed a).Nodup∧(Region.linearise.go m ops fuel t listed a).length=ops.size∧Sb ops.toList (Region.linearise.go m ops fuel t listed a)
 | 0,t,listed,a,hf,_,_,hn,_,X=>by
  simp only[Region.linearise.go]
  exact ⟨List.pairwise_reverse.2 (hn.imp fun h=>Ne.symm h),by simp;omega,X⟩
 | fuel+1,t,listed,a,hf,N,w,hn,M,X=>by
  -- one that isn't listed may come
  have aa: ∃k,k<ops.size∧k∉a:=by
   refine Classical.byContradiction fun V=>?_
   have u: ∀k,k<ops.size→k∈a:=fun k hk=>Classical.byContradiction fun h=>V ⟨k,hk,h⟩
   have:=Wp ops.size a u
   omega
  simp only[Region.linearise.go]
  split
  ·rename_i i hi
   have l:=List.mem_of_getElem? hi
   simp only[List.mem_filter,List.mem_range,Bool.and_eq_true,Bool.not_eq_true'] at l
   obtain ⟨d,B,q⟩:=l
   have J:i∉a:=fun h=>by rw[(w i d).2 h] at B;cases B
   refine Q7S m ops R L0 Q fuel _ _ _ (by simp;omega) (by simp[N]) ?_ (List.nodup_cons.2 ⟨J,hn⟩) ?_ ?_
   ·intro j hj
    by_cases p:i=j
    ·subst p;simp[Array.getD,N,d]
    ·have:(listed.setIfInBounds i true).getD j true=listed.getD j true:=by
      simp only[Array.getD_eq_getD_getElem?]
      rw[Array.getElem?_setIfInBounds_ne p]
     rw[this,w j hj]
     simp[Ne.symm p]
   ·intro j hj
    rcases List.mem_cons.1 hj with rfl | hj
    ·exact d
    ·exact M j hj
   ·rw[List.reverse_cons]
    intro af j A hL k hk
    rcases List.eq_nil_or_concat A with rfl | ⟨r,x,rfl⟩
    ·have hh:=List.append_inj' hL rfl
     obtain ⟨h1,h2⟩:=hh
     simp only[List.cons.injEq,and_true] at h2
     subst h2;subst h1
     have U:=hk
     unfold T8 at hk
     rw[show ops.toList[i]? =some ops[i] by simp[d]] at hk
     simp only[Option.map_some,Option.getD_some,List.mem_map,List.mem_filter] at hk
     obtain ⟨e,⟨g,W⟩,rfl⟩:=hk
     rw[show ops[i]? =some ops[i] by simp[d]] at q
     simp only[Option.map_some,Option.getD_some,Array.all_eq_true'] at q
     have h4:=q e (by simpa using g)
     simp only[Bool.or_eq_true,Bool.not_eq_true'] at h4
     rcases h4 with h4 | h4
     ·rw[Q9x W] at h4;cases h4
     ·have ak:=Th R i (by simpa using d) e.on U
      have:listed.getD e.on true=true:=by
       simp only[Array.getD_eq_getD_getElem?] at h4⊢
       rw[Array.getElem?_eq_getElem (by omega)] at h4⊢
       simpa using h4
      simpa using (w e.on (by omega)).1 this
    ·rw[List.concat_eq_append,←List.cons_append,←List.append_assoc] at hL
     have hh:=List.append_inj' hL rfl
     exact X af j r hh.1 k hk
  ·rename_i n
   exfalso
   obtain ⟨k0,v,s⟩:=aa
   have z:=Q
   simp only[T6,Bool.and_eq_true] at z
   -- every number of L0 that is none of an operation's has no edges: it may stand there, but isn't looked at
   have f: ∃k,k<ops.size∧k∉a∧ ∀e∈(ops.toList[k]?.map fun o=>o.after.toList).getD [],Region.binds m e=true→e.on∈a∨ops.size≤e.on:=by
    -- the first of L0 that is an operation's number and isn't listed
    have key: ∀(L b:List Nat),Q57 m ops.toList L b=true→(∀k∈b,k∈a∨ops.size≤k)→(∃k∈L,k<ops.size∧k∉a)→
     ∃k,k<ops.size∧k∉a∧ ∀e∈(ops.toList[k]?.map fun o=>o.after.toList).getD [],Region.binds m e=true→e.on∈a∨ops.size≤e.on:=by
     intro L
     induction L with
     | nil=>rintro b _ _ ⟨k,hk,_⟩;simp at hk
     | cons j L ih=>
      rintro b h hs ⟨k,hk,Z,C⟩
      simp only[Q57,Bool.and_eq_true,List.all_eq_true] at h
      by_cases hj:j∈a∨ops.size≤j
      ·refine ih (j::b) h.2 (fun x hx=>by rcases List.mem_cons.1 hx with rfl | hx;exact hj;exact hs x hx) ⟨k,?_,Z,C⟩
       rcases List.mem_cons.1 hk with rfl | hk
       ·rcases hj with hj | hj
        ·exact absurd hj C
        ·omega
       ·exact hk
      ·have ad:j<ops.size:=by
        refine Nat.lt_of_not_le fun h=>hj (.inr h)
       refine ⟨j,ad,fun h=>hj (.inl h),fun e R O=>?_⟩
       have:=h.1 e R
       rw[O] at this
       exact hs _ (by simpa using this)
    exact key L0 [] z.1.1 (by simp) ⟨k0,Q5K Q k0 (by simpa using v),v,s⟩
   obtain ⟨k,c,Y,E⟩:=f
   by_cases y:k∈(List.range ops.size).filter fun i=> !listed.getD i true&&((ops[i]?).map (·.after.all fun e=> !Region.binds m e||listed.getD e.on false)).getD false
   ·have H:=List.length_pos_of_mem y
    have:=List.getElem?_eq_none_iff.1 n
    have:=Nat.mod_lt t H
    omega
   ·refine y ?_
    simp only[List.mem_filter,List.mem_range,Bool.and_eq_true,Bool.not_eq_true']
    refine ⟨c,?_,?_⟩
    ·cases hc:listed.getD k true with
     | false=>rfl
     | true=>exact absurd ((w k c).1 hc) Y
    ·rw[show ops[k]? =some ops[k] by simp[c]]
     simp only[Option.map_some,Option.getD_some,Array.all_eq_true']
     intro e g
     simp only[Bool.or_eq_true,Bool.not_eq_true']
     cases O:Region.binds m e with
     | false=>exact .inl rfl
     | true=>
      right
      rw[show ops.toList[k]? =some ops[k] by simp[c]] at E
      rcases E e (by simpa using g) O with h | h
      ·have D:=M _ h
       have:=(w e.on D).2 h
       simp only[Array.getD_eq_getD_getElem?] at this⊢
       rw[Array.getElem?_eq_getElem (by omega)] at this⊢
       simpa using this
      ·exact absurd h (by
        have:=Q8k Q k (by simpa using c) e (by rw[show ops.toList[k]? =some ops[k] by simp[c]];simpa using g) O
        simp at this;omega)
theorem Q4S (b:Bool) (ops:Array Oper) (t:Nat) (e:Uw ops.toList=true) (g: ∀m,∃L,T6 m ops.toList L=true):
 (Region.schedule b ops t).Nodup∧(Region.schedule b ops t).length=ops.size∧Sb ops.toList (Region.schedule b ops t):=by
 have key: ∀m t,(Region.linearise m ops t).Nodup∧(Region.linearise m ops t).length=ops.size∧Sb ops.toList (Region.linearise m ops t):=by
  intro m t
  obtain ⟨L,c⟩:=g m
  refine Q7S m ops e L c _ _ _ _ (by simp) (by simp) ?_ List.nodup_nil (by simp) ?_
  ·intro i d;simp[Array.getD,d]
  ·intro f j a h;simp at h
 unfold Region.schedule
 split<;>exact key _ _
theorem Yj: ∀(ops:List Oper),Xl (R0 ops)=true→ ∀(i j:Nat) (a b:Oper) (d:Nat),ops[i]? =some a→ops[j]? =some b→a.dst=some d→b.dst=some d→i=j
 | [],_,i,j,a,b,d,h,_,_,_=>by simp at h
 | o::c,l,i,j,a,b,d,n,m,r,p=>by
  have f: ∀(k:Nat) (q:Oper),c[k]? =some q→q.dst=some d→d∈R0 c:=by
   intro k q t u
   simp only[R0,List.mem_filterMap]
   exact ⟨q,List.mem_of_getElem? t,u⟩
  have g:Xl (R0 c)=true:=by
   simp only[R0,List.filterMap_cons] at l
   split at l
   ·exact l
   ·simp only[Xl,Bool.and_eq_true] at l;exact l.2
  have e:o.dst=some d→d∉R0 c:=by
   intro v
   simp only[R0,List.filterMap_cons,v,Xl,Bool.and_eq_true,Bool.not_eq_true'] at l
   intro s
   have:=l.1
   simp only[List.contains_eq_mem,decide_eq_false_iff_not] at this
   exact this s
  cases i with
  | zero=>
   simp only[List.getElem?_cons_zero,Option.some.injEq] at n
   subst n
   cases j with
   | zero=>rfl
   | succ j=>exact absurd (f j b (by simpa using m) p) (e r)
  | succ i=>
   cases j with
   | zero=>
    simp only[List.getElem?_cons_zero,Option.some.injEq] at m
    subst m
    exact absurd (f i a (by simpa using n) r) (e p)
   | succ j=>rw[Yj c g i j a b d (by simpa using n) (by simpa using m) r p]
theorem Iv (u:Nat→Value): ∀(S:List Ent) (s:Nat),get (Qa u S) s=(getE S s).at u
 | [],s=>by simp[Qa,get,getE,Ent.at]
 | e::S,0=>rfl
 | e::S,s+1=>Iv u S s
theorem Gr: ∀(S:List Ent) (s:Nat),getE S s=(S[s]?).getD (.val undef)
 | [],s=>by simp[getE]
 | e::S,0=>rfl
 | e::S,s+1=>by simp only[getE,List.getElem?_cons_succ];exact Gr S s
theorem Q1L: ∀(S:List Ent) (n:Nat) (e:Ent),Q2L S n e=S.set n e
 | [],n,e=>by simp[Q2L]
 | x::S,0,e=>rfl
 | x::S,n+1,e=>by simp only[Q2L,List.set_cons_succ,Q1L S n e]
theorem Q4A {x:Nat}: ∀{l:List Nat},x∈l→x∈Q1q l
 | y::l,h=>by
  simp only[Q1q,List.mem_cons,List.mem_filter]
  by_cases e:x=y
  ·exact .inl e
  ·exact .inr ⟨Q4A ((List.mem_cons.1 h).resolve_left e),by simpa using e⟩
theorem Bs {x:Nat}: ∀{l:List Nat},x∈Q1q l→x∈l
 | y::l,h=>by
  simp only[Q1q,List.mem_cons,List.mem_filter] at h⊢
  exact h.imp id fun h=>Bs h.1
theorem Q4e {S:List Ent} {j:Nat}: ∀{l:List Nat} {s:Nat},s∈l→getE S s= .ref j→j∈Q1E S l
 | x::l,s,h,e=>by
  simp only[Q1E,List.mem_append]
  rcases List.mem_cons.1 h with rfl | h
  ·left;rw[e];simp[Q54]
  ·right;exact Q4e h e
theorem Bp {S:List Ent} {j:Nat}: ∀{l:List Nat},j∈Q1E S l→ ∃s∈l,getE S s= .ref j
 | x::l,h=>by
  simp only[Q1E,List.mem_append] at h
  rcases h with h | h
  ·refine ⟨x,by simp,?_⟩
   cases a:getE S x with
   | val v=>rw[a] at h;simp[Q54] at h
   | ref k=>rw[a] at h;simp[Q54] at h;rw[h]
  ·obtain ⟨s,b,e⟩:=Bp h
   exact ⟨s,by simp[b],e⟩
theorem Q2N: ∀(a:List Nat) (c u:Nat→Value) (k:(Nat→Value)→Prop),Pm a c k→ ∃b,k b∧ ∀x,(x∈a→b x=u x)∧(x∉a→b x=c x)
 | [],c,u,k,h=>⟨c,h,fun x=>⟨fun h=>by simp at h,fun _=>rfl⟩⟩
 | j::a,c,u,k,h=>by
  obtain ⟨b,g,f⟩:=Q2N a _ u k (h (u j))
  refine ⟨b,g,fun x=>⟨fun hx=>?_,fun hx=>?_⟩⟩
  ·by_cases d:x∈a
   ·exact (f x).1 d
   ·rw[(f x).2 d]
    rcases List.mem_cons.1 hx with rfl | hx
    ·simp
    ·exact absurd hx d
  ·rw[(f x).2 (fun h=>hx (List.mem_cons_of_mem _ h))]
   have:x≠j:=fun e=>hx (by simp[e])
   simp[this]
theorem Q2u {e:Su} {u:Nat→Value} {w:World} {a:Prop}: ∀{d:List Nat},Pt e u w a d→(∀j∈d,∀φ,Ux e j=some ([],φ)→φ [] (u j) w)→a
 | [],h,_=>h
 | j::d,h,b=>by
  simp only[Pt] at h
  split at h
  ·rename_i φ f
   exact Q2u (h (b j (by simp) φ f)) fun k c=>b k (by simp[c])
  ·exact Q2u h fun k c=>b k (by simp[c])
theorem Q1e {e:Su} {u:Nat→Value} {w:World} {a:Prop}: ∀{d:List Nat},Q1u e u w a d→(∀j∈d,∀R φ,Ux e j=some (R,φ)→φ (R.map u) (u j) w)→a
 | [],h,_=>h
 | j::d,h,b=>by
  simp only[Q1u] at h
  split at h
  ·rename_i R φ f
   exact Q1e (h (b j (by simp) R φ f)) fun k c=>b k (by simp[c])
  ·exact Q1e h fun k c=>b k (by simp[c])
theorem Pb {a:Su} {i j:Nat} {φ:List Nat×(List Value→Value→World→Prop)} (h:i≠j):Ux (a++[(i,φ)]) j=Ux a j:=by
 induction a with
 | nil=>simp[Ux,h]
 | cons p a b=>obtain ⟨k,ψ⟩:=p;simp only[List.cons_append,Ux,b]
theorem Ny {a:Su} {i:Nat} {φ:List Nat×(List Value→Value→World→Prop)} (h:Ux a i=none):Ux (a++[(i,φ)]) i=some φ:=by
 induction a with
 | nil=>simp[Ux]
 | cons p a b=>
  obtain ⟨k,ψ⟩:=p
  simp only[Ux] at h
  split at h
  ·cases h
  ·rename_i c;simp only[List.cons_append,Ux,c,if_false];exact b h
def Cj (S:List Ent) (i:Nat) (o:Oper):Ent:=match mv o with | some x=>entOf S x | none=> .ref i
def O5 (S:List Ent):Nat→List Oper→List Ent
 | _,[]=>S
 | i,o::a=>O5 (putE S o.dst (Cj S i o)) (i+1) a
theorem Q4H: ∀(a:List Oper) (S:List Ent) (i k:Nat) (o:Oper),a[k]? =some o→
 O5 S i (a.take (k+1))=putE (O5 S i (a.take k)) o.dst (Cj (O5 S i (a.take k)) (i+k) o)
 | [],_,_,_,_,h=>by simp at h
 | x::a,S,i,0,o,h=>by
  simp only[List.getElem?_cons_zero,Option.some.injEq] at h
  subst h
  simp[O5]
 | x::a,S,i,k+1,o,h=>by
  simp only[List.getElem?_cons_succ] at h
  have:=Q4H a (putE S x.dst (Cj S i x)) (i+1) k o h
  simp only[List.take_succ_cons,O5]
  rw[this,show i+1+k=i+(k+1) from by omega]
def Ze (S:List Ent) (D:List Nat):Prop:= ∀e∈S,∀j,e= .ref j→j∈D
theorem Ze.getE {S:List Ent} {D:List Nat} (h:Ze S D) {s j:Nat} (e:Go.Emb.getE S s= .ref j):j∈D:=by
 rw[Gr] at e
 cases a:S[s]? with
 | none=>rw[a] at e;cases e
 | some x=>rw[a] at e;exact h x (List.mem_of_getElem? a) j e
theorem Ze.putE {S:List Ent} {D:List Nat} (h:Ze S D) (d:Option Nat) {e:Ent} (c: ∀j,e= .ref j→j∈D):Ze (Go.Emb.putE S d e) D:=by
 cases d with
 | none=>exact h
 | some d=>
  intro x a j b
  simp only[Go.Emb.putE,Q1L] at a
  rcases List.mem_or_eq_of_mem_set a with a | rfl
  ·exact h x a j b
  ·exact c j b
theorem Ze.mono {S:List Ent} {D D':List Nat} (h:Ze S D) (b: ∀j∈D,j∈D'):Ze S D':=fun e c j a=>b j (h e c j a)
theorem Ze.entOf {S:List Ent} {D:List Nat} (h:Ze S D) (x:Operand) {j:Nat} (e:Go.Emb.entOf S x= .ref j):j∈D:=by
 cases x with
 | tmp t=>exact h.getE e
 | _=>cases e
theorem Q8a {S:List Ent} {D:List Nat} (h:Ze S D) {u a:Nat→Value} (c: ∀j∈D,a j=u j):Qa a S=Qa u S:=by
 unfold Qa
 refine List.map_congr_left fun e b=>?_
 cases e with
 | val v=>rfl
 | ref j=>exact c j (h _ b j rfl)
theorem Q29 {P:Program} {ops:List Oper} {l l':List Value} {o:Oper} (c:Xo o.op=true) (h: ∀s∈H9 ops o++B6 o,get l s=get l' s):runOp P ops l o=runOp P ops l' o:=by
 funext w K
 unfold runOp
 rw[Dy c fun x f=>by
  cases x with
  | tmp s=>exact h s (List.mem_append_right _ (by simp only[B6,List.mem_filterMap];exact ⟨.tmp s,by simpa using f,rfl⟩))
  | _=>rfl]
 cases a:o.guard with
 | none=>rfl
 | some q=>
  obtain ⟨j,b⟩:=q
  simp only
  cases e:(ops[j]?).bind (·.dst) with
  | none=>rfl
  | some d=>simp only;rw[h d (List.mem_append_left _ (by simp[H9,a,e]))]
theorem Q3n {P:Program} {ops:List Oper} {l:List Value} {o:Oper} {w:World} {K d:Value→World→Prop} (b: ∀v w,K v w→d v w) (h:runOp P ops l o w K):runOp P ops l o w d:=by
 unfold runOp at*
 split at h
 ·exact K3 b h
 ·split at h
  ·exact Q0N ((Lg h).imp (fun ⟨c,a⟩=>⟨c,K3 b a⟩) (fun ⟨c,a⟩=>⟨c,b _ _ a⟩))
  ·exact h.elim
theorem Q3k {P:Program} {ops:List Oper} {V1:List Value→World→Prop} {o:Oper} {a:List Oper} {l:List Value} {w:World}
 (h:runOp P ops l o w (fun v w=>Z0 P ops V1 a (put l o.dst v) w)):Z0 P ops V1 (o::a) l w:=by
 simp only[Z0]
 unfold runOp at h
 cases e:o.guard with
 | none=>simp only[e] at h⊢;exact h
 | some q=>
  obtain ⟨j,b⟩:=q
  simp only[e] at h⊢
  split at h
  ·rename_i d c
   first | exact h | (simp only[c];exact h) | (rw[c];exact h)
  ·exact h.elim
structure Whole (P : Program) (ops : List Oper) (T : World → World → Prop) (B : World → Prop) (V1 : List Value → World → Prop) (tail : List Oper) (Φ : Nat → (Nat → Value) → World → Prop) (S : List Ent) (i : Nat) (rest : List Oper) (D : List Nat) : Prop where
  stable : ∀ k o, rest[k]? = some o → mv o = none → ∀ u w w', Φ (i + k) u w → T w w' → Φ (i + k) u w'
  loc : ∀ k o, rest[k]? = some o → mv o = none → ∀ u u', (∀ r ∈ (i + k) :: refs ops (O5 S i (rest.take k)) o, u r = u' r) → Φ (i + k) u = Φ (i + k) u'
  run : ∀ k o, rest[k]? = some o → mv o = none → Xo o.op = true → ∀ u w, B w → (∀ j ∈ refs ops (O5 S i (rest.take k)) o, Φ j u w) →
    runOp P ops (Qa u (O5 S i (rest.take k))) o w (fun v w' => T w w' ∧ ∀ u', (∀ r ∈ refs ops (O5 S i (rest.take k)) o, u' r = u r) → u' (i + k) = v → Φ (i + k) u' w')
  last : ∀ u w, B w → (∀ j ∈ D, Φ j u w) → (∀ k o, rest[k]? = some o → mv o = none → Φ (i + k) u w) → Z0 P ops V1 tail (Qa u (O5 S i rest)) w
theorem Q0S (P:Program) (ops:List Oper) (T:World→World→Prop) (B:World→Prop) (V1:List Value→World→Prop) (tail:List Oper): ∀(f:List Oper) (i:Nat) (S:List Ent) (m:Su) (done:List Nat),
 Ze S done→(∀j,j∈done→j<i∧ ∃φ,Ux m j=some φ)→(∀j φ,Ux m j=some φ→j<i∧ ∀r∈φ.1,r∈done)→chain P ops T B V1 tail i f S m done→
 ∃Φ:Nat→(Nat→Value)→World→Prop,(∀j R φ,Ux m j=some (R,φ)→Φ j=fun u w=>φ (R.map u) (u j) w)∧Whole P ops T B V1 tail Φ S i f done
 | [],i,S,m,done,L,O,H,h=>by
  refine ⟨fun j u w=>match Ux m j with | some (R,φ)=>φ (R.map u) (u j) w | none=>True,fun j R φ hj=>by simp[hj],⟨by simp,by simp,by simp,?_⟩⟩
  intro u w hB E _
  obtain ⟨p,t,g⟩:=Q2N done _ u _ h
  have q:=Q1e (t w hB) fun j hj R φ N=>by
   have:=E j hj
   simp only[N] at this
   rw[(g j).1 hj,show R.map p=R.map u from List.map_congr_left fun r d=>(g r).1 ((H j _ N).2 r d)];exact this
  rw[Q8a L fun j hj=>(g j).1 hj,Rb] at q
  exact q
 | o::f,i,S,m,done,L,O,H,h=>by
  simp only[chain] at h
  cases y:mv o with
  | some x=>
   simp only[y] at h
   have c:Cj S i o=entOf S x:=by simp[Cj,y]
   obtain ⟨Φ,t,g⟩:=Q0S P ops T B V1 tail f (i+1) _ m done (L.putE _ fun j hj=>L.entOf x hj) (fun j hj=>⟨by have:=(O j hj).1;omega,(O j hj).2⟩) (fun j φ hj=>⟨by have:=(H j φ hj).1;omega,(H j φ hj).2⟩) h
   refine ⟨Φ,t,⟨?_,?_,?_,?_⟩⟩
   ·intro k l b a
    cases k with
    | zero=>simp only[List.getElem?_cons_zero,Option.some.injEq] at b;subst b;rw[y] at a;cases a
    | succ k=>have:=g.stable k l (by simpa using b) a;rwa [show i+1+k=i+(k+1) from by omega] at this
   ·intro k l b a u p J
    cases k with
    | zero=>simp only[List.getElem?_cons_zero,Option.some.injEq] at b;subst b;rw[y] at a;cases a
    | succ k=>
     simp only[List.take_succ_cons,O5,c] at J
     have:=g.loc k l (by simpa using b) a u p (by rwa [show i+1+k=i+(k+1) from by omega])
     rwa [show i+1+k=i+(k+1) from by omega] at this
   ·intro k l b a z u w hB d
    cases k with
    | zero=>simp only[List.getElem?_cons_zero,Option.some.injEq] at b;subst b;rw[y] at a;cases a
    | succ k=>
     simp only[List.take_succ_cons,O5,c] at d⊢
     have:=g.run k l (by simpa using b) a z u w hB d
     rwa [show i+1+k=i+(k+1) from by omega] at this
   ·intro u w hB E Q
    simp only[O5,c]
    refine g.last u w hB E fun k l b a=>?_
    have:=Q (k+1) l (by simpa using b) a
    rwa [show i+(k+1)=i+1+k from by omega] at this
  | none=>
   have h': ∃(R:List Nat) (φ:List Value→Value→World→Prop),(∀r∈R,r∈refs ops S o)∧(∀xs,Sx T (φ xs))∧
    (Pm (refs ops S o) (fun _=>undef) fun u=> ∀w,B w→Pt m u w (runOp P ops (Qa u S) o w (dk T (φ (R.map u)) w)) (refs ops S o))∧
    chain P ops T B V1 tail (i+1) f (putE S o.dst (.ref i)) (m++[(i,R,φ)]) (done++[i]):=by
    cases U:Q6k o with
    | true=>
     simp only[y,U,Q7D,Q42] at h
     obtain ⟨φ,t,g,q⟩:=h
     exact ⟨_,φ,fun _ h=>h,t,g,q⟩
    | false=>
     simp only[y,U,X06,Q6l] at h
     obtain ⟨φ,t,g,q⟩:=h
     exact ⟨[],fun _=>φ,by simp,fun _=>t,g,q⟩
   clear h
   obtain ⟨R,φ,V,aa,M,h⟩:=h'
   have X: ∀r∈refs ops S o,r∈done:=fun r d=>by
    obtain ⟨s,_,he⟩:=Bp (Bs d)
    exact L.entOf (.tmp s) he
   have c:Cj S i o= .ref i:=by simp[Cj,y]
   have n:Ux m i=none:=by
    cases E:Ux m i with
    | none=>rfl
    | some ψ=>have:=(H i ψ E).1;omega
   obtain ⟨Φ,t,g⟩:=Q0S P ops T B V1 tail f (i+1) _ (m++[(i,R,φ)]) (done++[i])
    ((L.mono fun j hj=>List.mem_append_left _ hj).putE _ fun j hj=>by cases hj;simp)
    (fun j hj=>by
     rcases List.mem_append.1 hj with hj | hj
     ·obtain ⟨q,ψ,D⟩:=O j hj
      exact ⟨by omega,ψ,by rw[Pb (by omega)];exact D⟩
     ·simp at hj;subst hj;exact ⟨by omega,(R,φ),Ny n⟩)
    (fun j ψ hj=>by
     by_cases e:i=j
     ·subst e
      rw[Ny n] at hj;cases hj
      exact ⟨by omega,fun r d=>List.mem_append_left _ (X r (V r d))⟩
     ·rw[Pb e] at hj
      obtain ⟨q,D⟩:=H j ψ hj
      exact ⟨by omega,fun r d=>List.mem_append_left _ (D r d)⟩) h
   have C:Φ i=fun u w=>φ (R.map u) (u i) w:=t i R φ (Ny n)
   have A: ∀j R' ψ,Ux m j=some (R',ψ)→Φ j=fun u w=>ψ (R'.map u) (u j) w:=fun j R' ψ hj=>t j R' ψ (by rw[Pb (by have:=(H j _ hj).1;omega)];exact hj)
   refine ⟨Φ,A,⟨?_,?_,?_,?_⟩⟩
   ·intro k l b a
    cases k with
    | zero=>
     intro u w w' ha Y
     rw[Nat.add_zero,C] at ha⊢
     exact aa _ _ _ _ ha Y
    | succ k=>have:=g.stable k l (by simpa using b) a;rwa [show i+1+k=i+(k+1) from by omega] at this
   ·intro k l b a u p J
    cases k with
    | zero=>
     simp only[List.getElem?_cons_zero,Option.some.injEq] at b
     subst b
     simp only[List.take_zero,O5,Nat.add_zero] at J
     rw[Nat.add_zero,C]
     funext w
     show φ (R.map u) (u i) w=φ (R.map p) (p i) w
     rw[show R.map u=R.map p from List.map_congr_left fun r d=>J r (List.mem_cons_of_mem _ (V r d)),J i (by simp)]
    | succ k=>
     simp only[List.take_succ_cons,O5,c] at J
     have:=g.loc k l (by simpa using b) a u p (by rwa [show i+1+k=i+(k+1) from by omega])
     rwa [show i+1+k=i+(k+1) from by omega] at this
   ·intro k l b a z u w hB d
    cases k with
    | zero=>
     simp only[List.getElem?_cons_zero,Option.some.injEq] at b
     subst b
     simp only[List.take_zero,O5,Nat.add_zero] at d⊢
     obtain ⟨p,q,D⟩:=Q2N _ _ u _ M
     have h5:=Q2u (q w hB) fun j hj ψ hψ=>by
      have h6:=d j hj
      rw[A j [] ψ hψ] at h6
      rw[(D j).1 hj];exact h6
     rw[Q29 z (l':=Qa u S)] at h5
     ·refine Q3n ?_ h5
      rintro v w' ⟨Y,hf⟩
      refine ⟨Y,fun W Z hi=>?_⟩
      rw[C]
      show φ (R.map W) (W i) w'
      rw[hi,show R.map W=R.map p from List.map_congr_left fun r d=>by rw[Z r (V r d),(D r).1 (V r d)]]
      exact hf
     ·intro s U
      rw[Iv,Iv]
      cases he:getE S s with
      | val v=>rfl
      | ref j=>exact (D j).1 (Q4A (Q4e U he))
    | succ k=>
     simp only[List.take_succ_cons,O5,c] at d⊢
     have:=g.run k l (by simpa using b) a z u w hB d
     rwa [show i+1+k=i+(k+1) from by omega] at this
   ·intro u w hB E Q
    simp only[O5,c]
    refine g.last u w hB (fun j hj=>?_) fun k l b a=>?_
    ·rcases List.mem_append.1 hj with hj | hj
     ·exact E j hj
     ·simp at hj;subst hj
      have:=Q 0 o (by simp) y
      simpa using this
    ·have:=Q (k+1) l (by simpa using b) a
     rwa [show i+(k+1)=i+1+k from by omega] at this
def Qi (os:List Oper) (S0:List Ent) (q:Nat):Ent:=
 match os[q]? with
 | some o=>Cj (O5 S0 0 (os.take q)) q o
 | none=> .val undef
theorem Q7m {os:List Oper} {S0:List Ent} {q:Nat} {o:Oper} (h:os[q]? =some o):O5 S0 0 (os.take (q+1))=putE (O5 S0 0 (os.take q)) o.dst (Qi os S0 q):=by
 rw[Q4H os S0 0 q o h]
 simp[Qi,h]
theorem Q6H (S:List Ent) (d:Option Nat) (e:Ent):(putE S d e).length=S.length:=by
 cases d with
 | none=>rfl
 | some d=>simp[putE,Q1L]
theorem Pv (os:List Oper) (S0:List Ent): ∀q,q≤os.length→(O5 S0 0 (os.take q)).length=S0.length
 | 0,_=>by simp[O5]
 | q+1,h=>by rw[Q7m (List.getElem?_eq_getElem (by omega)),Q6H,Pv os S0 q (by omega)]
theorem Rs {os:List Oper} {S0:List Ent} (u:Xl (R0 os)=true) (n: ∀d∈R0 os,d<S0.length): ∀q,q≤os.length→
 (∀p,p<q→ ∀o d,os[p]? =some o→o.dst=some d→(O5 S0 0 (os.take q))[d]? =some (Qi os S0 p))∧
  (∀s,(∀p,p<q→ ∀o,os[p]? =some o→o.dst≠some s)→(O5 S0 0 (os.take q))[s]? =S0[s]?)
 | 0,_=>⟨fun p i=>absurd i (by omega),fun s _=>by simp[O5]⟩
 | q+1,h=>by
  obtain ⟨t,r⟩:=Rs u n q (by omega)
  have j:os[q]? =some os[q]:=List.getElem?_eq_getElem (by omega)
  have g:=Pv os S0 q (by omega)
  rw[Q7m j]
  cases c:os[q].dst with
  | none=>
   refine ⟨fun p i o d b a=>?_,fun s l=>r s fun p i=>l p (by omega)⟩
   by_cases e:p=q
   ·subst e;rw[j] at b;cases b;rw[c] at a;cases a
   ·exact t p (by omega) o d b a
  | some k=>
   have m:k<S0.length:=n k (by simp only[R0,List.mem_filterMap];exact ⟨os[q],List.getElem_mem _,c⟩)
   simp only[putE,Q1L]
   refine ⟨fun p i o d b a=>?_,fun s l=>?_⟩
   ·by_cases e:p=q
    ·subst e;rw[j] at b;cases b;rw[c] at a;cases a
     rw[List.getElem?_set_self (by rw[g];exact m)]
    ·have f:k≠d:=by
      rintro rfl
      exact e (Yj os u p q o os[q] k b j a c)
     rw[List.getElem?_set_ne f]
     exact t p (by omega) o d b a
   ·have f:k≠s:=fun e=>l q (by omega) os[q] j (by rw[c,e])
    rw[List.getElem?_set_ne f]
    exact r s fun p i=>l p (by omega)
def Nw (os:List Oper) (p:Nat):Bool:=
 match os[p]? with
 | some o=>match mv o with
  | some (.tmp s)=> !(R0 os).contains s
  | some _=>true
  | none=>false
 | none=>false
theorem X2Y {P:Program} {o:Oper} {x:Operand} (h:mv o=some x) (l:List Value) (w:World) (K:Value→World→Prop):o.guard=none∧W1 P l o w K=K (ev l x) w:=by
 unfold mv at h
 split at h
 ·cases h
 ·rename_i b
  refine ⟨b,?_⟩
  split at h
  ·rename_i y a;cases h;simp only[W1,a]
  ·rename_i y a;cases h;simp only[W1,a]
  ·cases h
theorem Q6Z {P:Program} {ops:List Oper} {V1:List Value→World→Prop} {o:Oper} {c a:List Oper} {l l':List Value} {w:World} (p:Xo o.op=true) (n: ∀s∈H9 ops o++B6 o,get l' s=get l s)
 (f: ∀v w,Z0 P ops V1 c (put l o.dst v) w→Z0 P ops V1 a (put l' o.dst v) w) (h:Z0 P ops V1 (o::c) l w):Z0 P ops V1 (o::a) l' w:=by
 have m:W1 P l' o=W1 P l o:=Dy p fun x r=>by
  cases x with
  | tmp s=>exact n s (List.mem_append_right _ (by simp only[B6,List.mem_filterMap];exact ⟨.tmp s,by simpa using r,rfl⟩))
  | _=>rfl
 simp only[Z0] at h⊢
 cases e:o.guard with
 | none=>simp only[e] at h⊢;rw[m];exact K3 f h
 | some q=>
  obtain ⟨j,b⟩:=q
  simp only[e] at h⊢
  cases g:(ops[j]?).bind (·.dst) with
  | none=>simp only[g] at h⊢;exact f _ _ h
  | some d=>
   simp only[g] at h⊢
   rw[n d (List.mem_append_left _ (by simp[H9,e,g])),m]
   exact Q0N ((Lg h).imp (fun ⟨k,i⟩=>⟨k,K3 f i⟩) (fun ⟨k,i⟩=>⟨k,f _ _ i⟩))
structure At (os : List Oper) (l0 : List Value) (pre : List Nat) (l : List Value) (u : Nat → Value) : Prop where
  len : l.length = l0.length
  done : ∀ p ∈ pre, ∀ o d, os[p]? = some o → o.dst = some d → l[d]? = some ((Qi os (l0.map .val) p).at u)
  rest : ∀ s, (∀ p ∈ pre, ∀ o, os[p]? = some o → o.dst ≠ some s) → l[s]? = l0[s]?
  refs : ∀ p ∈ pre, ∀ r, Qi os (l0.map .val) p = .ref r → r ∈ pre ∧ ∃ o, os[r]? = some o ∧ mv o = none
theorem X4k {P:Program} {ops os:List Oper} {T:World→World→Prop} {B:World→Prop} {V1:List Value→World→Prop} {m:Nat} {C:List Value} {Φ:Nat→(Nat→Value)→World→Prop}
 (bit:Nat→Nat→Bool) (bk: ∀o∈os,Xo o.op=true) (hn:Xl (R0 os)=true) (hd: ∀d∈R0 os,d<C.length)
 (ae: ∀p q a b,p<q→os[p]? =some a→os[q]? =some b→(Qe a b||Qe b a)=true→bit p q=true)
 (hg: ∀q o j b,os[q]? =some o→o.guard=some (j,b)→ ∃p,p<q∧os[p]? =ops[j]? ∧bit p q=true)
 (hm:m≤os.length) (am: ∀q,m≤q→q<os.length→ ∀p,p<q→bit p q=true∨(p<m∧Nw os p=true))
 (hT: ∀w w',B w→T w w'→B w') (hW:Whole P ops T B V1 (os.drop m) Φ (C.map .val) 0 (os.take m) [])
 (L:List Nat) (H:L.Nodup) (bj:L.length=os.length) (ac: ∀q∈L,q<os.length)
 (hC: ∀c q f,L=c++q::f→ ∀p,bit p q=true→p<os.length→p∈c):
 ∀(f c:List Nat),L=c++f→(∀q∈c,q<m)→ ∀(l:List Value) (u:Nat→Value) (w:World),At os C c l u→B w→
  (∀r∈c,∀o,os[r]? =some o→mv o=none→Φ r u w∧ ∀j∈refs ops (O5 (C.map .val) 0 (os.take r)) o,j∈c)→Z0 P ops V1 (f.filterMap (os[·]?)) l w:=by
 have bb: ∀d∈R0 os,d<(C.map Ent.val).length:=by simpa using hd
 have av: ∀q,q≤m→(os.take m).take q=os.take q:=fun q hq=>by rw[List.take_take,Nat.min_eq_left hq]
 have U: ∀q,q<m→(os.take m)[q]? =os[q]? :=fun q hq=>by rw[List.getElem?_take_of_lt hq]
 -- when all of the first part is done
 have cw: ∀(c f:List Nat),L=c++f→(∀q∈c,q<m)→(∀q,q<m→q∈c)→ ∀l u w,At os C c l u→B w→
  (∀r∈c,∀o,os[r]? =some o→mv o=none→Φ r u w∧ ∀j∈refs ops (O5 (C.map .val) 0 (os.take r)) o,j∈c)→Z0 P ops V1 (f.filterMap (os[·]?)) l w:=by
  intro c f E D an l u w hA hB hΦ
  have b6: ∀(f c:List Nat),L=c++f→m≤c.length→(∀q,q∈c↔q<c.length)→f.filterMap (os[·]?)=os.drop c.length:=by
   intro f
   induction f with
   | nil=>
    intro c E _ _
    rw[List.append_nil] at E
    rw[←E,bj];simp
   | cons q f ih=>
    intro c E c6 ay
    have ct:q∉c:=by
     rw[E] at H
     intro h
     exact (List.nodup_append.1 H).2.2 q h q (by simp) rfl
    have cv:c.length≤q:=Nat.le_of_not_lt fun h=>ct ((ay q).2 h)
    have X:=ac q (by rw[E];simp)
    have cm:q=c.length:=by
     refine Nat.le_antisymm (Nat.le_of_not_lt fun h=>?_) cv
     have:=hC c q f E c.length ((am q (by omega) X _ h).resolve_right (by omega)) (by omega)
     have:=(ay _).1 this
     omega
    subst cm
    rw[List.filterMap_cons,List.getElem?_eq_getElem X]
    simp only
    rw[ih (c++[c.length]) (by rw[E];simp) (by simp;omega) (by intro x;simp only[List.mem_append,ay,List.mem_singleton,List.length_append,List.length_cons,List.length_nil];omega)]
    simp only[List.length_append,List.length_cons,List.length_nil]
    rw[←List.drop_eq_getElem_cons X]
  have be:c.length=m:=by
   have J:=G9 m c (by rw[E] at H;exact (List.nodup_append.1 H).1) D
   have R:=Wp m c an
   omega
  have J:=b6 f c E (by omega) (fun q=>by rw[be];exact ⟨D q,an q⟩)
  rw[J,be]
  have R:=hW.last u w hB (by simp) fun k o hk t=>by
   have a3:k<m:=by
    have:=(List.getElem?_eq_some_iff.1 hk).1
    simp at this;omega
   rw[Nat.zero_add]
   rw[U k a3] at hk
   exact (hΦ k (an k a3) o hk t).1
  have h3:l=Qa u (O5 (C.map .val) 0 (os.take m)):=by
   obtain ⟨g1,g2⟩:=Rs hn bb m hm
   apply List.ext_getElem?
   intro s
   rw[Qa,List.getElem?_map]
   by_cases hs: ∃p,p<m∧ ∃o,os[p]? =some o∧o.dst=some s
   ·obtain ⟨p,hp,o,i,z⟩:=hs
    rw[hA.done p (an p hp) o s i z,g1 p hp o s i z];rfl
   ·have af: ∀p,p<m→ ∀o,os[p]? =some o→o.dst≠some s:=fun p hp o i z=>hs ⟨p,hp,o,i,z⟩
    rw[hA.rest s (fun p hp=>af p (D p hp)),g2 s af,List.getElem?_map]
    cases C[s]? <;>rfl
  rw[h3];exact R
 -- moves that come late, among the tail
 have b7: ∀(f c:List Nat) (k:Nat),L=c++f→m≤k→k≤os.length→(∀q,m≤q→(q∈c↔q<k))→(∀p∈f,p<m→Nw os p=true)→
  ∀(l lf:List Value) (w:World),l.length=C.length→lf.length=C.length→(∀s,(∀p∈f,p<m→ ∀o,os[p]? =some o→o.dst≠some s)→l[s]? =lf[s]?)→
   (∀p∈f,p<m→ ∀o d x,os[p]? =some o→mv o=some x→o.dst=some d→lf[d]? =some (ev C x))→(∀s,(R0 os).contains s=false→l[s]? =C[s]?)→
   Z0 P ops V1 (os.drop k) lf w→Z0 P ops V1 (f.filterMap (os[·]?)) l w:=by
  intro f
  induction f with
  | nil=>
   intro c k E ba bs ab _ l lf w hl a8 aq _ _ h
   rw[List.append_nil] at E
   have hk:k=os.length:=by
    refine Nat.le_antisymm bs (Nat.le_of_not_lt fun D=>?_)
    have cs:k∉c:=fun e=>by have:=(ab k ba).1 e;omega
    have J:=G9 os.length (k::c) (List.nodup_cons.2 ⟨cs,E▸H⟩) (fun x hx=>by
     rcases List.mem_cons.1 hx with rfl | hx
     ·exact D
     ·exact ac x (by rw[E];exact hx))
    simp at J
    rw[E] at bj;omega
   have:l=lf:=List.ext_getElem? fun s=>aq s (by simp)
   rw[this]
   rw[hk,List.drop_length] at h
   exact h
  | cons q f ih=>
   intro c k E ba bs ab al l lf w hl a8 aq aw Z h
   have O:q∉c:=by
    rw[E] at H
    intro h
    exact (List.nodup_append.1 H).2.2 q h q (by simp) rfl
   have cl:q∉f:=by
    rw[E] at H
    exact (List.nodup_cons.1 (List.nodup_append.1 H).2.1).1
   have X:=ac q (by rw[E];simp)
   have A:os[q]? =some os[q]:=List.getElem?_eq_getElem X
   have cg:L=(c++[q])++f:=by rw[E];simp
   rw[List.filterMap_cons,A]
   simp only
   by_cases aa:q<m
   ·-- a late move
    have D:=al q (by simp) aa
    unfold Nw at D
    rw[A] at D
    simp only at D
    cases t:mv os[q] with
    | none=>rw[t] at D;cases D
    | some x=>
     rw[t] at D
     have hx:ev l x=ev C x:=by
      cases x with
      | tmp s=>
       simp only[Bool.not_eq_true'] at D
       simp only[ev,get,List.getD_eq_getElem?_getD,Z s D]
      | _=>rfl
     obtain ⟨a6,a4⟩:=X2Y (P:=P) t l w (fun v w=>Z0 P ops V1 (f.filterMap (os[·]?)) (put l os[q].dst v) w)
     simp only[Z0,a6]
     rw[a4,hx]
     refine ih (c++[q]) k cg ba bs (fun q' a0=>?_) (fun p hp=>al p (by simp[hp])) _ lf w ?_ a8 (fun s hs=>?_) (fun p hp=>aw p (by simp[hp])) (fun s hs=>?_) h
     ·rw[←ab q' a0];simp only[List.mem_append,List.mem_singleton]
      exact ⟨fun e=>e.resolve_right (by omega), .inl⟩
     ·cases g:os[q].dst<;>simp[put,hl]
     ·cases g:os[q].dst with
      | none=>
       refine aq s fun p hp M o i=>?_
       rcases List.mem_cons.1 hp with rfl | hp
       ·rw[A] at i;cases i;rw[g];simp
       ·exact hs p hp M o i
      | some d=>
       have ar:d<C.length:=hd d (by simp only[R0,List.mem_filterMap];exact ⟨os[q],List.getElem_mem _,g⟩)
       simp only[put]
       by_cases e:d=s
       ·subst e
        rw[List.getElem?_set_self (by rw[hl];exact ar)]
        exact (aw q (by simp) aa os[q] d x A t g).symm
       ·rw[List.getElem?_set_ne e]
        refine aq s fun p hp M o i=>?_
        rcases List.mem_cons.1 hp with rfl | hp
        ·rw[A] at i;cases i;rw[g];simpa using e
        ·exact hs p hp M o i
     ·cases g:os[q].dst with
      | none=>exact Z s hs
      | some d=>
       have ai:(R0 os).contains d=true:=by
        rw[List.contains_iff_mem];simp only[R0,List.mem_filterMap];exact ⟨os[q],List.getElem_mem _,g⟩
       simp only[put]
       rw[List.getElem?_set_ne (by rintro rfl;rw[hs] at ai;cases ai)]
       exact Z s hs
   ·have aa:m≤q:=by omega
    have cu:q=k:=by
     have J:k≤q:=Nat.le_of_not_lt fun e=>O ((ab q aa).2 e)
     refine Nat.le_antisymm (Nat.le_of_not_lt fun e=>?_) J
     have:=hC c q f E k ((am q aa X k e).resolve_right (by omega)) (by omega)
     have:=(ab k ba).1 this
     omega
    subst cu
    rw[List.drop_eq_getElem_cons X] at h
    have b4: ∀p∈f,p<m→bit p q=true→False:=fun p hp M hb=>by
     have:=hC c q f E p hb (by omega)
     rw[E] at H
     exact (List.nodup_append.1 H).2.2 p this p (by simp[hp]) rfl
    refine Q6Z (bk _ (List.getElem_mem _)) (fun s hs=>?_) (fun v w' hv=>?_) h
    ·have:l[s]? =lf[s]? :=aq s fun p hp M o i z=>by
      rcases List.mem_cons.1 hp with rfl | hp
      ·omega
      refine b4 p hp M ?_
      rcases List.mem_append.1 hs with hs | hs
      ·unfold H9 at hs
       split at hs
       ·simp at hs
       ·rename_i j b bp
        split at hs
        ·rename_i d bl
         simp only[List.mem_singleton] at hs
         subst hs
         obtain ⟨p',ao,bv,hb⟩:=hg q os[q] j b A bp
         obtain ⟨o',bq,b5⟩:=Option.bind_eq_some_iff.1 bl
         have:=Yj os hn p' p o' o s (by rw[bv,bq]) i b5 z
         subst this;exact hb
        ·simp at hs
      ·exact ae p q o os[q] (by omega) i A (by simp only[Qe,z,Bool.or_eq_true];left;left;simpa using hs)
     simp only[get,List.getD_eq_getElem?_getD,this]
    ·refine ih (c++[q]) (q+1) cg (by omega) (by omega) (fun q' a0=>?_) (fun p hp=>al p (by simp[hp])) _ _ w' ?_ ?_ (fun s hs=>?_) (fun p hp M o d x i a7 z=>?_) (fun s hs=>?_) hv
     ·simp only[List.mem_append,List.mem_singleton,ab q' a0];omega
     ·cases g:os[q].dst<;>simp[put,hl]
     ·cases g:os[q].dst<;>simp[put,a8]
     ·have hb:l[s]? =lf[s]? ∨os[q].dst=some s:=by
       left
       refine aq s fun p hp M o i=>?_
       rcases List.mem_cons.1 hp with rfl | hp
       ·omega
       ·exact hs p hp M o i
      cases g:os[q].dst with
      | none=>
       rcases hb with hb | hb
       ·exact hb
       ·rw[g] at hb;cases hb
      | some d=>
       simp only[put]
       by_cases e:d=s
       ·subst e
        have ar:d<C.length:=hd d (by simp only[R0,List.mem_filterMap];exact ⟨os[q],List.getElem_mem _,g⟩)
        rw[List.getElem?_set_self (by rw[hl];exact ar),List.getElem?_set_self (by rw[a8];exact ar)]
       ·rw[List.getElem?_set_ne e,List.getElem?_set_ne e]
        rcases hb with hb | hb
        ·exact hb
        ·rw[g] at hb;cases hb;exact absurd rfl e
     ·have bz:=aw p (by simp[hp]) M o d x i a7 z
      cases g:os[q].dst with
      | none=>exact bz
      | some d'=>
       have Y:d'≠d:=by
        rintro rfl
        have:=Yj os hn p q o os[q] d' i A z g
        omega
       simp only[put]
       rw[List.getElem?_set_ne Y];exact bz
     ·cases g:os[q].dst with
      | none=>exact Z s hs
      | some d=>
       have ai:(R0 os).contains d=true:=by
        rw[List.contains_iff_mem];simp only[R0,List.mem_filterMap];exact ⟨os[q],List.getElem_mem _,g⟩
       simp only[put]
       rw[List.getElem?_set_ne (by rintro rfl;rw[hs] at ai;cases ai)]
       exact Z s hs
 intro f
 induction f with
 | nil=>
  intro c E D l u w hA hB hΦ
  refine cw c [] E D ?_ l u w hA hB hΦ
  intro q hq
  rw[List.append_nil] at E
  refine Classical.byContradiction fun a1=>?_
  have J:=G9 os.length (q::c) (List.nodup_cons.2 ⟨a1,E▸H⟩) (fun k hk=>by
   rcases List.mem_cons.1 hk with rfl | hk
   ·omega
   ·exact ac k (by rw[E];exact hk))
  simp at J
  rw[E] at bj;omega
 | cons q f ih=>
  intro c E D l u w hA hB hΦ
  have O:q∉c:=by
   rw[E] at H
   intro h
   exact (List.nodup_append.1 H).2.2 q h q (by simp) rfl
  have X:=ac q (by rw[E];simp)
  by_cases aa:m≤q
  ·-- the tail begins
   have ak: ∀p,p<m→p∉c→Nw os p=true:=fun p hp bu=>by
    rcases am q aa X p (by omega) with h | h
    ·exact absurd (hC c q f E p h (by omega)) bu
    ·exact h.2
   have bg: ∀p,Nw os p=true→ ∀o,os[p]? =some o→ ∃x,mv o=some x∧ ∀s,x= .tmp s→(R0 os).contains s=false:=by
    intro p hp o i
    unfold Nw at hp
    rw[i] at hp
    simp only at hp
    cases N:mv o with
    | none=>rw[N] at hp;cases hp
    | some x=>
     refine ⟨x,rfl,fun s hs=>?_⟩
     subst hs
     rw[N] at hp;simpa using hp
   obtain ⟨g1,g2⟩:=Rs hn bb m hm
   have bh: ∀s,(R0 os).contains s=false→ ∀(p:Nat) o,os[p]? =some o→o.dst≠some s:=by
    intro s hs p o i z
    have:(R0 os).contains s=true:=by
     rw[List.contains_iff_mem];simp only[R0,List.mem_filterMap]
     exact ⟨o,List.mem_of_getElem? i,z⟩
    rw[hs] at this;cases this
   refine b7 (q::f) c m E (Nat.le_refl _) hm (fun q' a0=>⟨fun e=>D q' e,fun e=>absurd a0 (by omega)⟩) (fun p hp M=>ak p M fun e=>by
    rw[E] at H
    exact (List.nodup_append.1 H).2.2 p e p hp rfl) l (Qa u (O5 (C.map .val) 0 (os.take m))) w hA.len (by simp[Qa,Pv os _ m hm]) (fun s hs=>?_) (fun p hp M o d x i a7 z=>?_) (fun s hs=>?_) ?_
   ·rw[Qa,List.getElem?_map]
    by_cases ap: ∃p,p<m∧ ∃o,os[p]? =some o∧o.dst=some s
    ·obtain ⟨p,hp,o,i,z⟩:=ap
     by_cases W:p∈c
     ·rw[hA.done p W o s i z,g1 p hp o s i z];rfl
     ·exfalso
      have cd:p∈L:=by
       refine Classical.byContradiction fun a1=>?_
       have J:=G9 os.length (p::L) (List.nodup_cons.2 ⟨a1,H⟩) (fun k hk=>by
        rcases List.mem_cons.1 hk with rfl | hk
        ·omega
        ·exact ac k hk)
       simp at J;omega
      rw[E] at cd
      rcases List.mem_append.1 cd with h | h
      ·exact W h
      ·exact hs p h hp o i z
    ·have af: ∀p,p<m→ ∀o,os[p]? =some o→o.dst≠some s:=fun p hp o i z=>ap ⟨p,hp,o,i,z⟩
     rw[hA.rest s (fun p hp=>af p (D p hp)),g2 s af,List.getElem?_map]
     cases C[s]? <;>rfl
   ·have W:p∉c:=fun e=>by
     rw[E] at H
     exact (List.nodup_append.1 H).2.2 p e p hp rfl
    rw[Qa,List.getElem?_map,g1 p M o d i z]
    simp only[Option.map_some,Option.some.injEq]
    have V:Qi os (C.map .val) p=entOf (O5 (C.map .val) 0 (os.take p)) x:=by simp[Qi,i,Cj,a7]
    rw[V]
    obtain ⟨x',cb,cq⟩:=bg p (ak p M W) o i
    rw[a7] at cb;cases cb
    cases x with
    | tmp s=>
     have hs:=cq s rfl
     obtain ⟨_,k2⟩:=Rs (S0:=C.map .val) hn bb p (by omega)
     simp only[entOf]
     rw[Gr,k2 s (fun p' _ o' bq=>bh s hs p' o' bq),List.getElem?_map]
     simp only[ev,get,List.getD_eq_getElem?_getD]
     cases C[s]? <;>rfl
    | _=>rfl
   ·exact hA.rest s fun p _ o i=>bh s hs p o i
   ·refine hW.last u w hB (by simp) fun k o hk t=>?_
    have a3:k<m:=by
     have:=(List.getElem?_eq_some_iff.1 hk).1
     simp at this;omega
    rw[Nat.zero_add]
    rw[U k a3] at hk
    refine (hΦ k (Classical.byContradiction fun bu=>?_) o hk t).1
    obtain ⟨x,hx,_⟩:=bg k (ak k a3 bu) o hk
    rw[t] at hx;cases hx
  ·have aa:q<m:=by omega
   have A:os[q]? =some os[q]:=List.getElem?_eq_getElem X
   obtain ⟨g1,g2⟩:=Rs (S0:=C.map .val) hn bb q (by omega)
   -- what a slot holds that this operation reads
   have ad: ∀s,(∃p o,os[p]? =some o∧o.dst=some s∧p<q∧bit p q=true)∨s∈B6 os[q]→
    get l s=(getE (O5 (C.map .val) 0 (os.take q)) s).at u∧ ∀r,getE (O5 (C.map .val) 0 (os.take q)) s= .ref r→r∈c∧ ∃o,os[r]? =some o∧mv o=none:=by
    intro s hs
    have af:(∀p∈c,∀o,os[p]? =some o→o.dst≠some s)→(∀p,p<q→ ∀o,os[p]? =some o→o.dst≠some s)→
     get l s=(getE (O5 (C.map .val) 0 (os.take q)) s).at u∧ ∀r,getE (O5 (C.map .val) 0 (os.take q)) s= .ref r→r∈c∧ ∃o,os[r]? =some o∧mv o=none:=by
     intro J R
     rw[Gr,g2 s R,List.getElem?_map]
     simp only[get,List.getD_eq_getElem?_getD,hA.rest s J]
     cases C[s]? with
     | none=>exact ⟨rfl,fun r hr=>by cases hr⟩
     | some v=>exact ⟨rfl,fun r hr=>by cases hr⟩
    have bc: ∀p o,os[p]? =some o→o.dst=some s→p<q→p∈c→
     get l s=(getE (O5 (C.map .val) 0 (os.take q)) s).at u∧ ∀r,getE (O5 (C.map .val) 0 (os.take q)) s= .ref r→r∈c∧ ∃o,os[r]? =some o∧mv o=none:=by
     intro p o hp i ao W
     rw[Gr,g1 p ao o s hp i]
     simp only[get,List.getD_eq_getElem?_getD,hA.done p W o s hp i,Option.getD_some]
     first | exact ⟨rfl,hA.refs p W⟩ | exact ⟨trivial,hA.refs p W⟩
    rcases hs with ⟨p,o,hp,i,ao,hb⟩ | hs
    ·exact bc p o hp i ao (hC c q f E p hb (by omega))
    ·by_cases ap: ∃(p:Nat) (o:Oper),os[p]? =some o∧o.dst=some s
     ·obtain ⟨p,o,hp,i⟩:=ap
      have cy:=(List.getElem?_eq_some_iff.1 hp).1
      have Z: ∀p' o',os[p']? =some o'→o'.dst=some s→p'=p:=fun p' o' J R=>Yj os hn p' p o' o s J hp R i
      rcases Nat.lt_trichotomy p q with h | h | h
      ·have hb:=ae p q o os[q] h hp A (by simp only[Qe,i,Bool.or_eq_true];left;left;simpa using hs)
       exact bc p o hp i h (hC c q f E p hb (by omega))
      ·subst h
       exact af (fun p' ah o' J R=>by rw[Z p' o' J R] at ah;exact O ah) (fun p' ah o' J R=>by rw[Z p' o' J R] at ah;omega)
      ·refine af (fun p' ah o' J R=>?_) (fun p' ah o' J R=>by rw[Z p' o' J R] at ah;omega)
       have e:=Z p' o' J R
       subst e
       have hb:=ae q p' os[q] o' h A J (by simp only[Qe,R,Bool.or_eq_true];right;left;simpa using hs)
       obtain ⟨p1,p2,W⟩:=List.append_of_mem ah
       have:=hC p1 p' (p2++q::f) (by rw[E,W];simp) q hb X
       exact O (by rw[W];exact List.mem_append_left _ this)
     ·exact af (fun p _ o J R=>ap ⟨p,o,J,R⟩) (fun p _ o J R=>ap ⟨p,o,J,R⟩)
   have br: ∀s∈H9 ops os[q]++B6 os[q],(∃p o,os[p]? =some o∧o.dst=some s∧p<q∧bit p q=true)∨s∈B6 os[q]:=by
    intro s hs
    rcases List.mem_append.1 hs with hs | hs
    ·left
     unfold H9 at hs
     split at hs
     ·simp at hs
     ·rename_i j b bp
      split at hs
      ·rename_i d bl
       simp only[List.mem_singleton] at hs
       subst hs
       obtain ⟨p,ao,bv,hb⟩:=hg q os[q] j b A bp
       obtain ⟨o,i,z⟩:=Option.bind_eq_some_iff.1 bl
       exact ⟨p,o,by rw[bv,i],z,ao,hb⟩
      ·simp at hs
    ·exact .inr hs
   have ax:=U q aa
   rw[A] at ax
   rw[List.filterMap_cons,A]
   simp only
   -- the state behind it
   have step: ∀(v:Value) (u':Nat→Value) (w':World),(∀p∈c,(Qi os (C.map .val) p).at u'=(Qi os (C.map .val) p).at u)→v=(Qi os (C.map .val) q).at u'→
    (∀r,Qi os (C.map .val) q= .ref r→r∈q::c∧ ∃o,os[r]? =some o∧mv o=none)→B w'→(∀r∈q::c,∀o,os[r]? =some o→mv o=none→Φ r u' w'∧ ∀j∈refs ops (O5 (C.map .val) 0 (os.take r)) o,j∈q::c)→
    Z0 P ops V1 (f.filterMap (os[·]?)) (put l os[q].dst v) w':=by
    intro v u' w' hu hv hr cp b8
    have Q: ∀x,x∈c++[q]↔x∈q::c:=by intro x;simp[or_comm]
    refine ih (c++[q]) (by rw[E];simp) (fun x hx=>by rcases List.mem_cons.1 ((Q x).1 hx) with rfl | hx;exact aa;exact D x hx) _ u' w' ?_ cp (fun r hr o i N=>⟨(b8 r ((Q r).1 hr) o i N).1,fun j hj=>(Q j).2 ((b8 r ((Q r).1 hr) o i N).2 j hj)⟩)
    have az: ∀p∈c++[q],∀r,Qi os (C.map .val) p= .ref r→r∈c++[q]∧ ∃o,os[r]? =some o∧mv o=none:=by
     intro p hp r bn
     rcases List.mem_cons.1 ((Q p).1 hp) with rfl | hp
     ·exact ⟨(Q r).2 (hr r bn).1,(hr r bn).2⟩
     ·obtain ⟨J,R⟩:=hA.refs p hp r bn
      exact ⟨List.mem_append_left _ J,R⟩
    cases g:os[q].dst with
    | none=>
     refine ⟨hA.len,?_,?_,az⟩
     ·intro p hp o d i z
      rcases List.mem_cons.1 ((Q p).1 hp) with rfl | hp
      ·rw[A] at i;cases i;rw[g] at z;cases z
      ·rw[hu p hp];exact hA.done p hp o d i z
     ·intro s hs;exact hA.rest s fun p hp=>hs p (List.mem_append_left _ hp)
    | some d0=>
     have ar:d0<C.length:=hd d0 (by simp only[R0,List.mem_filterMap];exact ⟨os[q],List.getElem_mem _,g⟩)
     refine ⟨by simp[put,hA.len],?_,?_,az⟩
     ·intro p hp o d i z
      rcases List.mem_cons.1 ((Q p).1 hp) with rfl | hp2
      ·rw[A] at i;cases i
       rw[g] at z;cases z
       simp only[put]
       rw[List.getElem?_set_self (by rw[hA.len];exact ar),hv]
      ·have Y:d0≠d:=by
        rintro rfl
        have:=Yj os hn p q o os[q] d0 i A z g
        subst this;exact O hp2
       simp only[put]
       rw[List.getElem?_set_ne Y,hu p hp2]
       exact hA.done p hp2 o d i z
     ·intro s hs
      have Y:d0≠s:=fun e=>hs q (by simp) os[q] A (by rw[g,e])
      simp only[put]
      rw[List.getElem?_set_ne Y]
      exact hA.rest s fun p hp=>hs p (List.mem_append_left _ hp)
   cases t:mv os[q] with
   | some x=>
    have V:Qi os (C.map .val) q=entOf (O5 (C.map .val) 0 (os.take q)) x:=by simp[Qi,A,Cj,t]
    -- a move: what the operand holds
    have hx:ev l x=(entOf (O5 (C.map .val) 0 (os.take q)) x).at u∧ ∀r,entOf (O5 (C.map .val) 0 (os.take q)) x= .ref r→r∈c∧ ∃o,os[r]? =some o∧mv o=none:=by
     cases x with
     | tmp s=>
      have hs:s∈B6 os[q]:=by
       unfold mv at t
       split at t
       ·cases t
       ·simp only[B6,List.mem_filterMap]
        split at t
        ·rename_i y hy;cases t;exact ⟨.tmp s,by rw[hy];simp[Op.operands],rfl⟩
        ·rename_i y hy;cases t;exact ⟨.tmp s,by rw[hy];simp[Op.operands],rfl⟩
        ·cases t
      exact ad s (.inr hs)
     | _=>exact ⟨rfl,fun r hr=>by cases hr⟩
    have a6:os[q].guard=none:=by
     unfold mv at t
     split at t
     ·cases t
     ·assumption
    simp only[Z0,a6]
    have a4:W1 P l os[q] w (fun v w=>Z0 P ops V1 (f.filterMap (os[·]?)) (put l os[q].dst v) w)=Z0 P ops V1 (f.filterMap (os[·]?)) (put l os[q].dst (ev l x)) w:=by
     unfold mv at t
     rw[a6] at t
     simp only at t
     split at t
     ·rename_i y hy;cases t;simp only[W1,hy]
     ·rename_i y hy;cases t;simp only[W1,hy]
     ·cases t
    rw[a4]
    refine step _ u w (fun _ _=>rfl) (by rw[V];exact hx.1) (fun r hr=>by
     rw[V] at hr
     obtain ⟨J,R⟩:=hx.2 r hr
     exact ⟨List.mem_cons_of_mem _ J,R⟩) hB (fun r hr o i N=>by
     rcases List.mem_cons.1 hr with rfl | hr
     ·rw[A] at i;cases i;rw[t] at N;cases N
     ·exact ⟨(hΦ r hr o i N).1,fun j hj=>List.mem_cons_of_mem _ ((hΦ r hr o i N).2 j hj)⟩)
   | none=>
    have V:Qi os (C.map .val) q= .ref q:=by simp[Qi,A,Cj,t]
    have bi:=hW.run q os[q] ax t (bk _ (List.getElem_mem _)) u w hB
    rw[av q (by omega),Nat.zero_add] at bi
    have co:=hW.stable
    have bo:=bi (fun j hj=>by
     obtain ⟨s,hs,he⟩:=Bp (Bs hj)
     obtain ⟨J,o,R,h3⟩:=(ad s (br s hs)).2 j he
     exact (hΦ j J o R h3).1)
    have ce: ∀j∈refs ops (O5 (C.map .val) 0 (os.take q)) os[q],j∈c:=fun j hj=>by
     obtain ⟨s,hs,he⟩:=Bp (Bs hj)
     exact ((ad s (br s hs)).2 j he).1
    refine Q3k ?_
    rw[Q29 (bk _ (List.getElem_mem _)) (l':=Qa u (O5 (C.map .val) 0 (os.take q))) (fun s hs=>by rw[Iv];exact (ad s (br s hs)).1)]
    refine Q3n ?_ bo
    intro v w' ⟨ch,hφ⟩
    have Y: ∀r∈c,r≠q:=fun r hr e=>O (e▸hr)
    refine step v (fun n=>if n=q then v else u n) w' ?_ (by rw[V];simp[Ent.at]) (fun r hr=>by rw[V] at hr;cases hr;exact ⟨by simp,os[q],A,t⟩) (hT w w' hB ch) ?_
    ·intro p hp
     cases he:Qi os (C.map .val) p with
     | val x=>rfl
     | ref r=>
      have:=Y r (hA.refs p hp r he).1
      simp[Ent.at,this]
    ·intro r hr o i N
     rcases List.mem_cons.1 hr with rfl | hr
     ·rw[A] at i;cases i
      exact ⟨hφ _ (fun x hx=>by simp[Y x (ce x hx)]) (by simp),fun j hj=>List.mem_cons_of_mem _ (ce j hj)⟩
     ·obtain ⟨f1,f2⟩:=hΦ r hr o i N
      have cc:=D r hr
      have b3:=Y r hr
      have hl:=hW.loc r o (by rw[U r cc];exact i) N (fun n=>if n=q then v else u n) u (fun x hx=>by
       rw[av r (by omega),Nat.zero_add] at hx
       have:x≠q:=by
        rcases List.mem_cons.1 hx with rfl | hx
        ·exact b3
        ·exact Y x (f2 x hx)
       simp[this])
      have hs:=co r o (by rw[U r cc];exact i) N
      rw[Nat.zero_add] at hs hl
      refine ⟨?_,fun j hj=>List.mem_cons_of_mem _ (f2 j hj)⟩
      rw[hl]
      exact hs _ _ _ f1 ch
def X3u:Op→Bool
 | .move _ | .assign _ | .fieldAddr .. | .indexAddr .. | .field .. | .index .. | .binOp .. | .unOp .. | .extract .. | .pick .. | .makeFunc .. | .nilCheck _ | .slice .. =>true
 | _=>false
def ready (ops:List Oper) (a:List Nat) (j:Nat):Bool:=(T8 ops j).all (a.contains ·)
def X3o (ops:List Oper) (j:Nat):Bool:=match ops[j]? with | some o=>X3u o.op | none=>false
def Q7X (ops:List Oper):Nat→List Nat→List Nat→List Nat
 | 0,_,a=>a.reverse
 | n+1,b,a=>
  match b.find? (fun j=>X3o ops j&&ready ops a j) with
  | some j=>Q7X ops n (b.erase j) (j::a)
  | none=>match b.find? (ready ops a) with
   | some j=>Q7X ops n (b.erase j) (j::a)
   | none=>a.reverse
def H1 (ops:List Oper):List Nat:=Q7X ops ops.length (List.range ops.length) []
def F0 (ops:List Oper) (a:List Nat) (p q:Nat):Bool:=((Kz ops []).getD (a.getD q 0) 0).testBit (a.getD p 0)
def Z5 (ops:List Oper) (a:List Nat):List Oper:=a.map fun i=>ops.getD i default
def cutA (ops:List Oper) (a:List Nat):Nat→Nat
 | 0=>0
 | j+1=>if (List.range j).all (fun i=>F0 ops a i j||Nw (Z5 ops a) i) then cutA ops a j else j+1
def X4m (ops:List Oper) (a:List Nat) (c n:Nat):Bool:=(List.range n).all fun q=>(List.range q).all fun p=>decide (p<c)||F0 ops a p q
def Rm (ops:List Oper) (a:List Nat) (n:Nat):Nat:=if X4m ops a (cutA ops a n) n then cutA ops a n else n
theorem Q4g (ops:List Oper) (a:List Nat): ∀n,cutA ops a n≤n∧ ∀q,cutA ops a n≤q→q<n→ ∀p,p<q→F0 ops a p q=true∨Nw (Z5 ops a) p=true
 | 0=>⟨Nat.le_refl _,fun q _ h=>by omega⟩
 | j+1=>by
  obtain ⟨g,f⟩:=Q4g ops a j
  simp only[cutA]
  split
  ·rename_i h
   refine ⟨by omega,fun q d b p c=>?_⟩
   by_cases e:q=j
   ·subst e
    simpa using List.all_eq_true.1 h p (by simpa using c)
   ·exact f q d (by omega) p c
  ·exact ⟨Nat.le_refl _,fun q d b=>by omega⟩
theorem Q8o (ops:List Oper) (a:List Nat) (n:Nat):Rm ops a n≤n∧ ∀q,Rm ops a n≤q→q<n→ ∀p,p<q→F0 ops a p q=true∨(p<Rm ops a n∧Nw (Z5 ops a) p=true):=by
 obtain ⟨i,g⟩:=Q4g ops a n
 unfold Rm
 split
 ·rename_i f
  refine ⟨i,fun q e b p d=>?_⟩
  by_cases c:p<cutA ops a n
  ·exact (g q e b p d).imp id fun h=>⟨c,h⟩
  ·left
   have:=List.all_eq_true.1 (List.all_eq_true.1 f q (by simpa using b)) p (by simpa using d)
   simpa [c] using this
 ·exact ⟨Nat.le_refl _,fun q e b=>by omega⟩
def Q51 (ops:List Oper) (a:List Nat):Bool:=
 a.length==ops.length&&(List.range ops.length).all (a.contains ·)&&Xl a&&a.all (fun i=>decide (i<ops.length))&&
  (List.range ops.length).all fun q=>(List.range q).all fun p=> !F0 ops a q p
def Vp (ops:List Oper) (n:Nat):Bool:=
 Uw ops&&Q3D (Kz ops []) ops&&Xl (R0 (Z5 ops (H1 ops)))&&(R0 (Z5 ops (H1 ops))).all (fun d=>decide (d<n))&&
  (T6 .any ops (List.range ops.length)&&T6 .text ops (List.range ops.length)&&T6 .gc ops (X10 .gc ops ops.length (List.range ops.length) []))&&Q51 ops (H1 ops)
theorem Q0H: ∀{l:List Nat},Xl l=true→l.Nodup
 | [],_=>List.nodup_nil
 | x::l,h=>by
  simp only[Xl,Bool.and_eq_true,Bool.not_eq_true'] at h
  exact List.nodup_cons.2 ⟨by simpa using h.1,Q0H h.2⟩
theorem Q59 {ops:List Oper}: ∀(b:List Oper) (a:List Nat),a.length+b.length=ops.length→(∀k,a.length≤k→ops[k]? =b[k-a.length]?)→
 (∀j k,j<a.length→k∈T8 ops j→(a.getD j 0).testBit k=true)→ ∀j k,j<ops.length→k∈T8 ops j→((Kz b a).getD j 0).testBit k=true
 | [],a,i,_,c=>fun j k p d=>c j k (by simp at i;omega) d
 | o::b,a,i,f,c=>by
  have t:ops[a.length]? =some o:=by rw[f _ (Nat.le_refl _)];simp
  refine Q59 b _ (by simp at i⊢;omega) ?_ ?_
  ·intro k d
   simp only[List.length_append,List.length_cons,List.length_nil] at d⊢
   rw[f k (by omega)]
   obtain ⟨m,q⟩: ∃m,k-a.length=m+1:=⟨k-a.length-1,by omega⟩
   rw[q,List.getElem?_cons_succ]
   congr 1;omega
  ·intro j k p d
   simp only[List.length_append,List.length_cons,List.length_nil] at p
   by_cases g:j<a.length
   ·simp only[List.getD_eq_getElem?_getD,List.getElem?_append_left g]
    simpa only[List.getD_eq_getElem?_getD] using c j k g d
   ·have n:j=a.length:=by omega
    subst n
    simp only[List.getD_eq_getElem?_getD,List.getElem?_append_right (Nat.le_refl _),Nat.sub_self,List.getElem?_cons_zero,Option.getD_some]
    unfold T8 at d
    rw[t] at d
    simp only[Option.map_some,Option.getD_some,List.mem_map] at d
    obtain ⟨e,u,rfl⟩:=d
    have key: ∀(l:List Edge) (s:Nat),(e∈l∨s.testBit e.on=true)→(l.foldl (fun s e=>s ||| 2 ^ e.on ||| (a[e.on]?).getD 0) s).testBit e.on=true:=by
     intro l
     induction l with
     | nil=>intro s h;simpa using h
     | cons x l r=>
      intro s h
      refine r _ ?_
      rcases h with h | h
      ·rcases List.mem_cons.1 h with rfl | h
       ·right;simp
       ·exact .inl h
      ·right;simp[h]
    exact key _ _ (.inl u)
theorem Cf {α β:Type} {f g:α→Option β}: ∀{l:List α},(∀x∈l,f x=g x)→l.filterMap f=l.filterMap g
 | [],_=>rfl
 | x::l,h=>by
  rw[List.filterMap_cons,List.filterMap_cons,h x (by simp),Cf fun y a=>h y (by simp[a])]
structure Arr (ops : List Oper) (ord : List Nat) (L : List Nat) : Prop where
  hpl : ∀ o ∈ Z5 ops ord, Xo o.op = true
  hclash : ∀ p q a b, p < q → (Z5 ops ord)[p]? = some a → (Z5 ops ord)[q]? = some b → (Qe a b || Qe b a) = true → F0 ops ord p q = true
  hg : ∀ q o j b, (Z5 ops ord)[q]? = some o → o.guard = some (j, b) → ∃ p, p < q ∧ (Z5 ops ord)[p]? = ops[j]? ∧ F0 ops ord p q = true
  hn : L.Nodup
  hlt : ∀ q ∈ L, q < (Z5 ops ord).length
  hC : ∀ pre q post, L = pre ++ q :: post → ∀ p, F0 ops ord p q = true → p < (Z5 ops ord).length → p ∈ pre
  hLl : L.length = (Z5 ops ord).length
theorem Td {ops:Array Oper} {c:List Nat} (X:Uw ops.toList=true) (hc:Q3D (Kz ops.toList []) ops.toList=true) (ba:T6 .any ops.toList (List.range ops.toList.length)=true) (bb:T6 .text ops.toList (List.range ops.toList.length)=true) (bd:T6 .gc ops.toList (X10 .gc ops.toList ops.toList.length (List.range ops.toList.length) [])=true) (O:Q51 ops.toList c=true) (b:Bool) (t:Nat):
 (Region.schedule b ops t).filterMap (ops[·]?)=((Region.schedule b ops t).map (c.idxOf ·)).filterMap ((Z5 ops.toList c)[·]?)∧Arr ops.toList c ((Region.schedule b ops t).map (c.idxOf ·))∧(Z5 ops.toList c).length=ops.toList.length∧(Region.schedule b ops t).Nodup∧ ∀i∈Region.schedule b ops t,i<ops.toList.length∧c.getD (c.idxOf i) 0=i:=by
 simp only[Q51,Bool.and_eq_true,beq_iff_eq] at O
 obtain ⟨⟨⟨⟨aa,W⟩,ax⟩,J⟩,E⟩:=O
 have ai:=Q0H ax
 have ae:(Z5 ops.toList c).length=ops.toList.length:=by simp[Z5,aa]
 have g: ∀p,p<ops.toList.length→c.getD p 0<ops.toList.length:=by
  intro p Q
  simp only[List.getD_eq_getElem?_getD]
  rw[List.getElem?_eq_getElem (by omega)]
  have:=List.all_eq_true.1 J c[p] (List.getElem_mem _)
  simpa using this
 have d: ∀p,p<ops.toList.length→(Z5 ops.toList c)[p]? =ops.toList[c.getD p 0]? :=by
  intro p Q
  have n:=g p Q
  simp only[List.getD_eq_getElem?_getD] at n
  rw[List.getElem?_eq_getElem (by omega:p<c.length)] at n
  simp only[Option.getD_some] at n
  simp only[Z5,List.getElem?_map,List.getD_eq_getElem?_getD]
  rw[List.getElem?_eq_getElem (by omega:p<c.length)]
  simp only[Option.map_some,Option.getD_some]
  rw[List.getElem?_eq_getElem n]
  simp
 obtain ⟨R,N,z⟩:=Q4S b ops t X (fun m=>by cases m<;>exact ⟨_,by assumption⟩)
 have f:=Q2h b ops t
 generalize Region.schedule b ops t=L0 at R N z f⊢
 have B: ∀i,i<ops.toList.length→i∈c:=fun i s=>by simpa using List.all_eq_true.1 W i (by simpa using s)
 have l: ∀i,i<ops.toList.length→c.idxOf i<ops.toList.length∧c.getD (c.idxOf i) 0=i:=by
  intro i s
  have n:=List.idxOf_lt_length_of_mem (B i s)
  refine ⟨by omega,?_⟩
  simp only[List.getD_eq_getElem?_getD]
  rw[List.getElem?_eq_getElem n]
  simp
 have r: ∀p,p<ops.toList.length→c.idxOf (c.getD p 0)=p:=by
  intro p Q
  simp only[List.getD_eq_getElem?_getD]
  rw[List.getElem?_eq_getElem (by omega:p<c.length)]
  simp only[Option.getD_some]
  exact List.Nodup.idxOf_getElem ai p (by omega)
 have ad: ∀p q,p<q→q<ops.toList.length→F0 ops.toList c q p=false:=by
  intro p q V u
  have:=List.all_eq_true.1 (List.all_eq_true.1 E q (by simpa using u)) p (by simpa using V)
  simpa using this
 have ao:L0.filterMap (ops[·]?)=(L0.map (c.idxOf ·)).filterMap ((Z5 ops.toList c)[·]?):=by
  rw[List.filterMap_map]
  refine Cf fun i s=>?_
  have:=f i s
  have n:=l i (by simpa using this)
  simp only[Function.comp]
  rw[d _ n.1,n.2]
  simp
 refine ⟨ao,⟨?_,?_,?_,?_,?_,?_,by simp[N,aa,Z5]⟩,ae,R,fun i s=>⟨by simpa using f i s,(l i (by simpa using f i s)).2⟩⟩
 ·intro o ho
  simp only[Z5,List.mem_map] at ho
  obtain ⟨i,s,rfl⟩:=ho
  have v:i<ops.toList.length:=by simpa using List.all_eq_true.1 J i s
  simp only[Uw,List.all_eq_true,Bool.and_eq_true] at X
  have:=(X (ops.toList[i],i) (by rw[List.mem_zipIdx_iff_getElem?];simpa using v)).1.1
  rw[List.getD_eq_getElem?_getD,List.getElem?_eq_getElem v]
  exact this
 ·intro p q a b' V ha C D
  have Q:p<ops.toList.length:=by have:=(List.getElem?_eq_some_iff.1 ha).1;omega
  have u:q<ops.toList.length:=by have:=(List.getElem?_eq_some_iff.1 C).1;omega
  rw[d p Q] at ha
  rw[d q u] at C
  have Z: ∀i i' x x',i<i'→ops.toList[i]? =some x→ops.toList[i']? =some x'→(Qe x x'||Qe x' x)=true→((Kz ops.toList []).getD i' 0).testBit i=true:=by
   intro i i' x x' a2 hx ay D
   simp only[Q3D,List.all_eq_true] at hc
   have:=hc (x',i') (by rw[List.mem_zipIdx_iff_getElem?];simpa using ay) (x,i) (by rw[List.mem_zipIdx_iff_getElem?];simpa using hx)
   simp only[a2,D,decide_true,Bool.not_true,Bool.false_or,Bool.or_self] at this
   exact this
  have af:c.getD p 0≠c.getD q 0:=by
   intro e
   have:=r p Q
   rw[e,r q u] at this
   omega
  rcases Nat.lt_or_gt_of_ne af with h | h
  ·exact Z _ _ a b' h ha C D
  ·have n:=Z _ _ b' a h C ha (by rw[Bool.or_comm];exact D)
   have A:=ad p q V u
   unfold F0 at A
   rw[n] at A;cases A
 ·intro q o j b' u aq
  have H:q<ops.toList.length:=by have:=(List.getElem?_eq_some_iff.1 u).1;omega
  rw[d q H] at u
  have M:j∈T8 ops.toList (c.getD q 0):=by
   have ac:=X
   simp only[Uw,List.all_eq_true,Bool.and_eq_true] at ac
   have:=(ac (o,c.getD q 0) (by rw[List.mem_zipIdx_iff_getElem?];simpa using u)).2
   rw[aq] at this
   simp only[List.any_eq_true] at this
   obtain ⟨e,ar,a3⟩:=this
   unfold T8
   rw[u]
   simp only[Option.map_some,Option.getD_some,List.mem_map]
   exact ⟨e,ar,by simpa using a3⟩
  have aw:=Th X _ (g q H) j M
  have hj:j<ops.toList.length:=by have:=g q H;omega
  have C:=Q59 (ops:=ops.toList) ops.toList [] (by simp) (by simp) (by intro j k hj;simp at hj) _ j (g q H) M
  obtain ⟨n,A⟩:=l j hj
  have L:F0 ops.toList c (c.idxOf j) q=true:=by unfold F0;rw[A];exact C
  refine ⟨c.idxOf j,?_,by rw[d _ n,A],L⟩
  rcases Nat.lt_trichotomy (c.idxOf j) q with h | h | h
  ·exact h
  ·rw[←h,A] at aw;omega
  ·have:=ad q _ h n
   rw[L] at this;cases this
 ·refine List.pairwise_map.2 (R.imp_of_mem ?_)
  intro x y hx hy ap an
  have n:=(l x (by simpa using f x hx)).2
  have A:=(l y (by simpa using f y hy)).2
  exact ap (by rw[←n,←A,an])
 ·intro q u
  simp only[List.mem_map] at u
  obtain ⟨i,s,rfl⟩:=u
  have:=(l i (by simpa using f i s)).1
  omega
 ·intro be q a6 hL p C Q
  rw[List.map_eq_append_iff] at hL
  obtain ⟨ah,av,ag,Y,w⟩:=hL
  rw[List.map_eq_cons_iff] at w
  obtain ⟨i,U,hr,s,az⟩:=w
  subst hr s Y
  have v:i<ops.toList.length:=by simpa using f i (by rw[ag];simp)
  obtain ⟨n,A⟩:=l i v
  unfold F0 at C
  rw[A] at C
  have al:p<ops.toList.length:=by omega
  have:=Q5c X z i v (c.getD p 0) ah U ag C
  rw[List.mem_map]
  exact ⟨c.getD p 0,this,r p al⟩
theorem Q4E {ops:Array Oper} {n:Nat} (a:Vp ops.toList n=true) (b:Bool) (t:Nat): ∃L,(Region.schedule b ops t).filterMap (ops[·]?)=L.filterMap ((Z5 ops.toList (H1 ops.toList))[·]?)∧Arr ops.toList (H1 ops.toList) L∧(Z5 ops.toList (H1 ops.toList)).length=ops.toList.length:=by
 simp only[Vp,Bool.and_eq_true] at a
 obtain ⟨⟨⟨⟨⟨i,h⟩,m⟩,l⟩,⟨f,e⟩,d⟩,c⟩:=a
 obtain ⟨j,g,k,_⟩:=Td i h f e d c b t
 exact ⟨_,j,g,k⟩
theorem X1P (P:Program) (ops:Array Oper) (T:World→World→Prop) (B:World→Prop) (V1:List Value→World→Prop) (i:List Value) (c:Vp ops.toList i.length=true)
 (D: ∀w w',B w→T w w'→B w')
 (h:chain P ops.toList T B V1 ((Z5 ops.toList (H1 ops.toList)).drop (Rm ops.toList (H1 ops.toList) ops.toList.length)) 0
  ((Z5 ops.toList (H1 ops.toList)).take (Rm ops.toList (H1 ops.toList) ops.toList.length)) (i.map .val) [] [])
 (b:Bool) (t:Nat) (w:World) (O:B w):Z0 P ops.toList V1 ((Region.schedule b ops t).filterMap (ops[·]?)) i w:=by
 obtain ⟨L,k,g,o⟩:=Q4E c b t
 simp only[Vp,Bool.and_eq_true] at c
 obtain ⟨⟨⟨⟨⟨n,Q⟩,N⟩,u⟩,⟨J,M⟩,E⟩,r⟩:=c
 generalize H1 ops.toList=a at*
 obtain ⟨Φ,_,C⟩:=Q0S P ops.toList T B V1 _ _ 0 (i.map .val) [] [] (by intro e n j s;simp only[List.mem_map] at n;obtain ⟨v,_,rfl⟩:=n;cases s) (by simp) (by simp[Ux]) h
 rw[k]
 obtain ⟨l,f⟩:=Q8o ops.toList a ops.toList.length
 exact X4k (os:=Z5 ops.toList a) (m:=Rm ops.toList a ops.toList.length) (T:=T) (B:=B) (Φ:=Φ) (F0 ops.toList a) g.hpl N (fun d y=>by simpa using List.all_eq_true.1 u d y) g.hclash g.hg (by omega)
  (fun q A H p z=>f q A (by omega) p z) D C L g.hn g.hLl g.hlt g.hC _ [] rfl (by simp) i (fun _=>undef) w
  ⟨rfl,by simp,fun _ _=>rfl,by simp⟩ O (by simp)
def Zw {α:Type} (P:Program) (s:Sem α):Prop:= ∀w v w',s.run P w= .ok v w'→w'=w
section
variable {P : Program} {α β : Type}
theorem Uu (a:α):Zw P (Pure.pure a:Sem α):=fun w v w' h=>by simp at h;exact h.2.symm
theorem Q6V (m:String):Zw P (stuck m:Sem α):=fun w v w' h=>by simp at h
theorem Qr {s:Sem α} {f:α→Sem β} (c:Zw P s) (d: ∀a,Zw P (f a)):Zw P (s>>=f):=fun w v w' h=>by
 rw[Sem.run_bind] at h
 cases b:s.run P w with
 | halt x w1=>rw[b] at h;simp[Result.andThen] at h
 | ok a w1=>
  rw[b] at h
  have:=c _ _ _ b
  subst this
  exact d a _ _ _ h
theorem Q2Q (a:Addr) (m:Mode):Zw P (load a m):=fun w v w' h=>by
 unfold load at h
 simp only[Sem.run] at h
 split at h
 ·cases h;rfl
 ·split at h
  ·cases h;rfl
  ·cases h
theorem Gj (t:TypeId):Zw P (typeInfo t):=fun w v w' h=>by
 unfold typeInfo at h
 simp only[Sem.run_bind,run_program,Result.andThen_ok] at h
 split at h<;>simp at h
 exact h.2.symm
theorem Q2C (t:TypeId):Zw P (underlying t):=fun w v w' h=>by
 unfold underlying at h
 simp only[Sem.run_bind,run_program,Result.andThen_ok] at h
 split at h<;>simp at h
 exact h.2.symm
theorem Q77 (t:TypeId):Zw P (isAgg t):=by
 unfold isAgg
 refine Qr (Q2C t) fun d=>?_
 split<;>exact Uu _
theorem Q6y (t:TypeId):Zw P (sizeOf t):=Qr (Gj t) fun _=>Uu _
theorem Q2p (a:Addr): ∀(n i:Nat) (b:Array Value),Zw P (loadCellsFrom a i n b)
 | 0,i,b=>Uu _
 | n+1,i,b=>Qr (Q2Q _ _) fun v=>Q2p a n (i+1) _
theorem Q4U (t:TypeId) (a:Addr):Zw P (loadVar t a):=by
 unfold loadVar
 refine Qr (Q77 t) fun b=>?_
 split
 ·exact Qr (Q6y t) fun n=>Qr (Q2p a n 0 #[]) fun cs=>Uu _
 ·exact Q2Q _ _
theorem Q5V (t:TypeId) (v:Value):Zw P (Instr.loadAt t v):=by
 unfold Instr.loadAt
 refine Qr ?_ fun a=>Q4U t a
 unfold Instr.sureAddr
 split
 ·exact Uu _
 ·exact Q6V _
def Zx (P:Program) (s:Sem α):Prop:= ∀w v w1,s.run P w= .ok v w1→w1=w∧ ∀w',s.run P w'= .ok v w'
theorem Jn (a:α):Zx P (Pure.pure a:Sem α):=fun w v w' h=>by simp at h⊢;exact ⟨h.2.symm,h.1⟩
theorem Nq (m:String):Zx P (stuck m:Sem α):=fun w v w' h=>by simp at h
theorem Qq {s:Sem α} {f:α→Sem β} (g:Zx P s) (j: ∀a,Zx P (f a)):Zx P (s>>=f):=fun w v w' h=>by
 rw[Sem.run_bind] at h
 cases b:s.run P w with
 | halt x w1=>rw[b] at h;simp[Result.andThen] at h
 | ok a w1=>
  rw[b] at h
  obtain ⟨rfl,e⟩:=g _ _ _ b
  obtain ⟨i,d⟩:=j a _ _ _ h
  refine ⟨i,fun c=>?_⟩
  rw[Sem.run_bind,e c]
  exact d c
theorem Tn (t:TypeId):Zx P (typeInfo t):=fun w v w' h=>by
 unfold typeInfo at h⊢
 simp only[Sem.run_bind,run_program,Result.andThen_ok] at h⊢
 split at h<;>simp at h
 rename_i i a
 refine ⟨h.2.symm,fun w'=>?_⟩
 simp[a,h.1]
theorem Mg (t:TypeId):Zx P (underlying t):=fun w v w' h=>by
 unfold underlying at h⊢
 simp only[Sem.run_bind,run_program,Result.andThen_ok] at h⊢
 split at h<;>simp at h
 rename_i i a
 refine ⟨h.2.symm,fun w'=>?_⟩
 simp[a,h.1]
theorem Rz (v:Value) (i:Nat):Zx P (Instr.extract v i):=by
 unfold Instr.extract
 split
 ·split
  ·exact Jn _
  ·exact Nq _
 ·exact Nq _
theorem X03 (v:Value):Zx P (Instr.sureAddr v):=by
 unfold Instr.sureAddr
 split
 ·exact Jn _
 ·exact Nq _
theorem Q48 {s:Sem α} (h: ∀w v w',s.run P w≠ .ok v w'):Zx P s:=fun w v w' e=>absurd e (h w v w')
theorem Q3S {s:Sem α} {f:α→Sem β} (c: ∀a w v w',(f a).run P w≠ .ok v w'): ∀w v w',(s>>=f).run P w≠ .ok v w':=fun w v w' h=>by
 rw[Sem.run_bind] at h
 cases b:s.run P w with
 | halt x w1=>rw[b] at h;simp[Result.andThen] at h
 | ok a w1=>rw[b] at h;exact c a _ _ _ h
theorem Q33 (e:Int×Int×Bool×BoundsCode): ∀w v w',(runtimePanic (.bounds e.1 e.2.1 e.2.2.1 e.2.2.2):Sem α).run P w≠ .ok v w':=by
 unfold runtimePanic
 exact Q3S fun p=>fun w v w' h=>by cases h
theorem Q2c (k:IntKind) (x y:Int) (c:BoundsCode):Zx P (boundsPanic k x y c:Sem α):=Q48 (by
 unfold boundsPanic
 dsimp only
 split
 ·exact Q3S fun b=>Q33 (_,_,_,_)
 ·exact Q3S fun b=>Q33 (_,_,_,_))
theorem Sj (t:TypeId) (x i:Value):Zx P (Instr.indexAt t x i):=by
 unfold Instr.indexAt
 refine Qq ?_ fun q=>?_
 ·unfold asIntOf
  split
  ·exact Jn _
  ·exact Q48 fun w v w' h=>by cases h
  ·exact Nq _
 refine Qq (Mg t) fun d=>?_
 dsimp only
 have key: ∀(z:Option Addr×Nat×TypeId),Zx P (match z with
  | (base,b,elem)=>do
   let __do_lift←underlying t
   have c:Bool:=decide (b≤1)&&match __do_lift with
    | TypeDesc.array b elem=>true
    | x=>false
   match base with
    | some a=>
     if 0≤q.snd∧q.snd< ↑b then do
      let __do_lift←sizeOf elem
      pure (Value.pointer (some (a.add (q.snd.toNat*__do_lift))))
     else
      if c=true then unsupported (Unsupported.noEntry "op/indexAddr.an index out of range at an array of length 0 or 1 (ledger 616)")
      else boundsPanic q.fst q.snd (↑b) BoundsCode.index
    | none=>boundsPanic q.fst q.snd 0 BoundsCode.index):=by
  rintro ⟨base,b,elem⟩
  dsimp only
  refine Qq (Mg t) fun g=>?_
  cases base with
  | none=>exact Q2c _ _ _ _
  | some a=>
   dsimp only
   by_cases f:0≤q.snd∧q.snd< ↑b
   ·rw[if_pos f]
    exact Qq (Qq (Tn _) fun _=>Jn _) fun n=>Jn _
   ·rw[if_neg f]
    by_cases e:(decide (b≤1)&&match g with
     | TypeDesc.array b elem=>true
     | x=>false)=true
    ·rw[if_pos e]
     exact Q48 fun w v w' h=>by cases h
    ·rw[if_neg e]
     exact Q2c _ _ _ _
 split
 ·exact Qq (X03 _) fun a=>Qq (Jn _) key
 ·exact Qq (Jn _) key
 ·exact Qq (Nq _) key
def Q19 (o:Oper):Bool:=match o.op with | .move _ | .assign _ | .load .. | .extract .. | .indexAddr .. =>true | _=>false
def Q49 (o:Oper):Bool:=match o.op with | .move _ | .assign _ | .extract .. | .indexAddr .. =>true | _=>false
theorem Rl {s:Sem Value} {w:World} {K:Value→World→Prop} (h:op P (sv s) w K): ∃v w',s.run P w= .ok v w'∧K v w':=by
 rw[A9] at h
 unfold T2 sv at h
 rw[Sem.run_bind] at h
 cases a:s.run P w with
 | halt x w1=>rw[a] at h;exact h.elim
 | ok v w1=>rw[a] at h;exact ⟨v,w1,rfl,h⟩
theorem Rf {s:Sem Value} {v:Value} {w w':World} {K:Value→World→Prop} (h:s.run P w= .ok v w') (k:K v w'):op P (sv s) w K:=by
 rw[A9]
 unfold T2 sv
 rw[Sem.run_bind,h]
 exact k
theorem Q9s {p:Program} {w w':World} {a k:Addr} {u:TypeId} {b:Bool} {r} (h: ∀(i:Nat) o,w.heap[i]? =some o→w'.heap[i]? =some o) (c:w.seen p a u k b= .ok r):w'.seen p a u k b= .ok r:=by
 cases e:w.heap[a.block]? with
 | some o=>
  have d:=h _ _ e
  unfold World.seen at*
  rw[d]
  rw[e] at c
  exact c
 | none=>
  exfalso
  unfold World.seen at c
  simp only[e,bind,Except.bind,throw,throwThe,MonadExceptOf.throw,pure,Except.pure] at c
  repeat (first | cases c | split at c)
theorem X13 {p:Program} {w w':World} {a:Addr} {b:Bool} {r} (h: ∀(i:Nat) o,w.heap[i]? =some o→w'.heap[i]? =some o) (c:w.farLoad p a b= .ok r):w'.farLoad p a b= .ok r:=by
 unfold World.farLoad at*
 cases e:w.heap[a.block]? with
 | none=>rw[e] at c;cases c
 | some o=>
  rw[e] at c
  rw[h _ _ e]
  cases o with
  | view d u=>
   simp only at c⊢
   cases f:w.viewLoad p d u a b with
   | error s=>rw[f] at c;cases c
   | ok q=>
    rw[f] at c
    have:w'.viewLoad p d u a b= .ok q:=by
     unfold World.viewLoad at*
     cases g:w.seen p d u a b with
     | error s=>rw[g] at f;cases f
     | ok z=>rw[Q9s h g];rw[g] at f;exact f
    rw[this]
    exact c
  | _=>simp only at c;cases c
def Dx {α:Type} (P:Program) (s:Sem α):Prop:= ∀w v w1,s.run P w= .ok v w1→w1=w∧ ∀w':World,(∀(i:Nat) o,w.heap[i]? =some o→w'.heap[i]? =some o)→s.run P w'= .ok v w'
section
variable {P : Program} {α β : Type}
theorem Ek (a:α):Dx P (Pure.pure a:Sem α):=fun w v w' h=>by simp at h⊢;exact ⟨h.2.symm,fun _ _=>h.1⟩
theorem Q8j (m:String):Dx P (stuck m:Sem α):=fun w v w' h=>by simp at h
theorem Uk {s:Sem α} {f:α→Sem β} (i:Dx P s) (k: ∀a,Dx P (f a)):Dx P (s>>=f):=fun w v w' h=>by
 rw[Sem.run_bind] at h
 cases b:s.run P w with
 | halt x w1=>rw[b] at h;simp[Result.andThen] at h
 | ok a w1=>
  rw[b] at h
  obtain ⟨rfl,g⟩:=i _ _ _ b
  obtain ⟨j,e⟩:=k a _ _ _ h
  refine ⟨j,fun c d=>?_⟩
  rw[Sem.run_bind,g c d]
  exact e c d
theorem Q4h (a:Addr) (m:Mode):Dx P (load a m):=fun w v w1 h=>by
 unfold load at h⊢
 simp only[Sem.run] at h⊢
 cases e:w.cell? a with
 | some x=>
  rw[e] at h
  cases h
  refine ⟨rfl,fun w' d=>?_⟩
  have:w'.cell? a=some v:=by
   unfold World.cell? at*
   cases c:w.heap[a.block]? with
   | none=>rw[c] at e;cases e
   | some o=>rw[c] at e;rw[d _ _ c];exact e
  rw[this]
 | none=>
  rw[e] at h
  simp only at h
  cases b:w.farLoad P a (m== .atomic) with
  | error s=>rw[b] at h;cases h
  | ok q=>
   rw[b] at h
   cases h
   refine ⟨rfl,fun w' d=>?_⟩
   have f:=X13 d b
   cases g:w'.cell? a with
   | none=>simp only[f]
   | some x=>
    exfalso
    unfold World.farLoad at b
    unfold World.cell? at g
    cases c:w.heap[a.block]? with
    | none=>rw[c] at b;cases b
    | some o=>
     rw[d _ _ c] at g
     rw[c] at b
     cases o<;>first | cases g | (simp only at b;cases b)
theorem Q4G {s:Sem α} (h:Zx P s):Dx P s:=fun w v w1 e=>⟨(h w v w1 e).1,fun w' _=>(h w v w1 e).2 w'⟩
theorem Q8s (t:TypeId):Dx P (isAgg t):=by
 unfold isAgg
 refine Uk (Q4G (Mg t)) fun d=>?_
 split<;>exact Ek _
theorem Q3z (a:Addr): ∀(n i:Nat) (b:Array Value),Dx P (loadCellsFrom a i n b)
 | 0,i,b=>Ek _
 | n+1,i,b=>Uk (Q4h _ _) fun v=>Q3z a n (i+1) _
theorem Q71 (t:TypeId) (v:Value):Dx P (Instr.loadAt t v):=by
 unfold Instr.loadAt
 refine Uk ?_ fun a=>?_
 ·unfold Instr.sureAddr
  split
  ·exact Ek _
  ·exact Q8j _
 ·unfold loadVar
  refine Uk (Q8s t) fun b=>?_
  split
  ·exact Uk (Uk (Q4G (Tn t)) fun _=>Ek _) fun n=>Uk (Q3z a n 0 #[]) fun cs=>Ek _
  ·exact Q4h _ _
def Sr (o:Oper):Bool:=match o.op with | .alloc .. =>true | _=>false
theorem Q9w {l:List Value} {o:Oper} {w:World} {K:Value→World→Prop} (h:Q19 o=true) (c:W1 P l o w K): ∃v,K v w∧ ∀(w':World) b,(∀(i:Nat) o,w.heap[i]? =some o→w'.heap[i]? =some o)→b v w'→W1 P l o w' b:=by
 obtain ⟨d,p,n,pos,m,g⟩:=o
 cases p<;>(first | (simp[Q19] at h;done) | skip)<;>simp only[W1] at c⊢
 ·exact ⟨_,c,fun w' b _ a=>a⟩
 ·exact ⟨_,c,fun w' b _ a=>a⟩
 ·obtain ⟨v,w',j,e⟩:=Rl c
  obtain ⟨rfl,f⟩:=Q71 _ _ _ _ _ j
  exact ⟨v,e,fun w' b k a=>Rf (f w' k) a⟩
 ·obtain ⟨v,w',j,e⟩:=Rl c
  obtain ⟨rfl,f⟩:=Sj _ _ _ _ _ _ j
  exact ⟨v,e,fun w' b k a=>Rf (f w') a⟩
 ·obtain ⟨v,w',j,e⟩:=Rl c
  obtain ⟨rfl,f⟩:=Rz _ _ _ _ _ j
  exact ⟨v,e,fun w' b k a=>Rf (f w') a⟩
theorem Q40 {γ δ:Type} {s:Sem γ} {f:γ→Sem δ} {w w':World} {v:δ} (h:(s>>=f).run P w= .ok v w'): ∃a w1,s.run P w= .ok a w1∧(f a).run P w1= .ok v w':=by
 rw[Sem.run_bind] at h
 cases b:s.run P w with
 | halt x w1=>rw[b] at h;simp[Result.andThen] at h
 | ok a w1=>rw[b] at h;exact ⟨a,w1,rfl,h⟩
theorem X11 {γ:Type} {r:Unsupported}:Zw P (unsupported r:Sem γ):=fun w v w' h=>by simp[unsupported] at h
theorem Q6i {l:List Value} {o:Oper} {w:World} {K:Value→World→Prop} (h:Sr o=true) (f:W1 P l o w K): ∃v w',(∀(i:Nat) o,w.heap[i]? =some o→w'.heap[i]? =some o)∧K v w'∧ ∀b:Value→World→Prop,b v w'→W1 P l o w b:=by
 obtain ⟨d,p,D,pos,B,g⟩:=o
 cases p<;>(first | (simp[Sr] at h;done) | skip)
 simp only[W1] at f⊢
 obtain ⟨v,w',m,u⟩:=Rl f
 refine ⟨v,w',?_,u,fun b s=>Rf m s⟩
 have a:=m
 unfold Instr.alloc zeroValue at a
 obtain ⟨z,w1,t,q⟩:=Q40 a
 have y:w1=w:=Qr (Gj _) (fun i=>by split;exact Uu _;exact X11) _ _ _ t
 subst y
 simp only at q
 obtain ⟨c,E,n,r⟩:=Q40 q
 simp only[Sem.run_pure,Result.ok.injEq] at r
 obtain ⟨_,rfl⟩:=r
 unfold newVar newRow at n
 obtain ⟨H,C,e,k⟩:=Q40 n
 simp only[Sem.run_pure,Result.ok.injEq] at k
 obtain ⟨_,rfl⟩:=k
 unfold newObj at e
 simp only[Sem.run,Result.ok.injEq] at e
 obtain ⟨_,rfl⟩:=e
 intro i o j
 have A:=(Array.getElem?_eq_some_iff.1 j).1
 simp only[Array.getElem?_push]
 rw[if_neg (by omega)]
 exact j
end
theorem Q5F {l:List Value} {o:Oper} {w:World} {K:Value→World→Prop} (h:Q19 o=true) (e:W1 P l o w K): ∃v,K v w∧ ∀c,c v w→W1 P l o w c:=by
 obtain ⟨d,p,j,pos,i,g⟩:=o
 cases p<;>(first | (simp[Q19] at h;done) | skip)<;>simp only[W1] at e⊢
 ·exact ⟨_,e,fun c a=>a⟩
 ·exact ⟨_,e,fun c a=>a⟩
 ·obtain ⟨v,w',b,f⟩:=Rl e
  have:=Q5V _ _ _ _ _ b
  subst this
  exact ⟨v,f,fun c a=>Rf b a⟩
 ·obtain ⟨v,w',b,f⟩:=Rl e
  have:=(Sj _ _ _ _ _ _ b).1
  subst this
  exact ⟨v,f,fun c a=>Rf b a⟩
 ·obtain ⟨v,w',b,f⟩:=Rl e
  have:=(Rz _ _ _ _ _ b).1
  subst this
  exact ⟨v,f,fun c a=>Rf b a⟩
theorem Q2x {l:List Value} {o:Oper} {w:World} {K:Value→World→Prop} (h:Q49 o=true) (c:W1 P l o w K): ∃v,K v w∧ ∀w' b,b v w'→W1 P l o w' b:=by
 obtain ⟨d,p,k,pos,j,g⟩:=o
 cases p<;>(first | (simp[Q49] at h;done) | skip)<;>simp only[W1] at c⊢
 ·exact ⟨_,c,fun w' b a=>a⟩
 ·exact ⟨_,c,fun w' b a=>a⟩
 ·obtain ⟨v,w',i,e⟩:=Rl c
  obtain ⟨rfl,f⟩:=Sj _ _ _ _ _ _ i
  exact ⟨v,e,fun w' b a=>Rf (f w') a⟩
 ·obtain ⟨v,w',i,e⟩:=Rl c
  obtain ⟨rfl,f⟩:=Rz _ _ _ _ _ i
  exact ⟨v,e,fun w' b a=>Rf (f w') a⟩
end
structure Swap (ops : List Oper) (a b : Oper) : Prop where
  pa : Xo a.op = true
  pb : Xo b.op = true
  ga : a.guard = none
  ab : ∀ d, a.dst = some d → d ∉ H9 ops b ++ B6 b
  ba : ∀ d, b.dst = some d → d ∉ H9 ops a ++ B6 a
  dd : ∀ d, a.dst = some d → b.dst ≠ some d
  gb : ∀ j c, b.guard = some (j, c) → ((ops[j]?).bind (·.dst)).isSome = true
  rd : (Q19 a = true ∧ (Q19 b = true ∨ Sr b = true) ∧ b.guard = none ∨ Sr a = true ∧ Q49 b = true ∧ b.guard = none) ∨ Q49 a = true
section
variable {P : Program} {ops : List Oper} {V1 : List Value → World → Prop}
theorem Q2I {l:List Value} {d:Option Nat} {v:Value} {s:Nat} (h: ∀e,d=some e→e≠s):get (put l d v) s=get l s:=by
 cases d with
 | none=>rfl
 | some e=>simp only[put,get,List.getD_eq_getElem?_getD,List.getElem?_set_ne (h e rfl)]
theorem Q9H {l:List Value} {d e:Option Nat} {v u:Value} (h: ∀x,d=some x→e≠some x):put (put l d v) e u=put (put l e u) d v:=by
 cases d with
 | none=>rfl
 | some d=>cases e with
  | none=>rfl
  | some e=>simp only[put];exact List.set_comm _ _ (by intro a;subst a;exact h d rfl rfl)
theorem Q4f {o:Oper} {s:Nat} (a:Operand.tmp s∈o.op.operands):s∈B6 o:=by
 simp only[B6,List.mem_filterMap]
 exact ⟨.tmp s,by simpa using a,rfl⟩
theorem Q6B {a b:Oper} {R:List Oper} {l:List Value} {w:World} (W:Swap ops a b) (h:Z0 P ops V1 (a::b::R) l w):Z0 P ops V1 (b::a::R) l w:=by
 obtain ⟨pa,Y,U,N,Q,V,gb,M⟩:=W
 have o: ∀v,W1 P (put l a.dst v) b=W1 P l b:=fun v=>Dy Y fun x J=>by
  cases x with
  | tmp s=>exact Q2I fun e t g=>N e t (List.mem_append_right _ (g▸Q4f J))
  | _=>rfl
 have n: ∀v,W1 P (put l b.dst v) a=W1 P l a:=fun v=>Dy pa fun x J=>by
  cases x with
  | tmp s=>exact Q2I fun e t g=>Q e t (List.mem_append_right _ (g▸Q4f J))
  | _=>rfl
 have m: ∀v u,put (put l b.dst u) a.dst v=put (put l a.dst v) b.dst u:=fun v u=>(Q9H V).symm
 simp only[Z0,U] at h⊢
 cases k:b.guard with
 | none=>
  simp only[k] at h⊢
  rcases M with (⟨z,rb | rb,_⟩ | ⟨z,Z,_⟩) | fa
  ·obtain ⟨A,f,i⟩:=Q5F z h
   rw[o] at f
   obtain ⟨B,r,p⟩:=Q5F rb f
   refine p _ ?_
   rw[n]
   exact i _ (by rw[m];exact r)
  ·obtain ⟨A,f,i⟩:=Q9w z h
   rw[o] at f
   obtain ⟨B,O,k,r,p⟩:=Q6i rb f
   refine p _ ?_
   rw[n]
   exact i O _ k (by rw[m];exact r)
  ·obtain ⟨A,wa,k,f,i⟩:=Q6i z h
   rw[o] at f
   obtain ⟨B,r,p⟩:=Q2x Z f
   refine p w _ ?_
   rw[n]
   exact i _ (by rw[m];exact r)
  ·obtain ⟨A,f,i⟩:=Q2x fa h
   rw[o] at f
   refine K3 (fun B w' D=>?_) f
   rw[n]
   exact i w' _ (by rw[m];exact D)
 | some q=>
  obtain ⟨j,c⟩:=q
  rcases M with (⟨_,_,y⟩ | ⟨_,_,y⟩) | fa
  ·rw[k] at y;cases y
  ·rw[k] at y;cases y
  obtain ⟨d,L⟩:=Option.isSome_iff_exists.1 (gb j c k)
  have E:d∈H9 ops b:=by simp[H9,k,L]
  have X: ∀v,get (put l a.dst v) d=get l d:=fun v=>Q2I fun e t g=>N e t (List.mem_append_left _ (g▸E))
  simp only[k,L] at h⊢
  obtain ⟨A,f,i⟩:=Q2x fa h
  rw[o,X] at f
  refine Q0N ((Lg f).imp (fun ⟨H,C⟩=>⟨H,K3 (fun B w' D=>?_) C⟩) (fun ⟨H,C⟩=>⟨H,?_⟩))
  ·rw[n];exact i w' _ (by rw[m];exact D)
  ·rw[n];exact i w _ (by rw[m];exact C)
theorem Q2o {a:Oper} {R R':List Oper} {l:List Value} {w:World} (b: ∀l w,Z0 P ops V1 R l w→Z0 P ops V1 R' l w) (h:Z0 P ops V1 (a::R) l w):Z0 P ops V1 (a::R') l w:=by
 simp only[Z0] at h⊢
 cases k:a.guard with
 | none=>simp only[k] at h⊢;exact K3 (fun v w f=>b _ _ f) h
 | some q=>
  obtain ⟨j,c⟩:=q
  simp only[k] at h⊢
  cases i:(ops[j]?).bind (·.dst) with
  | none=>simp only[i] at h⊢;exact b _ _ h
  | some d=>
   simp only[i] at h⊢
   exact Q0N ((Lg h).imp (fun ⟨g,e⟩=>⟨g,K3 (fun m w' f=>b _ _ f) e⟩) (fun ⟨g,e⟩=>⟨g,b _ _ e⟩))
theorem Q1a {q:Oper} {R:List Oper}: ∀(A:List Oper) {l:List Value} {w:World},(∀a∈A,Swap ops a q)→Z0 P ops V1 (A++q::R) l w→Z0 P ops V1 (q::(A++R)) l w
 | [],_,_,_,h=>h
 | a::A,l,w,c,h=>Q6B (c a (by simp)) (Q2o (R:=A++q::R) (fun _ _ h=>Q1a A (fun b d=>c b (by simp[d])) h) h)
theorem Nc: ∀(A:List Oper) {B:List Oper} {l:List Value} {w:World},Z0 P ops V1 (A++B) l w=Z0 P ops (fun l w=>Z0 P ops V1 B l w) A l w
 | [],B,l,w=>rfl
 | a::A,B,l,w=>by
  simp only[List.cons_append,Z0]
  split
  ·congr 1;funext v w;exact Nc A
  ·split
   ·congr 1;funext v w;exact Nc A
   ·exact Nc A
theorem Q8h {A B B':List Oper} {l:List Value} {w:World} (c: ∀l w,Z0 P ops V1 B l w→Z0 P ops V1 B' l w): ∀{l:List Value} {w:World},Z0 P ops V1 (A++B) l w→Z0 P ops V1 (A++B') l w:=by
 induction A with
 | nil=>exact fun h=>c _ _ h
 | cons a A b=>exact fun h=>Q2o (fun _ _ h=>b h) h
theorem Q7T (os:List Oper) (bit:Nat→Nat→Bool) (r: ∀p q a b,p<q→os[p]? =some a→os[q]? =some b→bit p q=false→Swap ops a b):
 ∀(n:Nat) (V1:List Value→World→Prop) (L:List Nat) (l:List Value) (w:World),L.Nodup→L.length=n→(∀q∈L,q<n)→n≤os.length→L.Pairwise (fun q p=>p<q→bit p q=false)→
  Z0 P ops V1 (os.take n) l w→Z0 P ops V1 (L.filterMap (os[·]?)) l w
 | 0,V1,L,l,w,u,y,g,v,C,h=>by
  have:L=[]:=List.eq_nil_of_length_eq_zero y
  subst this;exact h
 | n+1,V1,L,l,w,u,y,g,v,C,h=>by
  have O:n∈L:=Classical.byContradiction fun t=>by
   have V:=G9 n L u fun k H=>by
    have o:=g k H
    have M:k≠n:=fun e=>t (e▸H)
    omega
   omega
  obtain ⟨A,B,rfl⟩:=List.append_of_mem O
  have c:n<os.length:=by omega
  have f:os[n]? =some os[n]:=List.getElem?_eq_getElem c
  have i:=List.nodup_append.1 u
  have E:n∉B:=(List.nodup_cons.1 i.2.1).1
  have z:n∉A:=fun e=>i.2.2 n e n (by simp) rfl
  have U:os.take (n+1)=os.take n++[os[n]]:=(List.take_append_getElem c).symm
  rw[U,Nc] at h
  have m: ∀q∈A++B,q<n:=fun q J=>by
   have V:q<n+1:=g q (by rcases List.mem_append.1 J with h | h<;>simp[h])
   have o:q≠n:=fun e=>by
    subst e
    rcases List.mem_append.1 J with h | h
    ·exact z h
    ·exact E h
   omega
  have d:(A++B).Sublist (A++n::B):=List.Sublist.append (List.Sublist.refl A) (List.sublist_cons_self n B)
  have o:=Q7T os bit r n _ (A++B) l w (u.sublist d) (by simp at y⊢;omega) m (by omega) (C.sublist d) h
  rw[←Nc] at o
  rw[List.filterMap_append,List.append_assoc] at o
  rw[List.filterMap_append,List.filterMap_cons,f]
  refine Q8h (l:=l) (w:=w) (fun l w M=>?_) o
  have:=Q1a (R:=[]) (B.filterMap (os[·]?)) (fun a N=>?_) M
  ·rwa [List.append_nil] at this
  ·obtain ⟨p,j,D⟩:=List.mem_filterMap.1 N
   have s:=m p (List.mem_append_right _ j)
   refine r p n a _ s D f ?_
   have Q:=(List.pairwise_append.1 C).2.1
   exact (List.pairwise_cons.1 Q).1 p j s
end
def Q3w (ops:List Oper) (a b:Oper):Bool:=
 (match a.guard with | none=>true | some _=>false)&&(match b.guard with | none=>true | some (j,_)=>match (ops[j]?).bind (·.dst) with | some _=>true | none=>false)&&
  (((Q19 a&&(Q19 b||Sr b)||Sr a&&Q49 b)&&(match b.guard with | none=>true | some _=>false))||Q49 a)
def Q3B (o:Oper):Bool:=match o.op with | .call c=>(match c.callee with | .value (.func _)=>true | _=>false) | _=>false
def Q8J (ops:List Oper) (a:List Nat):Bool:=
 ops.any Q6k&&ops.any Q3B&&(List.range ops.length).all fun q=>(List.range q).all fun p=>F0 ops a p q||Q3w ops (ops.getD (a.getD p 0) default) (ops.getD (a.getD q 0) default)
theorem Dr {α:Type} {R:α→α→Prop}: ∀(a b:List α) {L:List α},L=b++a→(∀b q a,L=b++q::a→ ∀p∈a,R q p)→a.Pairwise R
 | [],_,_,_,_=>List.Pairwise.nil
 | q::a,b,L,c,h=>List.pairwise_cons.2 ⟨h b q a c,Dr a (b++[q]) (by rw[c];simp) h⟩
theorem Q3V {P:Program} {ops:Array Oper} {V1:List Value→World→Prop} {l0:List Value} {ord L:List Nat} {bit:Nat→Nat→Bool} (ha:Arr ops.toList ord L) (hosl:(Z5 ops.toList ord).length=ops.toList.length) (hn:Xl (R0 (Z5 ops.toList ord))=true) (hbit: ∀p q,F0 ops.toList ord p q=true→bit p q=true)
 (hsq: ∀p q,p<q→q<ops.toList.length→(bit p q||Q3w ops.toList (ops.toList.getD (ord.getD p 0) default) (ops.toList.getD (ord.getD q 0) default))=true) (hpair:L.Pairwise fun q p=>p<q→bit p q=false) (w:World)
 (h:Z0 P ops.toList V1 (Z5 ops.toList ord) l0 w):Z0 P ops.toList V1 (L.filterMap ((Z5 ops.toList ord)[·]?)) l0 w:=by
 refine Q7T (Z5 ops.toList ord) bit (fun p q a b' hpq hpa hqb hb=>?_) _ V1 L l0 w ha.hn rfl (fun q hq=>by rw[ha.hLl];exact ha.hlt q hq) (by rw[ha.hLl];exact Nat.le_refl _) hpair (by rw[ha.hLl,List.take_length];exact h)
 have hql:q<ops.toList.length:=by have:=(List.getElem?_eq_some_iff.1 hqb).1;omega
 have hpl:p<ops.toList.length:=by omega
 have hget: ∀i o,(Z5 ops.toList ord)[i]? =some o→ops.toList.getD (ord.getD i 0) default=o:=by
  intro i o hi
  unfold Z5 at hi
  rw[List.getElem?_map] at hi
  cases ho:ord[i]? with
  | none=>rw[ho] at hi;cases hi
  | some x=>
   rw[ho] at hi
   simp only[Option.map_some,Option.some.injEq] at hi
   rw[List.getD_eq_getElem?_getD (l:=ord),ho];exact hi
 have hnc:(Qe a b'||Qe b' a)=false:=by
  cases hx:Qe a b'||Qe b' a with
  | false=>rfl
  | true=>rw[hbit p q (ha.hclash p q a b' hpq hpa hqb hx)] at hb;cases hb
 rw[Bool.or_eq_false_iff] at hnc
 have hs:=hsq p q hpq hql
 rw[hb,Bool.false_or,hget p a hpa,hget q b' hqb] at hs
 simp only[Q3w,Bool.and_eq_true,Bool.or_eq_true] at hs
 obtain ⟨⟨g1,g2⟩,g3⟩:=hs
 have hga:a.guard=none:=by
  cases hx:a.guard with
  | none=>rfl
  | some _=>rw[hx] at g1;cases g1
 have c1: ∀d,a.dst=some d→d∉B6 b'∧b'.dst≠some d:=fun d hd=>by
  have:=hnc.1
  unfold Qe at this
  rw[hd] at this
  simp only[Bool.or_eq_false_iff] at this
  exact ⟨fun hm=>by simp[hm] at this,fun hm=>by simp[hm] at this⟩
 have c2: ∀d,b'.dst=some d→d∉B6 a:=fun d hd=>by
  have:=hnc.2
  unfold Qe at this
  rw[hd] at this
  simp only[Bool.or_eq_false_iff] at this
  exact fun hm=>by simp[hm] at this
 refine ⟨ha.hpl a (List.mem_of_getElem? hpa),ha.hpl b' (List.mem_of_getElem? hqb),hga,fun d hd'=>?_,fun d hd'=>?_,fun d hd'=>(c1 d hd').2,fun j c hbg=>?_,?_⟩
 ·rw[List.mem_append,not_or]
  refine ⟨fun hm=>?_,(c1 d hd').1⟩
  unfold H9 at hm
  cases hbg:b'.guard with
  | none=>rw[hbg] at hm;simp at hm
  | some q0=>
   obtain ⟨j,c⟩:=q0
   obtain ⟨p',hp',hpj,hbt⟩:=ha.hg q b' j c hqb hbg
   rw[hbg] at hm
   simp only at hm
   cases hjd:ops.toList[j]?.map (·.dst) with
   | none=>
    cases hj:ops.toList[j]? with
    | none=>rw[hj] at hm;simp at hm
    | some oj=>rw[hj] at hjd;cases hjd
   | some dj=>
    cases hj:ops.toList[j]? with
    | none=>rw[hj] at hjd;cases hjd
    | some oj=>
     rw[hj] at hm hpj
     simp only[Option.bind_some] at hm
     cases hdj:oj.dst with
     | none=>rw[hdj] at hm;simp at hm
     | some d2=>
      rw[hdj] at hm
      simp only[List.mem_singleton] at hm
      subst hm
      have:=Yj (Z5 ops.toList ord) hn p' p oj a d hpj hpa hdj hd'
      subst this
      rw[hbit _ _ hbt] at hb;cases hb
 ·rw[List.mem_append,not_or]
  exact ⟨fun hm=>by simp[H9,hga] at hm,c2 d hd'⟩
 ·rw[hbg] at g2
  simp only at g2
  cases hx:(ops.toList[j]?).bind (·.dst) with
  | none=>rw[hx] at g2;cases g2
  | some _=>rfl
 ·rcases g3 with ⟨g3,g5⟩ | g3
  ·have hn:b'.guard=none:=by
    cases hx:b'.guard with
    | none=>rfl
    | some _=>rw[hx] at g5;cases g5
   exact .inl (g3.imp (fun g=>⟨g.1,g.2,hn⟩) fun g=>⟨g.1,g.2,hn⟩)
  ·exact .inr g3
theorem X2F (P:Program) (ops:Array Oper) (V1:List Value→World→Prop) (n:List Value) (a:Vp ops.toList n.length=true) (e:Q8J ops.toList (H1 ops.toList)=true)
 (b:Bool) (t:Nat) (w:World) (h:Z0 P ops.toList V1 (Z5 ops.toList (H1 ops.toList)) n w):Z0 P ops.toList V1 ((Region.schedule b ops t).filterMap (ops[·]?)) n w:=by
 obtain ⟨L,j,i,c⟩:=Q4E a b t
 simp only[Vp,Bool.and_eq_true] at a
 obtain ⟨⟨⟨⟨⟨E,D⟩,B⟩,C⟩,⟨y,A⟩,u⟩,s⟩:=a
 generalize H1 ops.toList=f at*
 rw[j]
 refine Q3V i c B (bit:=F0 ops.toList f) (fun _ _ h=>h) (fun p q d l=>?_) ?_ w h
 ·simp only[Q8J,Bool.and_eq_true] at e
  exact List.all_eq_true.1 (List.all_eq_true.1 e.2 q (by simpa using l)) p (by simpa using d)
 ·refine Dr L [] (L:=L) rfl fun m q g k p o d=>?_
  cases v:F0 ops.toList f p q with
  | false=>rfl
  | true=>
   have z:=i.hC m q g k p v (i.hlt p (by rw[k];simp[o]))
   have r:=i.hn
   rw[k] at r
   exact absurd rfl ((List.nodup_append.1 r).2.2 p z p (by simp[o]))
def X30 (b:List Nat) (a c:Nat):List Nat:=((b.erase a).takeWhile (· !=c))++a::((b.erase a).dropWhile (· !=c))
def Q5H (ops:List Oper) (d b:List Nat) (a c:Nat):Bool:=
 Q51 ops b&&Xl (R0 (Z5 ops b))&&
  ((List.range ops.length).all fun q=>(List.range q).all fun p=>(F0 ops d p q||(d.getD p 0==c&&d.getD q 0==a))||Q3w ops (ops.getD (d.getD p 0) default) (ops.getD (d.getD q 0) default))&&
  ((List.range ops.length).all fun q=>(List.range q).all fun p=>(F0 ops b p q||(b.getD p 0==a&&b.getD q 0==c))||Q3w ops (ops.getD (b.getD p 0) default) (ops.getD (b.getD q 0) default))
def Q8n (ops:List Oper):Option (List Nat):=
 match ops.any Q6k&&ops.any Q3B&&ops.any Sr with
 | true=>match ops.findIdx Sr !=ops.findIdx Q3B&&Q5H ops (H1 ops) (X30 (H1 ops) (ops.findIdx Sr) (ops.findIdx Q3B)) (ops.findIdx Sr) (ops.findIdx Q3B) with
  | true=>some (X30 (H1 ops) (ops.findIdx Sr) (ops.findIdx Q3B))
  | false=>none
 | false=>none
theorem X1D {ops:Array Oper} {a f:List Nat} {x y:Nat} (U:f.Nodup) (A: ∀i∈f,i<ops.toList.length∧a.getD (a.idxOf i) 0=i) (u:Arr ops.toList a (f.map (a.idxOf ·))) (m: ∀e r c,f≠e++y::(r++x::c)):
 (f.map (a.idxOf ·)).Pairwise fun q p=>p<q→(F0 ops.toList a p q||(a.getD p 0==x&&a.getD q 0==y))=false:=by
 refine Dr _ [] (L:=f.map (a.idxOf ·)) rfl fun e q c b p l B=>?_
 rw[Bool.or_eq_false_iff]
 constructor
 ·cases N:F0 ops.toList a p q with
  | false=>rfl
  | true=>
   have j:=u.hC e q c b p N (u.hlt p (by rw[b];simp[l]))
   have g:=u.hn
   rw[b] at g
   exact absurd rfl ((List.nodup_append.1 g).2.2 p j p (by simp[l]))
 ·rw[Bool.and_eq_false_iff]
  refine Classical.byContradiction fun d=>?_
  rw[not_or] at d
  obtain ⟨j,g⟩:=d
  have j:a.getD p 0=x:=by simpa using j
  have g:a.getD q 0=y:=by simpa using g
  rw[List.map_eq_append_iff] at b
  obtain ⟨h,n,R,_,v⟩:=b
  rw[List.map_eq_cons_iff] at v
  obtain ⟨i,o,C,J,s⟩:=v
  rw[←s,List.mem_map] at l
  obtain ⟨k,H,t⟩:=l
  obtain ⟨E,O,M⟩:=List.append_of_mem H
  subst C R M
  have z:=(A i (by simp)).2
  have w:=(A k (by simp)).2
  rw[J] at z
  rw[t] at w
  have Q:i=y:=by rw[←z];exact g
  have D:k=x:=by rw[←w];exact j
  subst Q D
  exact m h E O rfl
theorem X1W (P:Program) (ops:Array Oper) (V1:List Value→World→Prop) (D:List Value) (n:Vp ops.toList D.length=true) {d:List Nat} {a c:Nat} (Y:a≠c) (o:Q5H ops.toList (H1 ops.toList) d a c=true)
 (b:Bool) (t:Nat) (w:World) (h1:Z0 P ops.toList V1 (Z5 ops.toList (H1 ops.toList)) D w) (h2:Z0 P ops.toList V1 (Z5 ops.toList d) D w):Z0 P ops.toList V1 ((Region.schedule b ops t).filterMap (ops[·]?)) D w:=by
 simp only[Vp,Bool.and_eq_true] at n
 obtain ⟨⟨⟨⟨⟨V,U⟩,hn⟩,hd⟩,⟨v,A⟩,u⟩,C⟩:=n
 simp only[Q5H,Bool.and_eq_true] at o
 obtain ⟨⟨⟨k,H⟩,Q⟩,E⟩:=o
 by_cases r: ∃i g f,Region.schedule b ops t=i++a::(g++c::f)
 ·obtain ⟨M,z,J,s,N⟩:=Td V U v A u k b t
  rw[M]
  refine Q3V z J H (bit:=fun p q=>F0 ops.toList d p q||(d.getD p 0==a&&d.getD q 0==c)) (fun p q h=>by rw[h];rfl) (fun p q j l=>?_) (X1D s N z fun i g f e=>?_) w h2
  ·exact List.all_eq_true.1 (List.all_eq_true.1 E q (by simpa using l)) p (by simpa using j)
  ·obtain ⟨R,W,O,e'⟩:=r
   have B: ∀{L p m q:List Nat} {x y:Nat},L=p++x::(m++y::q)→L[p.length]? =some x∧L[p.length+1+m.length]? =some y∧p.length+1+m.length<L.length:=by
    rintro L p m q x y rfl
    refine ⟨by simp,?_,by simp;omega⟩
    rw[List.getElem?_append_right (by omega),show p.length+1+m.length-p.length=m.length+1 by omega,List.getElem?_cons_succ]
    simp
   obtain ⟨g1,X,g3⟩:=B e
   obtain ⟨g4,Z,g6⟩:=B e'
   have k1:=(List.getElem?_inj (by omega) s).1 (g1.trans Z.symm)
   have k2:=(List.getElem?_inj (by omega) s).1 (X.trans g4.symm)
   omega
 ·obtain ⟨M,z,J,s,N⟩:=Td V U v A u C b t
  rw[M]
  refine Q3V z J hn (bit:=fun p q=>F0 ops.toList (H1 ops.toList) p q||((H1 ops.toList).getD p 0==c&&(H1 ops.toList).getD q 0==a)) (fun p q h=>by rw[h];rfl) (fun p q j l=>?_) (X1D s N z fun i g f e=>r ⟨i,g,f,e⟩) w h1
  exact List.all_eq_true.1 (List.all_eq_true.1 Q q (by simpa using l)) p (by simpa using j)
theorem X38 (P:Program) (ops:Array Oper) (V1:List Value→World→Prop) (d:List Value) (e:Vp ops.toList d.length=true) {a:List Nat} (c:Q8n ops.toList=some a)
 (b:Bool) (t:Nat) (w:World) (h:Z0 P ops.toList V1 (Z5 ops.toList (H1 ops.toList)) d w∧Z0 P ops.toList V1 (Z5 ops.toList a) d w):Z0 P ops.toList V1 ((Region.schedule b ops t).filterMap (ops[·]?)) d w:=by
 unfold Q8n at c
 split at c
 ·split at c
  ·rename_i f
   cases c
   rw[Bool.and_eq_true] at f
   exact X1W P ops V1 d e (by simpa using f.1) f.2 b t w h.1 h.2
  ·cases c
 ·cases c
theorem X1u: ∃f:World→(World→Prop)→Prop,f=fun w A=>A w.drew:=⟨_,rfl⟩
noncomputable def sq:World→(World→Prop)→Prop:=Classical.choose X1u
theorem Q8X:sq=fun w A=>A w.drew:=Classical.choose_spec X1u
def Q56:List Ent→Nat→Ent→(List Ent→Prop)→Prop
 | [],_,_,k=>k []
 | _::l,0,e,k=>k (e::l)
 | x::l,n+1,e,k=>Q56 l n e (fun l'=>k (x::l'))
def Q55 (S:List Ent) (d:Option Nat) (e:Ent) (k:List Ent→Prop):Prop:=
 match d with
 | some d=>Q56 S d e k
 | none=>k S
def Q8E:List Ent→Nat→(Ent→Prop)→Prop
 | [],_,k=>k (.val undef)
 | x::_,0,k=>k x
 | _::l,n+1,k=>Q8E l n k
def Q9D (S:List Ent) (x:Operand) (k:Ent→Prop):Prop:=
 match x with
 | .tmp t=>Q8E S t k
 | .const v=>k (.val v)
 | .global g=>k (.val (.pointer (some ⟨g,0,none⟩)))
 | .func f=>k (.val (.func (.func f) #[] #[]))
def Q1y (u:Nat→Value):List Ent→(List Value→Prop)→Prop
 | [],k=>k []
 | .val v::S,k=>Q1y u S (fun l=>k (v::l))
 | .ref j::S,k=>Q1y u S (fun l=>k (u j::l))
def Q8r:List Value→(List Ent→Prop)→Prop
 | [],k=>k []
 | v::l,k=>Q8r l (fun S=>k (.val v::S))
theorem Q66: ∀(S:List Ent) (n:Nat) (e:Ent) (k:List Ent→Prop),Q56 S n e k=k (Q2L S n e)
 | [],_,_,_=>rfl
 | _::_,0,_,_=>rfl
 | _::l,n+1,e,k=>by simp only[Q56,Q2L,Q66 l n e]
theorem Q2v (S:List Ent) (d:Option Nat) (e:Ent) (k:List Ent→Prop):Q55 S d e k=k (putE S d e):=by
 cases d with
 | none=>rfl
 | some d=>exact Q66 S d e k
theorem Q61: ∀(S:List Ent) (n:Nat) (k:Ent→Prop),Q8E S n k=k (getE S n)
 | [],_,_=>rfl
 | _::_,0,_=>rfl
 | _::l,n+1,k=>Q61 l n k
theorem Q9T (S:List Ent) (x:Operand) (k:Ent→Prop):Q9D S x k=k (entOf S x):=by
 cases x with
 | tmp t=>exact Q61 S t k
 | _=>rfl
theorem Q2t (u:Nat→Value): ∀(S:List Ent) (k:List Value→Prop),Q1y u S k=k (Qa u S)
 | [],_=>rfl
 | .val v::S,k=>by simp only[Q1y,Q2t u S];rfl
 | .ref j::S,k=>by simp only[Q1y,Q2t u S];rfl
theorem Q7J: ∀(l:List Value) (k:List Ent→Prop),Q8r l k=k (l.map .val)
 | [],_=>rfl
 | v::l,k=>by simp only[Q8r,Q7J l];rfl
noncomputable def Sp (P:Program) (ops:List Oper) (T:World→World→Prop) (B:World→Prop) (V1:List Value→World→Prop) (tail:List Oper):Nat→List Oper→List Ent→Su→List Nat→Prop
 | _,[],S,b,done=>Pm done (fun _=>undef) fun u=> ∀w,B w→Q1u b u w (Q1y u S fun l=>P4 P ops V1 tail l w) done
 | i,o::a,S,b,done=>
  match mv o with
  | some x=>Q9D S x fun e=>Q55 S o.dst e fun S=>Sp P ops T B V1 tail (i+1) a S b done
  | none=>match Q6k o with
   | true=>Rt T (fun φ=>Pm (refs ops S o) (fun _=>undef) fun u=> ∀w,B w→Pt b u w (runOp P ops (Qa u S) o w (dk T (φ ((refs ops S o).map u)) w)) (refs ops S o))
    (fun φ=>Q55 S o.dst (.ref i) fun c=>Sp P ops T B V1 tail (i+1) a c (b++[(i,refs ops S o,φ)]) (done++[i]))
   | false=>Q5 T (fun φ=>Pm (refs ops S o) (fun _=>undef) fun u=> ∀w,B w→Pt b u w (runOp P ops (Qa u S) o w (dk T φ w)) (refs ops S o))
    (fun φ=>Q55 S o.dst (.ref i) fun c=>Sp P ops T B V1 tail (i+1) a c (b++[(i,[],fun _=>φ)]) (done++[i]))
theorem Bn (P:Program) (ops:List Oper) (T:World→World→Prop) (B:World→Prop) (V1:List Value→World→Prop) (tail:List Oper): ∀(a:List Oper) (i:Nat) (S:List Ent) (b:Su) (done:List Nat),
 Sp P ops T B V1 tail i a S b done=chain P ops T B V1 tail i a S b done
 | [],i,S,b,done=>by simp only[Sp,chain,Q2t]
 | o::a,i,S,b,done=>by
  simp only[Sp,chain]
  split
  ·rw[Q9T,Q2v,Bn]
  ·split
   ·congr 1
    funext φ
    rw[Q2v,Bn]
   ·congr 1
    funext φ
    rw[Q2v,Bn]
noncomputable def X1B (P:Program) (ops:List Oper) (V1:List Value→World→Prop) (l:List Value) (w:World):Prop:=
 dr w fun T B=>Q8r l fun S=>Sp P ops T B V1 ((Z5 ops (H1 ops)).drop (Rm ops (H1 ops) ops.length)) 0 ((Z5 ops (H1 ops)).take (Rm ops (H1 ops) ops.length)) S [] []
def Q1p (a b:List Nat):Bool:=a.all (b.contains ·)&&b.all (a.contains ·)
theorem Sa {a b:List Nat} (h:Q1p a b=true) (i:Nat):a.contains i=b.contains i:=by
 simp only[Q1p,Bool.and_eq_true,List.all_eq_true] at h
 rw[Bool.eq_iff_iff]
 constructor
 ·intro c;exact h.1 i (by simpa using c)
 ·intro c;exact h.2 i (by simpa using c)
abbrev V9:=List (Option (List Nat×List Nat))
def V9.slots (a:V9):List (Option (List Nat)):=a.map (·.map (·.1))
theorem V9.slots_get (a:V9) (k:Nat):a.slots.getD k none=(a.getD k none).map (·.1):=by
 simp only[V9.slots,List.getD_eq_getElem?_getD,List.getElem?_map]
 cases a[k]? <;>rfl
noncomputable def Ws (P:Program) (a:V9) (b:List (Option (List Nat))):Nat→Code→Hi→List Value→World→Prop
 | _, .skip,Q,l,w=>Q .normal l w
 | _, .label _,Q,l,w=>Q .normal l w
 | _, .exit id,Q,l,w=>Q (.exit id) l w
 | _, .ret,Q,l,w=>Q .ret l w
 | _, .region _ ops false,Q,l,w=>P4 P ops.toList (fun l w=>Q .normal l w) ops.toList l w
 | _, .region _ ops true,Q,l,w=>match Vp ops.toList l.length with
  | true=>match Q8J ops.toList (H1 ops.toList) with
   | true=>sq w fun w=>P4 P ops.toList (fun l w=>Q .normal l w) (Z5 ops.toList (H1 ops.toList)) l w
   | false=>match Q8n ops.toList with
    | some g=>sq w fun w=>P4 P ops.toList (fun l w=>Q .normal l w) (Z5 ops.toList (H1 ops.toList)) l w∧P4 P ops.toList (fun l w=>Q .normal l w) (Z5 ops.toList g) l w
    | none=>X1B P ops.toList (fun l w=>Q .normal l w) l w
  | false=>False
 | k, .seq x y,Q,l,w=>match a.getD k none with
  | none=>Ws P a b (k+1) x (thn (fun l w=>Ws P a b (k+1+Qm x) y Q l w) Q) l w
  | some (f,h)=>match Q1p h (N3 b (k+1) x) with
   | true=>jn w (fun J w=>Ws P a b (k+1) x (thn (fun l' w'=>J (Of l' f) w') Q) l w)
    (fun z d w=>Gs f h z d 0 l fun l=>Ws P a b (k+1+Qm x) y Q l w)
   | false=>False
 | k, .cond c x y,Q,l,w=>X1 (ev l c) (Ws P a b k x Q l w) (Ws P a b (k+Qm x) y Q l w)
 | k, .block id c,Q,l,w=>Ws P a b k c (Q3i id Q) l w
 | k, .loop c,Q,l,w=>match a.getD k none with
  | none=>False
  | some (f,h)=>match Q1p h (N3 b (k+1) c) with
   | true=>lp (Of l f) w (fun e x d w=>Gs f h x d 0 l fun l=>Ws P a b (k+1) c (thn (fun l' w'=>e (Of l' f) w') Q) l w)
   | false=>False
 | _,_,_,_,_=>False
theorem Q0r {next a:List Value→World→Prop} {Q b:Hi} (c: ∀l w,next l w→a l w) (d: ∀e l w,Q e l w→b e l w): ∀e l w,thn next Q e l w→thn a b e l w:=by
 intro e l w h;cases e<;>first | exact c _ _ h | exact d _ _ _ h
theorem X15 (P:Program) (m:V9) (c:Code): ∀(k:Nat) (Q j:Hi) (l:List Value) (w:World),(∀e l w,Q e l w→j e l w)→
 Ws P m m.slots k c Q l w→De P m.slots k c j l w:=by
 induction c with
 | skip=>intro k Q j l w g h;exact g _ _ _ h
 | label n=>intro k Q j l w g h;exact g _ _ _ h
 | exit id=>intro k Q j l w g h;exact g _ _ _ h
 | ret=>intro k Q j l w g h;exact g _ _ _ h
 | goto n=>intro k Q j l w g h;exact h.elim
 | refuse s=>intro k Q j l w g h;exact h.elim
 | scope c=>intro k Q j l w g h;exact h.elim
 | rangeFunc f p a b=>intro k Q j l w g h;exact h.elim
 | region id ops A=>
  intro k Q j l w g h
  cases A with
  | true=>
   simp only[Ws] at h
   split at h
   ·rename_i u
    intro t
    have v:Z0 P ops.toList (fun l w=>Q .normal l w) ((Region.schedule (P.follows .mixedOrders) ops t).filterMap (ops[·]?)) l w.drew:=by
     split at h
     ·rename_i L
      simp only[Q8X,Rb] at h
      exact X2F P ops _ l u L _ t _ h
     ·split at h
      ·rename_i X O
       simp only[Q8X,Rb] at h
       exact X38 P ops _ l u O _ t _ h
      ·simp only[X1B,X1q,Q8W,Q7J,Bn] at h
       obtain ⟨T,B,h0,hT,h⟩:=h
       exact X1P P ops T B _ l u hT h (P.follows .mixedOrders) t w.drew h0
    refine Jr P _ _ _ (R0 ops.toList) l _ _ _ ?_ (Qh.refl _ _) (fun l w U _=>g _ _ _ U) v
    intro o E d v
    simp only[List.mem_filterMap] at E
    obtain ⟨i,_,hi⟩:=E
    simp only[R0,List.contains_eq_mem,List.mem_filterMap,decide_eq_true_eq]
    exact ⟨o,by simpa using Array.mem_of_getElem? hi,v⟩
   ·exact h.elim
  | false=>
   simp only[Ws] at h
   rw[Rb] at h
   refine Jr P _ _ _ (R0 ops.toList) l _ _ _ ?_ (Qh.refl _ _) (fun l w U _=>g _ _ _ U) h
   intro o E d v
   simp only[R0,List.contains_eq_mem,List.mem_filterMap,decide_eq_true_eq]
   exact ⟨o,E,v⟩
 | seq x y r q=>
  intro k Q j l w g h
  simp only[Ws,De] at h⊢
  rw[V9.slots_get]
  split at h
  ·rename_i C
   simp only[C,Option.map_none]
   exact r _ _ _ _ _ (Q0r (fun l w h=>q _ _ _ _ _ g h) g) h
  ·rename_i W wr C
   simp only[C,Option.map_some]
   split at h
   ·rename_i R
    obtain ⟨J,h1,O⟩:=Q6s h
    refine Ur J (r _ _ _ _ _ (Q0r (fun l w h=>h) g) h1) fun z d w hz=>?_
    have Z:=O z d w hz
    rw[Q4O,Bg _ _ _ (Sa R)] at Z
    exact q _ _ _ _ _ g Z
   ·exact h.elim
 | cond c x y r q=>
  intro k Q j l w g h
  exact Q4L (r k _ _ _ _ g) (q _ _ _ _ _ g) h
 | block id c N=>
  intro k Q j l w g h
  refine N k _ _ _ _ ?_ h
  intro e l' w' D
  cases e with
  | exit ag=>simp only[Q3i] at D⊢;split<;>rename_i M<;>simp only[M,if_true,if_false] at D<;>exact g _ _ _ D
  | _=>exact g _ _ _ D
 | loop c N=>
  intro k Q j l w g h
  simp only[Ws,De] at h⊢
  split at h
  ·exact h.elim
  ·rename_i W wr C
   have H:(m.slots.getD k none).getD []=W:=by rw[V9.slots_get,C];rfl
   split at h
   ·rename_i R
    subst H
    refine Q4c (fun V x d w Y=>?_) h
    rw[Q4O,Bg _ _ _ (Sa R)] at Y
    exact N _ _ _ _ _ (Q0r (fun l w h=>h) g) Y
   ·exact h.elim
def Q39 (P:Program) (t:TypeId) (a:Value) (w:World) (K:Value→Prop):Prop:= ∃v,(do loadVar t (←asAddr a):Sem Value).run P w= .ok v w∧K v
theorem Q37: ∃f:Program→TypeId→Value→World→(Value→Prop)→Prop,f=Q39:=⟨_,rfl⟩
noncomputable def Y7:Program→TypeId→Value→World→(Value→Prop)→Prop:=Classical.choose Q37
theorem Q2R:Y7=Q39:=Classical.choose_spec Q37
noncomputable def Q64 (P:Program) (l:List Value) (K:List Value→World→Prop):List ResultVar→List Value→World→Prop
 | [],b,w=>K b.reverse w
 | .tmp t::c,b,w=>Q64 P l K c (get l t::b) w
 | .cell a t::c,b,w=>Y7 P t (get l a) w fun v=>Q64 P l K c (v::b) w
def Q3e:List Value→Value
 | [v]=>v
 | vs=> .tuple vs.toArray
noncomputable def results (P:Program) (a:List ResultVar) (K:Value→World→Prop) (l:List Value) (w:World):Prop:=
 Q64 P l (fun vs w=>K (Q3e vs) w) a [] w
noncomputable def Q8q (P:Program) (fn:Func) (K:Value→World→Prop):Hi
 | .normal,l,w | .ret,l,w=>results P fn.results.toList K l w
 | _,_,_=>False
def X1b (K:Value→World→Prop) (e:Ending) (w:World):Prop:=match e with | .returned v=>K v w | _=>False
theorem Q5M (a:Array Value) (t:Nat):a.getD t undef=get a.toList t:=by
 simp[get,List.getD_eq_getElem?_getD]
theorem Q9j (vs:List Value):(if h:vs.toArray.size=1 then vs.toArray[0] else Value.tuple vs.toArray)=Q3e vs:=by
 match vs with
 | []=>rfl
 | [v]=>rfl
 | _::_::_=>rfl
theorem Q2E (P:Program) (l:List Value) (K:List Value→World→Prop) (f:ResultVar→Sem Value)
 (d: ∀t,f (.tmp t)=Pure.pure (get l t)) (c: ∀a t,f (.cell a t)=(do loadVar t (←asAddr (get l a)))): ∀(e:List ResultVar) (b:List Value) (w:World),Q64 P l K e b w→
 ∃vs,(e.mapM f).run P w= .ok vs w∧K (b.reverse++vs) w
 | [],b,w,h=>⟨[],by simp,by rw[List.append_nil];exact h⟩
 | .tmp t::e,b,w,h=>by
  obtain ⟨vs,i,g⟩:=Q2E P l K f d c e _ w h
  refine ⟨get l t::vs,?_,by simpa using g⟩
  rw[List.mapM_cons,d]
  simp[i]
 | .cell a t::e,b,w,h=>by
  simp only[Q64,Q2R] at h
  obtain ⟨v,j,h⟩:=h
  obtain ⟨vs,i,g⟩:=Q2E P l K f d c e _ w h
  refine ⟨v::vs,?_,by simpa using g⟩
  rw[List.mapM_cons,c,Sem.run_bind,j]
  simp[i]
def X2S (a:Array Value):ResultVar→Sem Value
 | .tmp t=>Pure.pure (a.getD t undef)
 | .cell b t=>do loadVar t (←asAddr (a.getD b undef))
theorem Q5N (fn:Func) (a:Array Value):Go.results fn a=(do
 let vs←fn.results.mapM (X2S a)
 Pure.pure (if h:vs.size=1 then vs[0] else .tuple vs)):=by
 unfold Go.results
 congr 1
theorem Q2r (P:Program) (fn:Func) (K:Value→World→Prop) (a:Array Value) (w:World) (h:results P fn.results.toList K a.toList w):
 ∃v,(Go.results fn a).run P w= .ok v w∧K v w:=by
 rw[Q5N,Array.mapM_eq_mapM_toList]
 obtain ⟨vs,c,b⟩:=Q2E P a.toList (fun vs w=>K (Q3e vs) w) (X2S a) (fun t=>by rw[←Q5M];rfl) (fun d t=>by rw[←Q5M];rfl) fn.results.toList [] w h
 refine ⟨Q3e vs,?_,by simpa using b⟩
 rw[Sem.run_bind,Sem.run_map,c]
 simp only[Result.andThen_ok,Sem.run_pure,Q9j]
def Q14 (fn:Func) (a:List Value):List Value:=a++List.replicate (fn.ntmps-a.length) undef
theorem Q5X {P:Program} {f:FuncId} {fn:Func} {c:Code} {b:List Value} {w:World} {K:Value→World→Prop} (d:List (Option (List Nat)))
 (k:P.funcs[f]? =some fn) (j:fn.body=some c) (h:De P d 0 c (Q8q P fn K) (Q14 fn b) w):Calls P f b.toArray w (X1b K):=by
 refine calls_of_wp k j (wp_mono (X0f P d c 0 (Q8q P fn K) _ w rfl ?_) ?_)
 ·have:(b.toArray++Array.replicate (fn.ntmps-b.toArray.size) undef).toList=Q14 fn b:=by simp[Q14]
  simp only[this];exact h
 ·intro e a w ⟨i,g⟩
  cases e with
  | normal=>exact ⟨i,Q2r P fn K _ _ g⟩
  | ret=>exact ⟨i,Q2r P fn K _ _ g⟩
  | _=>exact g.elim
theorem Wo {P:Program} {f:FuncId} {fn:Func} {a:List Value} {w:World} {K:Value→World→Prop}
 (k:P.funcs[f]? =some fn) (d:fn.body.isSome=true) (j:(fn.name== "runtime.NumGoroutine")=false) (h:Calls P f a.toArray w (X1b K)):Q1 P f a w K:=by
 have i:(callFunc f a.toArray).run P w= .ok (.enter f a.toArray) w:=by
  unfold callFunc
  simp only[Sem.run_bind,run_program,Result.andThen_ok,k,j,Bool.false_eq_true,if_false]
  cases b:fn.body with
  | none=>rw[b] at d;cases d
  | some c=>simp
 unfold Q1
 rw[A9]
 unfold T2
 rw[i]
 refine h.mono fun e w' g=>?_
 cases e<;>exact g
theorem Q3Z {P:Program} {f:FuncId} {fn:Func} {a:List Value} {w:World} {K:Value→World→Prop}
 (k:P.funcs[f]? =some fn) (d:fn.body.isSome=true) (j:(fn.name== "runtime.NumGoroutine")=false) (h:Q1 P f a w K):Calls P f a.toArray w (X1b K):=by
 have i:(callFunc f a.toArray).run P w= .ok (.enter f a.toArray) w:=by
  unfold callFunc
  simp only[Sem.run_bind,run_program,Result.andThen_ok,k,j,Bool.false_eq_true,if_false]
  cases b:fn.body with
  | none=>rw[b] at d;cases d
  | some c=>simp
 unfold Q1 at h
 rw[A9] at h
 unfold T2 at h
 rw[i] at h
 refine Calls.mono h fun e w' g=>?_
 cases e<;>exact g
theorem X2x {P:Program} {f:FuncId} {fn:Func} {b:List Value} {w:World} {K:Value→World→Prop} (a:V9)
 (g:P.funcs[f]? =some fn) (d:fn.body.isSome=true) (i:(fn.name== "runtime.NumGoroutine")=false)
 (h:Ws P a a.slots 0 (fn.body.getD .skip) (Q8q P fn K) (Q14 fn b) w):Q1 P f b w K:=by
 refine Wo g d i ?_
 obtain ⟨c,e⟩:=Option.isSome_iff_exists.1 d
 rw[e] at h
 exact Q5X a.slots g e (X15 P a c 0 _ _ _ _ (fun _ _ _ h=>h) h)
theorem Q9 {P:Program} {f:FuncId} {fn:Func} {a:List Value} {w:World} {K:Value→World→Prop} {g:Prop} (b:V9)
 (i:P.funcs[f]? =some fn) (c:fn.body.isSome=true) (d:(fn.name== "runtime.NumGoroutine")=false)
 (e:g=Ws P b b.slots 0 (fn.body.getD .skip) (Q8q P fn K) (Q14 fn a) w) (h:g):Q1 P f a w K:=
 X2x b i c d (e▸h)
theorem Z7 {P:Program} {f:FuncId} {first caps:List Value} {a:List Value} {w:World} {K:Value→World→Prop} (h:Q1 P f (first++a++caps) w K):Z3 P (.func (.func f) first.toArray caps.toArray) a w K:=by
 simpa [Z3,Q1,Deferred.ofValue,invoke,pure_bind,List.append_toArray] using h
end Go.Emb

namespace Go.Proofs.YtjdiakhipmggjaaGreatDoor
noncomputable abbrev P : Program := Tryz.prog
namespace F
abbrev cd : Nat := 4
abbrev cL : Nat := 12
abbrev aA : Nat := 13
abbrev ah : Nat := 14
abbrev cM : Nat := 15
abbrev c1 : Nat := 16
abbrev c2 : Nat := 17
abbrev ae : Nat := 18
abbrev aB : Nat := 20
abbrev bM : Nat := 21
abbrev b3 : Nat := 22
abbrev bA : Nat := 23
abbrev ai : Nat := 24
abbrev aC : Nat := 25
abbrev aj : Nat := 26
abbrev af : Nat := 27
abbrev aO : Nat := 28
abbrev c3 : Nat := 29
abbrev aq : Nat := 30
abbrev bh : Nat := 31
abbrev b4 : Nat := 32
abbrev aI : Nat := 33
abbrev aP : Nat := 34
abbrev bB : Nat := 35
abbrev a2 : Nat := 36
abbrev aQ : Nat := 37
abbrev c4 : Nat := 40
abbrev cD : Nat := 41
abbrev cw : Nat := 42
abbrev cx : Nat := 43
abbrev j : Nat := 44
abbrev bb : Nat := 45
abbrev o : Nat := 46
abbrev bk : Nat := 47
abbrev bl : Nat := 48
abbrev b5 : Nat := 49
abbrev aR : Nat := 50
abbrev aG : Nat := 51
abbrev aD : Nat := 52
abbrev n : Nat := 53
abbrev cr : Nat := 54
abbrev bC : Nat := 55
abbrev bN : Nat := 56
abbrev bc : Nat := 57
abbrev bm : Nat := 58
abbrev bO : Nat := 59
abbrev bP : Nat := 60
abbrev bQ : Nat := 61
abbrev bR : Nat := 62
abbrev bS : Nat := 63
abbrev aZ : Nat := 64
abbrev aJ : Nat := 65
abbrev aE : Nat := 66
abbrev b6 : Nat := 67
abbrev cQ : Nat := 68
abbrev s : Nat := 69
abbrev aS : Nat := 70
abbrev bD : Nat := 71
abbrev b7 : Nat := 72
abbrev p : Nat := 73
abbrev bE : Nat := 74
abbrev k : Nat := 75
abbrev bF : Nat := 76
abbrev cE : Nat := 77
abbrev cy : Nat := 78
abbrev a7 : Nat := 79
abbrev ab : Nat := 80
abbrev c7 : Nat := 81
abbrev h : Nat := 82
abbrev b8 : Nat := 83
abbrev w : Nat := 84
abbrev c8 : Nat := 85
abbrev c : Nat := 86
abbrev y : Nat := 87
abbrev aH : Nat := 88
abbrev bn : Nat := 89
abbrev am : Nat := 90
abbrev an : Nat := 91
abbrev aY : Nat := 92
abbrev a : Nat := 93
abbrev aK : Nat := 94
abbrev cf : Nat := 95
abbrev bd : Nat := 96
abbrev c5 : Nat := 97
abbrev a8 : Nat := 98
abbrev bo : Nat := 99
abbrev bp : Nat := 100
abbrev b : Nat := 101
abbrev be : Nat := 102
abbrev ak : Nat := 103
abbrev b0 : Nat := 104
abbrev b9 : Nat := 105
abbrev a0 : Nat := 106
abbrev a1 : Nat := 107
abbrev aL : Nat := 108
abbrev aN : Nat := 109
abbrev bq : Nat := 110
abbrev x : Nat := 111
abbrev bG : Nat := 113
abbrev z : Nat := 114
abbrev cu : Nat := 115
abbrev bH : Nat := 116
abbrev q : Nat := 117
abbrev e : Nat := 118
abbrev a3 : Nat := 119
abbrev ag : Nat := 120
abbrev cm : Nat := 121
abbrev cn : Nat := 122
abbrev a9 : Nat := 123
abbrev al : Nat := 124
abbrev aT : Nat := 125
abbrev co : Nat := 126
abbrev aF : Nat := 127
abbrev cp : Nat := 128
abbrev ar : Nat := 129
abbrev cq : Nat := 130
abbrev au : Nat := 131
abbrev bz : Nat := 132
abbrev bT : Nat := 133
abbrev ao : Nat := 134
abbrev ba : Nat := 135
abbrev ac : Nat := 136
abbrev ad : Nat := 137
abbrev v : Nat := 138
abbrev c9 : Nat := 139
abbrev i : Nat := 140
abbrev cg : Nat := 141
abbrev g : Nat := 142
abbrev cN : Nat := 143
abbrev cA : Nat := 144
abbrev aU : Nat := 145
abbrev bI : Nat := 146
abbrev bJ : Nat := 147
abbrev br : Nat := 148
abbrev bs : Nat := 149
abbrev bt : Nat := 150
abbrev aV : Nat := 151
abbrev bf : Nat := 152
abbrev aW : Nat := 153
abbrev r : Nat := 154
abbrev cv : Nat := 155
abbrev cR : Nat := 156
abbrev ch : Nat := 157
abbrev ap : Nat := 158
abbrev cO : Nat := 159
abbrev d : Nat := 160
abbrev av : Nat := 161
abbrev ci : Nat := 162
abbrev c6 : Nat := 163
abbrev cj : Nat := 164
abbrev cs : Nat := 165
abbrev f : Nat := 166
abbrev ca : Nat := 167
abbrev bW : Nat := 168
abbrev bX : Nat := 169
abbrev bU : Nat := 170
abbrev bi : Nat := 171
abbrev aw : Nat := 172
abbrev bj : Nat := 173
abbrev cF : Nat := 174
abbrev ax : Nat := 175
abbrev cS : Nat := 179
abbrev ce : Nat := 180
abbrev u : Nat := 181
abbrev a4 : Nat := 182
abbrev b1 : Nat := 183
abbrev aM : Nat := 184
abbrev bK : Nat := 185
abbrev bu : Nat := 186
abbrev az : Nat := 187
abbrev aX : Nat := 190
abbrev cB : Nat := 191
abbrev cb : Nat := 192
abbrev ck : Nat := 193
abbrev l : Nat := 194
abbrev bY : Nat := 195
abbrev cl : Nat := 196
abbrev cJ : Nat := 197
abbrev m : Nat := 198
abbrev bZ : Nat := 199
abbrev aa : Nat := 202
abbrev b2 : Nat := 203
abbrev cc : Nat := 204
abbrev a5 : Nat := 208
abbrev cK : Nat := 209
abbrev cC : Nat := 210
abbrev cG : Nat := 211
abbrev a6 : Nat := 212
abbrev bv : Nat := 215
abbrev cT : Nat := 219
abbrev ct : Nat := 220
abbrev t : Nat := 221
abbrev cP : Nat := 222
abbrev cz : Nat := 224
abbrev bw : Nat := 225
abbrev bx : Nat := 226
abbrev ay : Nat := 227
abbrev bL : Nat := 228
abbrev cH : Nat := 229
abbrev bg : Nat := 230
abbrev c0 : Nat := 231
abbrev cI : Nat := 232
abbrev bV : Nat := 233
end F
namespace T
abbrev x : Nat := 0
abbrev a1 : Nat := 2
abbrev e : Nat := 3
abbrev t : Nat := 4
abbrev a3 : Nat := 5
abbrev c : Nat := 9
abbrev av : Nat := 12
abbrev an : Nat := 21
abbrev r : Nat := 22
abbrev y : Nat := 23
abbrev i : Nat := 26
abbrev a5 : Nat := 29
abbrev f : Nat := 33
abbrev g : Nat := 37
abbrev aq : Nat := 43
abbrev z : Nat := 44
abbrev a : Nat := 46
abbrev m : Nat := 51
abbrev h : Nat := 54
abbrev k : Nat := 65
abbrev n : Nat := 69
abbrev ak : Nat := 74
abbrev l : Nat := 76
abbrev o : Nat := 78
abbrev a2 : Nat := 80
abbrev a0 : Nat := 82
abbrev j : Nat := 83
abbrev b : Nat := 85
abbrev a4 : Nat := 88
abbrev a7 : Nat := 91
abbrev v : Nat := 94
abbrev q : Nat := 95
abbrev s : Nat := 96
abbrev d : Nat := 98
abbrev p : Nat := 100
abbrev ac : Nat := 120
abbrev ao : Nat := 126
abbrev w : Nat := 136
abbrev a9 : Nat := 139
abbrev ae : Nat := 140
abbrev a8 : Nat := 146
abbrev a6 : Nat := 148
abbrev au : Nat := 154
abbrev aj : Nat := 156
abbrev al : Nat := 157
abbrev aa : Nat := 165
abbrev ag : Nat := 168
abbrev u : Nat := 172
abbrev ax : Nat := 184
abbrev ab : Nat := 190
abbrev ah : Nat := 197
abbrev ai : Nat := 200
abbrev ar : Nat := 203
abbrev am : Nat := 205
abbrev aw : Nat := 220
abbrev ad : Nat := 225
abbrev af : Nat := 226
abbrev ap : Nat := 235
abbrev ay : Nat := 241
end T
namespace G
abbrev b : Nat := 0
abbrev e : Nat := 1
abbrev d : Nat := 2
abbrev a : Nat := 3
abbrev c : Nat := 4
end G
end Go.Proofs.YtjdiakhipmggjaaGreatDoor

set_option maxRecDepth 100000
namespace Go.Proofs.YtjdiakhipmggjaaGreatDoor
open Go.Emb
def Q63:V9:=[none,none,none,none,some ([1,10],[1,3,10,11,12,13,14,15,16,17,18]),none,none,none,none,none]
def Q13 (w:World) (K:Value→World→Prop):Prop:= H2 P T.b [(0,(.string ⟨#[79,98,106,101,99,116]⟩))] w fun i w=>H2 P T.n [(0,(.string ⟨#[119,104,97,116]⟩)),(1,(.string ⟨#[116,101,120,116]⟩))] w fun j w=>buildSlice P T.k 1 [(0,j)] w fun m w=>H2 P T.b [(0,(.string ⟨#[70,97,117,108,116]⟩)),(1,(.string ⟨#[79,98,106,101,99,116]⟩)),(6,m)] w fun l w=>buildSlice P T.i 2 [(0,i),(1,l)] w fun n w=>Q2 P T.ao (.pointer (some ⟨G.b,0,none⟩)) w fun k w=>lp (α:=Value×Value) (n,(.int .i64 0)) w fun a b o w=>Q3 P .lss T.e (.tmp 10) (.const (.int .i64 6)) b.2 (.int .i64 6) w fun e w=>X1 e (C3 P T.ao k b.2 w fun g w=>H2 P T.b [(0,g),(1,(.string ⟨#[70,97,117,108,116]⟩)),(5,(.bool true))] w fun f w=>buildSlice P T.i 1 [(0,f)] w fun h w=>X3 P .append [T.i,T.i] T.i [false,false] [b.1,h] w fun d w=>Q3 P .add T.e (.tmp 10) (.const (.int .i64 1)) b.2 (.int .i64 1) w fun c w=>a (d,c) w) (K b.1 w)
theorem Q5A {w:World} {K:Value→World→Prop} (h:Q13 w K):Q1 P F.cD [] w K:=Q9 Q63 Tryz.func41 rfl (by decide) (by kernel_rfl) h
def Q5f:V9:=[none,none,none,some ([8],[2,4,8,9,10,11,12,13,14,15,16,17,18,19,20,21,22,23,24,25,26,27,28,29,30,31,32,33]),none,none,none,none,none,none,none]
def Q0Y (X:Value) (w:World) (K:Value→World→Prop):Prop:= box P T.b X w fun b w=>fieldAddr P T.b b 7 w fun t5 w=>Q2 P T.j t5 w fun W w=>X3 P .len [T.j] T.e [false] [W] w fun Z w=>lp (α:=Value) (.int .i64 0) w fun h v d_ w=>Q3 P .lss T.e (.tmp 8) (.tmp 7) v Z w fun Y w=>X1 Y (indexAddr P T.j W v w fun V w=>Q2 P T.d V w fun A w=>W0 P T.d w fun a w=>Y0 P T.d a A w fun _u w=>fieldAddr P T.d a 1 w fun R w=>Q2 P T.h R w fun N w=>X3 P .len [T.h] T.e [false] [N] w fun k w=>Q3 P .gtr T.e (.tmp 14) (.const (.int .i64 32)) k (.int .i64 32) w fun d w=>Q0 d false w (fieldAddr P T.d a 6) fun J w=>Q0 d false w (Q2 P T.s J) fun o w=>Q0 d false w (X3 P .len [T.s] T.e [false] [o]) fun p w=>Q0 d false w (Q3 P .gtr T.e (.tmp 19) (.const (.int .i64 32)) p (.int .i64 32)) fun H w=>pick P d (.bool true) H w fun e w=>Q0 e false w (fieldAddr P T.d a 5) fun U w=>Q0 e false w (Q2 P T.q U) fun n w=>Q0 e false w (X3 P .len [T.q] T.e [false] [n]) fun y w=>Q0 e false w (Q3 P .gtr T.e (.tmp 25) (.const (.int .i64 200)) y (.int .i64 200)) fun u w=>pick P e (.bool true) u w fun g w=>Q0 g false w (fieldAddr P T.d a 4) fun i w=>Q0 g false w (Q2 P T.e i) fun O w=>Q0 g false w (Q3 P .gtr T.e (.tmp 30) (.const (.int .i64 64)) O (.int .i64 64)) fun j w=>pick P g (.bool true) j w fun s w=>X1 s (K (.bool true) w) (Q3 P .add T.e (.tmp 8) (.const (.int .i64 1)) v (.int .i64 1) w fun r w=>h r w)) (fieldAddr P T.b b 2 w fun Q w=>Q2 P T.h Q w fun t w=>X3 P .len [T.h] T.e [false] [t] w fun D w=>Q3 P .gtr T.e (.tmp 36) (.const (.int .i64 32)) D (.int .i64 32) w fun f w=>Q0 f false w (fieldAddr P T.b b 6) fun C w=>Q0 f false w (Q2 P T.k C) fun m w=>Q0 f false w (X3 P .len [T.k] T.e [false] [m]) fun q w=>Q0 f false w (Q3 P .gtr T.e (.tmp 41) (.const (.int .i64 32)) q (.int .i64 32)) fun l w=>pick P f (.bool true) l w fun c w=>Q0 c false w (fieldAddr P T.b b 7) fun L w=>Q0 c false w (Q2 P T.j L) fun B w=>Q0 c false w (X3 P .len [T.j] T.e [false] [B]) fun M w=>Q0 c false w (Q3 P .gtr T.e (.tmp 47) (.const (.int .i64 32)) M (.int .i64 32)) fun E w=>pick P c (.bool true) E w fun z w=>K z w)
theorem Q6o {a:Value} {w:World} {K:Value→World→Prop} (h:Q0Y a w K):Q1 P F.cE [a] w K:=Q9 Q5f Tryz.func77 rfl (by decide) (by kernel_rfl) h
def Xw:V9:=[none,none,none,some ([8],[4,5,8,9,10,11,12,13,14,15,16,17,18]),none,none,none,none,none,none,none]
def B7 (g j:Value) (w:World) (K:Value→World→Prop):Prop:= X3 P .len [T.j] T.e [false] [g] w fun i w=>lp (α:=Value) (.int .i64 0) w fun a b k w=>Q3 P .lss T.e (.tmp 8) (.tmp 7) b i w fun h w=>X1 h (indexAddr P T.j g b w fun d w=>Q2 P T.d d w fun e w=>Z3 P j [e] w fun f w=>X1 f (K b w) (Q3 P .add T.e (.tmp 8) (.const (.int .i64 1)) b (.int .i64 1) w fun c w=>a c w)) (K (.int .i64 (-1)) w)
theorem Xx {a b:Value} {w:World} {K:Value→World→Prop} (h:B7 a b w K):Q1 P F.g [a,b] w K:=Q9 Xw Tryz.func142 rfl (by decide) (by kernel_rfl) h
def S9 (a c:Value) (w:World) (K:Value→World→Prop):Prop:= Q1 P F.g [a,c] w fun b w=>Q3 P .geq T.e (.tmp 7) (.const (.int .i64 0)) b (.int .i64 0) w fun d w=>K d w
theorem Ql {a b:Value} {w:World} {K:Value→World→Prop} (h:S9 a b w K):Q1 P F.a [a,b] w K:=Q9 (List.replicate 2 none) Tryz.func93 rfl (by decide) (by kernel_rfl) h
def Lz:V9:=[none,none,none,some ([8],[4,5,8,9,10,11,12,13,14,15,16,17,18]),none,none,none,none,none,none,none]
def Qk (g j:Value) (w:World) (K:Value→World→Prop):Prop:= X3 P .len [T.h] T.e [false] [g] w fun i w=>lp (α:=Value) (.int .i64 0) w fun a b k w=>Q3 P .lss T.e (.tmp 8) (.tmp 7) b i w fun h w=>X1 h (indexAddr P T.h g b w fun d w=>Q2 P T.c d w fun e w=>Q3 P .eql T.c (.tmp 11) (.tmp 15) j e w fun f w=>X1 f (K b w) (Q3 P .add T.e (.tmp 8) (.const (.int .i64 1)) b (.int .i64 1) w fun c w=>a c w)) (K (.int .i64 (-1)) w)
theorem Me {a b:Value} {w:World} {K:Value→World→Prop} (h:Qk a b w K):Q1 P F.av [a,b] w K:=Q9 Lz Tryz.func161 rfl (by decide) (by kernel_rfl) h
def T4 (a c:Value) (w:World) (K:Value→World→Prop):Prop:= Q1 P F.av [a,c] w fun b w=>Q3 P .geq T.e (.tmp 7) (.const (.int .i64 0)) b (.int .i64 0) w fun d w=>K d w
theorem Vr {a b:Value} {w:World} {K:Value→World→Prop} (h:T4 a b w K):Q1 P F.ag [a,b] w K:=Q9 (List.replicate 2 none) Tryz.func120 rfl (by decide) (by kernel_rfl) h
def Bb (d:Value) (w:World) (K:Value→World→Prop):Prop:= box P T.d d w fun a w=>fieldAddr P T.d a 3 w fun b w=>Q2 P T.t b w fun c w=>K c w
theorem Q3A {a:Value} {w:World} {K:Value→World→Prop} (h:Bb a w K):Q1 P F.cm [a] w K:=Q9 (List.replicate 2 none) Tryz.func121 rfl (by decide) (by kernel_rfl) h
def Bl (d:Value) (w:World) (K:Value→World→Prop):Prop:= box P T.d d w fun a w=>fieldAddr P T.d a 3 w fun b w=>Q2 P T.t b w fun c w=>J9 P .not c w fun e w=>K e w
theorem Q2Z {a:Value} {w:World} {K:Value→World→Prop} (h:Bl a w K):Q1 P F.cn [a] w K:=Q9 (List.replicate 2 none) Tryz.func122 rfl (by decide) (by kernel_rfl) h
def Vj:V9:=[none,none,none,some ([8],[4,5,8,9,10,11,12,13,14,15,16,17,18]),none,none,none,none,none,none,none]
def T0 (g j:Value) (w:World) (K:Value→World→Prop):Prop:= X3 P .len [T.h] T.e [false] [g] w fun i w=>lp (α:=Value) (.int .i64 0) w fun a b k w=>Q3 P .lss T.e (.tmp 8) (.tmp 7) b i w fun h w=>X1 h (indexAddr P T.h g b w fun d w=>Q2 P T.c d w fun e w=>Z3 P j [e] w fun f w=>X1 f (K b w) (Q3 P .add T.e (.tmp 8) (.const (.int .i64 1)) b (.int .i64 1) w fun c w=>a c w)) (K (.int .i64 (-1)) w)
theorem Vk {a b:Value} {w:World} {K:Value→World→Prop} (h:T0 a b w K):Q1 P F.v [a,b] w K:=Q9 Vj Tryz.func138 rfl (by decide) (by kernel_rfl) h
def K1 (a c:Value) (w:World) (K:Value→World→Prop):Prop:= Q1 P F.v [a,c] w fun b w=>Q3 P .geq T.e (.tmp 7) (.const (.int .i64 0)) b (.int .i64 0) w fun d w=>K d w
theorem Jg {a b:Value} {w:World} {K:Value→World→Prop} (h:K1 a b w K):Q1 P F.c [a,b] w K:=Q9 (List.replicate 2 none) Tryz.func86 rfl (by decide) (by kernel_rfl) h
def Vx (b e:Value) (w:World) (K:Value→World→Prop):Prop:= Q2 P T.a4 e w fun a w=>Z3 P a [b] w fun d w=>J9 P .not d w fun c w=>K c w
theorem Bw {a b:Value} {w:World} {K:Value→World→Prop} (h:Vx a b w K):Q1 P F.ci [a,b] w K:=Q9 (List.replicate 2 none) Tryz.func162 rfl (by decide) (by kernel_rfl) h
def Nn (b e:Value) (w:World) (K:Value→World→Prop):Prop:= box P T.a4 e w fun a w=>E7 P (.func F.ci) [] [a] w fun d w=>Q1 P F.c [b,d] w fun c w=>J9 P .not c w fun f w=>K f w
theorem Iw {a b:Value} {w:World} {K:Value→World→Prop} (h:Nn a b w K):Q1 P F.a9 [a,b] w K:=Q9 (List.replicate 2 none) Tryz.func123 rfl (by decide) (by kernel_rfl) h
def Q8U:V9:=[none,none,none,some ([],[4,6,9,10,11,12,13,14,15]),none,none,none,none,none,none]
def Q2T (g h:Value) (w:World) (K:Value→World→Prop):Prop:= rng P T.c g w fun i w=>lp (α:=Unit) () w fun a j k w=>V1 P i true T.x w fun f w=>ext P f 0 w fun e w=>X1 e (ext P f 2 w fun b w=>Z3 P h [b] w fun c w=>J9 P .not c w fun d w=>X1 d (K (.bool false) w) (a () w)) (K (.bool true) w)
theorem Q85 {a b:Value} {w:World} {K:Value→World→Prop} (h:Q2T a b w K):Q1 P F.cB [a,b] w K:=Q9 Q8U Tryz.func191 rfl (by decide) (by kernel_rfl) h
def Q0Q (b:Value) (w:World) (K:Value→World→Prop):Prop:= Q3 P .geq T.an (.tmp 3) (.const (.int .i32 65)) b (.int .i32 65) w fun a w=>Q0 a true w (fun w J=>J b w) fun d w=>Q0 a true w (Q3 P .leq T.an (.tmp 6) (.const (.int .i32 90)) d (.int .i32 90)) fun c w=>pick P a c (.bool false) w fun e w=>K e w
theorem Q5b {a:Value} {w:World} {K:Value→World→Prop} (h:Q0Q a w K):Q1 P F.cj [a] w K:=Q9 (List.replicate 2 none) Tryz.func164 rfl (by decide) (by kernel_rfl) h
def Q0h (b:Value) (w:World) (K:Value→World→Prop):Prop:= Q3 P .geq T.an (.tmp 3) (.const (.int .i32 97)) b (.int .i32 97) w fun a w=>Q0 a true w (fun w J=>J b w) fun d w=>Q0 a true w (Q3 P .leq T.an (.tmp 6) (.const (.int .i32 122)) d (.int .i32 122)) fun c w=>pick P a c (.bool false) w fun e w=>K e w
theorem Q6a {a:Value} {w:World} {K:Value→World→Prop} (h:Q0h a w K):Q1 P F.ck [a] w K:=Q9 (List.replicate 2 none) Tryz.func193 rfl (by decide) (by kernel_rfl) h
def Tq (c:Value) (w:World) (K:Value→World→Prop):Prop:= Q1 P F.cj [c] w fun d w=>Q0 d false w (fun w J=>J c w) fun l w=>Q0 d false w (Q1 P F.ck [l]) fun k w=>pick P d (.bool true) k w fun b w=>Q0 b false w (fun w J=>J c w) fun j w=>Q0 b false w (Q3 P .geq T.an (.tmp 10) (.const (.int .i32 48)) j (.int .i32 48)) fun e w=>Q0 b false w (fun w J=>J e w) fun a w=>Q0 a true w (fun w J=>J c w) fun h w=>Q0 a true w (Q3 P .leq T.an (.tmp 13) (.const (.int .i32 57)) h (.int .i32 57)) fun f w=>Q0 b false w (pick P a f (.bool false)) fun g w=>pick P b (.bool true) g w fun i w=>K i w
theorem Q4Z {a:Value} {w:World} {K:Value→World→Prop} (h:Tq a w K):Q1 P F.cb [a] w K:=Q9 (List.replicate 2 none) Tryz.func192 rfl (by decide) (by kernel_rfl) h
def Q2e (c:Value) (w:World) (K:Value→World→Prop):Prop:= Q3 P .eql T.c (.tmp 3) (.const (.string ⟨#[]⟩)) c (.string ⟨#[]⟩) w fun d w=>Q0 d false w (fun w J=>J c w) fun n w=>Q0 d false w (X3 P .len [T.c] T.e [false] [n]) fun o w=>Q0 d false w (Q3 P .gtr T.e (.tmp 7) (.const (.int .i64 32)) o (.int .i64 32)) fun p w=>pick P d (.bool true) p w fun b w=>Q0 b false w (fun w J=>J c w) fun i w=>Q0 b false w (C3 P T.c i (.int .i64 0)) fun m w=>Q0 b false w (Q3 P .geq T.a3 (.tmp 12) (.const (.int .u8 48)) m (.int .u8 48)) fun l w=>Q0 b false w (fun w J=>J l w) fun a w=>Q0 a true w (fun w J=>J c w) fun e w=>Q0 a true w (C3 P T.c e (.int .i64 0)) fun j w=>Q0 a true w (Q3 P .leq T.a3 (.tmp 16) (.const (.int .u8 57)) j (.int .u8 57)) fun k w=>Q0 b false w (pick P a k (.bool false)) fun f w=>pick P b (.bool true) f w fun g w=>X1 g (K (.bool false) w) (Q1 P F.cB [c,(.func (.func F.cb) #[] #[])] w fun h w=>K h w)
theorem Q70 {a:Value} {w:World} {K:Value→World→Prop} (h:Q2e a w K):Q1 P F.c6 [a] w K:=Q9 (List.replicate 5 none) Tryz.func163 rfl (by decide) (by kernel_rfl) h
def Q0K (c:Value) (w:World) (K:Value→World→Prop):Prop:= Q1 P F.c6 [c] w fun a w=>Q0 a true w (fun w J=>J c w) fun f w=>Q0 a true w (C3 P T.c f (.int .i64 0)) fun e w=>Q0 a true w (conv P T.a3 T.an e) fun g w=>Q0 a true w (Q1 P F.cj [g]) fun d w=>pick P a d (.bool false) w fun b w=>K b w
theorem Q6v {a:Value} {w:World} {K:Value→World→Prop} (h:Q0K a w K):Q1 P F.al [a] w K:=Q9 (List.replicate 2 none) Tryz.func124 rfl (by decide) (by kernel_rfl) h
def Lm (o l n:Value) (w:World) (K:Value→World→Prop):Prop:= dr w fun a b=>Q5 a (fun d=> ∀w,b w→Q2 P T.ac l w (dk a d w)) fun d=>Q5 a (fun h=> ∀c w,b w→d c w→Z3 P c [o] w (dk a h w)) fun h=>Q5 a (fun g=> ∀w,b w→Q2 P T.ac l w (dk a g w)) fun g=>Q5 a (fun e=> ∀w,b w→Q2 P T.c n w (dk a e w)) fun e=>∀c k m j w,b w→d c w→h k w→g m w→e j w→ Z3 P m [j] w fun i w=>Q3 P .eql T.c (.tmp 7) (.tmp 10) k i w fun f w=>K f w
theorem Fv {b c a:Value} {w:World} {K:Value→World→Prop} (h:Lm b c a w K):Q1 P F.cs [b,c,a] w K:=Q9 (List.replicate 2 none) Tryz.func165 rfl (by decide) (by kernel_rfl) h
def Ty:V9:=[none,none,none,some ([9],[4,5,6,9,10,11,12,13,14,15,16,17,18,19]),none,none,none,none,none,none,none]
def Oq (i m:Value) (w:World) (K:Value→World→Prop):Prop:= box P T.ac m w fun a w=>X3 P .len [T.h] T.e [false] [i] w fun n w=>lp (α:=Value) (.int .i64 0) w fun c d o w=>Q3 P .lss T.e (.tmp 9) (.tmp 8) d n w fun l w=>X1 l (indexAddr P T.h i d w fun j w=>Q2 P T.c j w fun h w=>W0 P T.c w fun b w=>Y0 P T.c b h w fun _u w=>R7 P T.h i none (some d) none w fun k w=>E7 P (.func F.cs) [] [a,b] w fun g w=>Q1 P F.c [k,g] w fun e w=>X1 e (K (.bool false) w) (Q3 P .add T.e (.tmp 9) (.const (.int .i64 1)) d (.int .i64 1) w fun f w=>c f w)) (K (.bool true) w)
theorem Ar {a b:Value} {w:World} {K:Value→World→Prop} (h:Oq a b w K):Q1 P F.aT [a,b] w K:=Q9 Ty Tryz.func125 rfl (by decide) (by kernel_rfl) h
def Q3g (a:Value) (w:World) (K:Value→World→Prop):Prop:= K a w
theorem Q36 {a:Value} {w:World} {K:Value→World→Prop} (h:Q3g a w K):Q1 P F.co [a] w K:=Q9 (List.replicate 2 none) Tryz.func126 rfl (by decide) (by kernel_rfl) h
def Ys:V9:=[none,none,none,some ([8],[4,5,8,9,10,11,12,13,14,15,16,17,18]),none,none,none,none,none,none,none]
def G3 (g j:Value) (w:World) (K:Value→World→Prop):Prop:= X3 P .len [T.k] T.e [false] [g] w fun i w=>lp (α:=Value) (.int .i64 0) w fun a b k w=>Q3 P .lss T.e (.tmp 8) (.tmp 7) b i w fun h w=>X1 h (indexAddr P T.k g b w fun d w=>Q2 P T.n d w fun e w=>Z3 P j [e] w fun f w=>X1 f (K b w) (Q3 P .add T.e (.tmp 8) (.const (.int .i64 1)) b (.int .i64 1) w fun c w=>a c w)) (K (.int .i64 (-1)) w)
theorem Yx {a b:Value} {w:World} {K:Value→World→Prop} (h:G3 a b w K):Q1 P F.i [a,b] w K:=Q9 Ys Tryz.func140 rfl (by decide) (by kernel_rfl) h
def B0 (a c:Value) (w:World) (K:Value→World→Prop):Prop:= Q1 P F.i [a,c] w fun b w=>Q3 P .geq T.e (.tmp 7) (.const (.int .i64 0)) b (.int .i64 0) w fun d w=>K d w
theorem Xf {a b:Value} {w:World} {K:Value→World→Prop} (h:B0 a b w K):Q1 P F.f [a,b] w K:=Q9 (List.replicate 2 none) Tryz.func166 rfl (by decide) (by kernel_rfl) h
def Jl (q m r:Value) (w:World) (K:Value→World→Prop):Prop:= box P T.n q w fun b w=>dr w fun a c=>Q5 a (fun f=> ∀w,c w→Q2 P T.aa m w (dk a f w)) fun f=>Q5 a (fun d=> ∀w,c w→Q2 P T.n b w (dk a d w)) fun d=>Q5 a (fun k=> ∀g e w,c w→f g w→d e w→Z3 P g [e] w (dk a k w)) fun k=>Q5 a (fun h=> ∀w,c w→Q2 P T.aa m w (dk a h w)) fun h=>Q5 a (fun i=> ∀w,c w→Q2 P T.n r w (dk a i w)) fun i=>∀g e o p n w,c w→f g w→d e w→k o w→h p w→i n w→ Z3 P p [n] w fun l w=>Q3 P .eql T.c (.tmp 7) (.tmp 10) o l w fun j w=>K j w
theorem Cc {b c a:Value} {w:World} {K:Value→World→Prop} (h:Jl b c a w K):Q1 P F.ca [b,c,a] w K:=Q9 (List.replicate 2 none) Tryz.func167 rfl (by decide) (by kernel_rfl) h
def Bz:V9:=[none,none,none,some ([9],[4,5,6,9,10,11,12,13,14,15,16,17,18,19]),none,none,none,none,none,none,none]
def Vn (i m:Value) (w:World) (K:Value→World→Prop):Prop:= box P T.aa m w fun a w=>X3 P .len [T.k] T.e [false] [i] w fun n w=>lp (α:=Value) (.int .i64 0) w fun c d o w=>Q3 P .lss T.e (.tmp 9) (.tmp 8) d n w fun l w=>X1 l (indexAddr P T.k i d w fun j w=>Q2 P T.n j w fun h w=>W0 P T.n w fun b w=>Y0 P T.n b h w fun _u w=>R7 P T.k i none (some d) none w fun k w=>E7 P (.func F.ca) [] [a,b] w fun g w=>Q1 P F.f [k,g] w fun e w=>X1 e (K (.bool false) w) (Q3 P .add T.e (.tmp 9) (.const (.int .i64 1)) d (.int .i64 1) w fun f w=>c f w)) (K (.bool true) w)
theorem Bt {a b:Value} {w:World} {K:Value→World→Prop} (h:Vn a b w K):Q1 P F.aF [a,b] w K:=Q9 Bz Tryz.func127 rfl (by decide) (by kernel_rfl) h
def Bo (d:Value) (w:World) (K:Value→World→Prop):Prop:= box P T.n d w fun a w=>fieldAddr P T.n a 0 w fun b w=>Q2 P T.c b w fun c w=>K c w
theorem Q3v {a:Value} {w:World} {K:Value→World→Prop} (h:Bo a w K):Q1 P F.cp [a] w K:=Q9 (List.replicate 2 none) Tryz.func128 rfl (by decide) (by kernel_rfl) h
def Ja (q m r:Value) (w:World) (K:Value→World→Prop):Prop:= box P T.d q w fun b w=>dr w fun a c=>Q5 a (fun f=> ∀w,c w→Q2 P T.a9 m w (dk a f w)) fun f=>Q5 a (fun d=> ∀w,c w→Q2 P T.d b w (dk a d w)) fun d=>Q5 a (fun k=> ∀g e w,c w→f g w→d e w→Z3 P g [e] w (dk a k w)) fun k=>Q5 a (fun h=> ∀w,c w→Q2 P T.a9 m w (dk a h w)) fun h=>Q5 a (fun i=> ∀w,c w→Q2 P T.d r w (dk a i w)) fun i=>∀g e o p n w,c w→f g w→d e w→k o w→h p w→i n w→ Z3 P p [n] w fun l w=>Q3 P .eql T.c (.tmp 7) (.tmp 10) o l w fun j w=>K j w
theorem Rh {b c a:Value} {w:World} {K:Value→World→Prop} (h:Ja b c a w K):Q1 P F.bW [b,c,a] w K:=Q9 (List.replicate 2 none) Tryz.func168 rfl (by decide) (by kernel_rfl) h
def Cx:V9:=[none,none,none,some ([9],[4,5,6,9,10,11,12,13,14,15,16,17,18,19]),none,none,none,none,none,none,none]
def Ve (i m:Value) (w:World) (K:Value→World→Prop):Prop:= box P T.a9 m w fun a w=>X3 P .len [T.j] T.e [false] [i] w fun n w=>lp (α:=Value) (.int .i64 0) w fun c d o w=>Q3 P .lss T.e (.tmp 9) (.tmp 8) d n w fun l w=>X1 l (indexAddr P T.j i d w fun j w=>Q2 P T.d j w fun h w=>W0 P T.d w fun b w=>Y0 P T.d b h w fun _u w=>R7 P T.j i none (some d) none w fun k w=>E7 P (.func F.bW) [] [a,b] w fun g w=>Q1 P F.a [k,g] w fun e w=>X1 e (K (.bool false) w) (Q3 P .add T.e (.tmp 9) (.const (.int .i64 1)) d (.int .i64 1) w fun f w=>c f w)) (K (.bool true) w)
theorem Cy {a b:Value} {w:World} {K:Value→World→Prop} (h:Ve a b w K):Q1 P F.ar [a,b] w K:=Q9 Cx Tryz.func129 rfl (by decide) (by kernel_rfl) h
def Bd (d:Value) (w:World) (K:Value→World→Prop):Prop:= box P T.d d w fun a w=>fieldAddr P T.d a 0 w fun b w=>Q2 P T.c b w fun c w=>K c w
theorem Q3y {a:Value} {w:World} {K:Value→World→Prop} (h:Bd a w K):Q1 P F.cq [a] w K:=Q9 (List.replicate 2 none) Tryz.func130 rfl (by decide) (by kernel_rfl) h
def Zy (c g:Value) (w:World) (K:Value→World→Prop):Prop:= box P T.n c w fun a w=>Q2 P T.ag g w fun b w=>Q2 P T.n a w fun d w=>Z3 P b [d] w fun f w=>J9 P .not f w fun e w=>K e w
theorem Hy {a b:Value} {w:World} {K:Value→World→Prop} (h:Zy a b w K):Q1 P F.bX [a,b] w K:=Q9 (List.replicate 2 none) Tryz.func169 rfl (by decide) (by kernel_rfl) h
def Va (b e:Value) (w:World) (K:Value→World→Prop):Prop:= box P T.ag e w fun a w=>E7 P (.func F.bX) [] [a] w fun d w=>Q1 P F.f [b,d] w fun c w=>J9 P .not c w fun f w=>K f w
theorem Ct {a b:Value} {w:World} {K:Value→World→Prop} (h:Va a b w K):Q1 P F.au [a,b] w K:=Q9 (List.replicate 2 none) Tryz.func131 rfl (by decide) (by kernel_rfl) h
def Q0G (c:Value) (w:World) (K:Value→World→Prop):Prop:= Q3 P .eql T.c (.tmp 3) (.const (.string ⟨#[105,110,116]⟩)) c (.string ⟨#[105,110,116]⟩) w fun a w=>Q0 a false w (fun w J=>J c w) fun h w=>Q0 a false w (Q3 P .eql T.c (.tmp 6) (.const (.string ⟨#[98,111,111,108]⟩)) h (.string ⟨#[98,111,111,108]⟩)) fun g w=>pick P a (.bool true) g w fun f w=>Q0 f false w (fun w J=>J c w) fun e w=>Q0 f false w (Q3 P .eql T.c (.tmp 10) (.const (.string ⟨#[116,101,120,116]⟩)) e (.string ⟨#[116,101,120,116]⟩)) fun b w=>pick P f (.bool true) b w fun d w=>K d w
theorem Q5l {a:Value} {w:World} {K:Value→World→Prop} (h:Q0G a w K):Q1 P F.aN [a] w K:=Q9 (List.replicate 2 none) Tryz.func109 rfl (by decide) (by kernel_rfl) h
def Vc (j m:Value) (w:World) (K:Value→World→Prop):Prop:= X3 P .len [T.c] T.e [false] [j] w fun n w=>X3 P .len [T.c] T.e [false] [m] w fun o w=>Q3 P .geq T.e (.tmp 6) (.tmp 8) n o w fun a w=>Q0 a true w (fun w J=>J j w) fun f w=>Q0 a true w (fun w J=>J j w) fun k w=>Q0 a true w (X3 P .len [T.c] T.e [false] [k]) fun i w=>Q0 a true w (fun w J=>J m w) fun g w=>Q0 a true w (X3 P .len [T.c] T.e [false] [g]) fun h w=>Q0 a true w (Q3 P .sub T.e (.tmp 13) (.tmp 15) i h) fun l w=>Q0 a true w (R7 P T.c f (some l) none none) fun d w=>Q0 a true w (fun w J=>J m w) fun b w=>Q0 a true w (Q3 P .eql T.c (.tmp 17) (.tmp 18) d b) fun c w=>pick P a c (.bool false) w fun e w=>K e w
theorem Cq {a b:Value} {w:World} {K:Value→World→Prop} (h:Vc a b w K):Q1 P F.aa [a,b] w K:=Q9 (List.replicate 2 none) Tryz.func202 rfl (by decide) (by kernel_rfl) h
def Dd (a c:Value) (w:World) (K:Value→World→Prop):Prop:= Q1 P F.aa [a,c] w fun b w=>K b w
theorem Ae {a b:Value} {w:World} {K:Value→World→Prop} (h:Dd a b w K):Q1 P F.bK [a,b] w K:=Q9 (List.replicate 2 none) Tryz.func185 rfl (by decide) (by kernel_rfl) h
def Uj (a f:Value) (w:World) (K:Value→World→Prop):Prop:= Q1 P F.aa [a,f] w fun g w=>X1 g (X3 P .len [T.c] T.e [false] [a] w fun e w=>X3 P .len [T.c] T.e [false] [f] w fun d w=>Q3 P .sub T.e (.tmp 10) (.tmp 12) e d w fun c w=>R7 P T.c a none (some c) none w fun b w=>K b w) (K a w)
theorem Ch {a b:Value} {w:World} {K:Value→World→Prop} (h:Uj a b w K):Q1 P F.cc [a,b] w K:=Q9 (List.replicate 5 none) Tryz.func204 rfl (by decide) (by kernel_rfl) h
def Mw (a c:Value) (w:World) (K:Value→World→Prop):Prop:= Q1 P F.cc [a,c] w fun b w=>K b w
theorem Kw {a b:Value} {w:World} {K:Value→World→Prop} (h:Mw a b w K):Q1 P F.bu [a,b] w K:=Q9 (List.replicate 2 none) Tryz.func186 rfl (by decide) (by kernel_rfl) h
def Q75:V9:=[none,none,none,some ([0,4],[0,4,5,6,7,8,9,10]),none,none,none]
def Q2a (d:Value) (w:World) (K:Value→World→Prop):Prop:= lp (α:=Value×Value) (d,(.int .i64 0)) w fun a b g w=>Q1 P F.bK [b.1,(.string ⟨#[91,93]⟩)] w fun e w=>X1 e (Q1 P F.bu [b.1,(.string ⟨#[91,93]⟩)] w fun f w=>Q3 P .add T.e (.tmp 9) (.const (.int .i64 1)) b.2 (.int .i64 1) w fun c w=>a (f,c) w) (K (.tuple #[b.1,b.2]) w)
theorem Q6D {a:Value} {w:World} {K:Value→World→Prop} (h:Q2a a w K):Q1 P F.cv [a] w K:=Q9 Q75 Tryz.func155 rfl (by decide) (by kernel_rfl) h
def Q0T (k:Value) (w:World) (K:Value→World→Prop):Prop:= Q1 P F.cv [k] w fun i w=>ext P i 0 w fun j w=>ext P i 1 w fun l w=>Q3 P .leq T.e (.tmp 10) (.const (.int .i64 3)) l (.int .i64 3) w fun a w=>Q0 a true w (fun w J=>J j w) fun g w=>Q0 a true w (Q1 P F.aN [g]) fun f w=>Q0 a true w (fun w J=>J f w) fun b w=>Q0 b false w (fun w J=>J j w) fun h w=>Q0 b false w (Q1 P F.al [h]) fun e w=>Q0 a true w (pick P b (.bool true) e) fun c w=>pick P a c (.bool false) w fun d w=>K d w
theorem Q62 {a:Value} {w:World} {K:Value→World→Prop} (h:Q0T a w K):Q1 P F.z [a] w K:=Q9 (List.replicate 3 none) Tryz.func114 rfl (by decide) (by kernel_rfl) h
def Gt (b:Value) (w:World) (K:Value→World→Prop):Prop:= Q1 P F.c6 [b] w fun a w=>Q0 a true w (fun w J=>J b w) fun e w=>Q0 a true w (Q1 P F.al [e]) fun d w=>Q0 a true w (J9 P .not d) fun f w=>pick P a f (.bool false) w fun c w=>K c w
theorem Q3X {a:Value} {w:World} {K:Value→World→Prop} (h:Gt a w K):Q1 P F.bT [a] w K:=Q9 (List.replicate 2 none) Tryz.func133 rfl (by decide) (by kernel_rfl) h
def Bm (f:Value) (w:World) (K:Value→World→Prop):Prop:= box P T.n f w fun a w=>fieldAddr P T.n a 0 w fun d w=>Q2 P T.c d w fun e w=>Q1 P F.bT [e] w fun b w=>Q0 b true w (fieldAddr P T.n a 1) fun h w=>Q0 b true w (Q2 P T.c h) fun i w=>Q0 b true w (Q1 P F.z [i]) fun g w=>pick P b g (.bool false) w fun c w=>K c w
theorem Q2S {a:Value} {w:World} {K:Value→World→Prop} (h:Bm a w K):Q1 P F.bz [a] w K:=Q9 (List.replicate 2 none) Tryz.func132 rfl (by decide) (by kernel_rfl) h
def Za (c g:Value) (w:World) (K:Value→World→Prop):Prop:= box P T.d c w fun a w=>Q2 P T.ae g w fun b w=>Q2 P T.d a w fun d w=>Z3 P b [d] w fun f w=>J9 P .not f w fun e w=>K e w
theorem Hh {a b:Value} {w:World} {K:Value→World→Prop} (h:Za a b w K):Q1 P F.bU [a,b] w K:=Q9 (List.replicate 2 none) Tryz.func170 rfl (by decide) (by kernel_rfl) h
def Jq (b e:Value) (w:World) (K:Value→World→Prop):Prop:= box P T.ae e w fun a w=>E7 P (.func F.bU) [] [a] w fun d w=>Q1 P F.a [b,d] w fun c w=>J9 P .not c w fun f w=>K f w
theorem Sk {a b:Value} {w:World} {K:Value→World→Prop} (h:Jq a b w K):Q1 P F.ao [a,b] w K:=Q9 (List.replicate 2 none) Tryz.func134 rfl (by decide) (by kernel_rfl) h
def Cl (B A:Value) (w:World) (K:Value→World→Prop):Prop:= box P T.u B w fun a w=>fieldAddr P T.u a 0 w fun C w=>Q2 P T.e C w fun E w=>Q3 P .geq T.e (.tmp 5) (.const (.int .i64 0)) E (.int .i64 0) w fun f w=>Q0 f true w (fieldAddr P T.u a 1) fun H w=>Q0 f true w (Q2 P T.e H) fun D w=>Q0 f true w (fieldAddr P T.u a 0) fun y w=>Q0 f true w (Q2 P T.e y) fun p w=>Q0 f true w (Q3 P .gtr T.e (.tmp 9) (.tmp 11) D p) fun u w=>pick P f u (.bool false) w fun c w=>Q0 c true w (fieldAddr P T.u a 1) fun h w=>Q0 c true w (Q2 P T.e h) fun r w=>Q0 c true w (Q2 P T.e A) fun s w=>Q0 c true w (Q3 P .leq T.e (.tmp 16) (.tmp 17) r s) fun i w=>pick P c i (.bool false) w fun d w=>Q0 d true w (fieldAddr P T.u a 2) fun k w=>Q0 d true w (Q2 P T.e k) fun z w=>Q0 d true w (Q3 P .geq T.e (.tmp 22) (.const (.int .i64 0)) z (.int .i64 0)) fun v w=>pick P d v (.bool false) w fun b w=>Q0 b true w (fieldAddr P T.u a 2) fun o w=>Q0 b true w (Q2 P T.e o) fun l w=>Q0 b true w (Q2 P T.e A) fun q w=>Q0 b true w (Q3 P .lss T.e (.tmp 27) (.tmp 28) l q) fun g w=>pick P b g (.bool false) w fun e w=>Q0 e true w (fieldAddr P T.u a 3) fun m w=>Q0 e true w (Q2 P T.c m) fun j w=>Q0 e true w (Q1 P F.al [j]) fun t w=>pick P e t (.bool false) w fun n w=>K n w
theorem Q2A {a b:Value} {w:World} {K:Value→World→Prop} (h:Cl a b w K):Q1 P F.bi [a,b] w K:=Q9 (List.replicate 2 none) Tryz.func171 rfl (by decide) (by kernel_rfl) h
def Yr:V9:=[none,none,none,some ([8],[4,5,8,9,10,11,12,13,14,15,16,17,18]),none,none,none,none,none,none,none]
def G1 (g j:Value) (w:World) (K:Value→World→Prop):Prop:= X3 P .len [T.q] T.e [false] [g] w fun i w=>lp (α:=Value) (.int .i64 0) w fun a b k w=>Q3 P .lss T.e (.tmp 8) (.tmp 7) b i w fun h w=>X1 h (indexAddr P T.q g b w fun d w=>Q2 P T.v d w fun e w=>Z3 P j [e] w fun f w=>X1 f (K b w) (Q3 P .add T.e (.tmp 8) (.const (.int .i64 1)) b (.int .i64 1) w fun c w=>a c w)) (K (.int .i64 (-1)) w)
theorem Yu {a b:Value} {w:World} {K:Value→World→Prop} (h:G1 a b w K):Q1 P F.a5 [a,b] w K:=Q9 Yr Tryz.func208 rfl (by decide) (by kernel_rfl) h
def B2 (a c:Value) (w:World) (K:Value→World→Prop):Prop:= Q1 P F.a5 [a,c] w fun b w=>Q3 P .geq T.e (.tmp 7) (.const (.int .i64 0)) b (.int .i64 0) w fun d w=>K d w
theorem Xe {a b:Value} {w:World} {K:Value→World→Prop} (h:B2 a b w K):Q1 P F.l [a,b] w K:=Q9 (List.replicate 2 none) Tryz.func194 rfl (by decide) (by kernel_rfl) h
def Jc (c g:Value) (w:World) (K:Value→World→Prop):Prop:= box P T.v c w fun a w=>Q2 P T.ai g w fun b w=>Q2 P T.v a w fun d w=>Z3 P b [d] w fun f w=>J9 P .not f w fun e w=>K e w
theorem Hz {a b:Value} {w:World} {K:Value→World→Prop} (h:Jc a b w K):Q1 P F.bY [a,b] w K:=Q9 (List.replicate 2 none) Tryz.func195 rfl (by decide) (by kernel_rfl) h
def Vd (b e:Value) (w:World) (K:Value→World→Prop):Prop:= box P T.ai e w fun a w=>E7 P (.func F.bY) [] [a] w fun d w=>Q1 P F.l [b,d] w fun c w=>J9 P .not c w fun f w=>K f w
theorem Cs {a b:Value} {w:World} {K:Value→World→Prop} (h:Vd a b w K):Q1 P F.aw [a,b] w K:=Q9 (List.replicate 2 none) Tryz.func172 rfl (by decide) (by kernel_rfl) h
def Jh:V9:=[none,none,none,some ([8],[4,5,8,9,10,11,12,13,14,15,16,17,18]),none,none,none,none,none,none,none]
def K9 (g j:Value) (w:World) (K:Value→World→Prop):Prop:= X3 P .len [T.ap] T.e [false] [g] w fun i w=>lp (α:=Value) (.int .i64 0) w fun a b k w=>Q3 P .lss T.e (.tmp 8) (.tmp 7) b i w fun h w=>X1 h (indexAddr P T.ap g b w fun d w=>Q2 P T.ad d w fun e w=>Z3 P j [e] w fun f w=>X1 f (K b w) (Q3 P .add T.e (.tmp 8) (.const (.int .i64 1)) b (.int .i64 1) w fun c w=>a c w)) (K (.int .i64 (-1)) w)
theorem Ub {a b:Value} {w:World} {K:Value→World→Prop} (h:K9 a b w K):Q1 P F.t [a,b] w K:=Q9 Jh Tryz.func221 rfl (by decide) (by kernel_rfl) h
def Ts (c g:Value) (w:World) (K:Value→World→Prop):Prop:= box P T.ad c w fun a w=>fieldAddr P T.ad a 0 w fun b w=>Q2 P T.c b w fun d w=>Q2 P T.c g w fun f w=>Q3 P .eql T.c (.tmp 5) (.tmp 6) d f w fun e w=>K e w
theorem Q4X {a b:Value} {w:World} {K:Value→World→Prop} (h:Ts a b w K):Q1 P F.cP [a,b] w K:=Q9 (List.replicate 2 none) Tryz.func222 rfl (by decide) (by kernel_rfl) h
def Q2f (d:Value) (w:World) (K:Value→World→Prop):Prop:= box P T.c d w fun a w=>R7 P T.af (.pointer (some ⟨G.a,0,none⟩)) none none none w fun b w=>E7 P (.func F.cP) [] [a] w fun c w=>Q1 P F.t [b,c] w fun e w=>K e w
theorem Q6J {a:Value} {w:World} {K:Value→World→Prop} (h:Q2f a w K):Q1 P F.cK [a] w K:=Q9 (List.replicate 2 none) Tryz.func209 rfl (by decide) (by kernel_rfl) h
def Q0p (p:Value) (w:World) (K:Value→World→Prop):Prop:= Q1 P F.cK [p] w fun o w=>Q3 P .lss T.e (.tmp 8) (.const (.int .i64 0)) o (.int .i64 0) w fun q w=>X1 q (K (.tuple #[(.bool false),(.bool false),(.bool false)]) w) (dr w fun a j=>Q5 a (fun f=> ∀w,j w→indexAddr P T.af (.pointer (some ⟨G.a,0,none⟩)) o w (dk a f w)) fun f=>Q5 a (fun c=> ∀d w,j w→f d w→fieldAddr P T.ad d 1 w (dk a c w)) fun c=>Q5 a (fun g=> ∀w,j w→indexAddr P T.af (.pointer (some ⟨G.a,0,none⟩)) o w (dk a g w)) fun g=>Q5 a (fun i=> ∀b w,j w→g b w→fieldAddr P T.ad b 2 w (dk a i w)) fun i=>Q5 a (fun l=> ∀h w,j w→c h w→Q2 P T.t h w (dk a l w)) fun l=>Q5 a (fun k=> ∀e w,j w→i e w→Q2 P T.t e w (dk a k w)) fun k=>∀d h b e n m w,j w→f d w→c h w→g b w→i e w→l n w→k m w→ K (.tuple #[n,m,(.bool true)]) w)
theorem Q5G {a:Value} {w:World} {K:Value→World→Prop} (h:Q0p a w K):Q1 P F.cl [a] w K:=Q9 (List.replicate 6 none) Tryz.func196 rfl (by decide) (by kernel_rfl) h
def Q2b (c:Value) (w:World) (K:Value→World→Prop):Prop:= Q1 P F.cv [c] w fun d w=>ext P d 0 w fun f w=>ext P d 1 w fun e w=>Q1 P F.z [c] w fun a w=>J9 P .not a w fun b w=>X1 b (K (.int .i64 0) w) (K e w)
theorem Q6G {a:Value} {w:World} {K:Value→World→Prop} (h:Q2b a w K):Q1 P F.cu [a] w K:=Q9 (List.replicate 6 none) Tryz.func115 rfl (by decide) (by kernel_rfl) h
def Vf (a c:Value) (w:World) (K:Value→World→Prop):Prop:= Q1 P F.c0 [a,c] w fun b w=>K b w
theorem Cw {a b:Value} {w:World} {K:Value→World→Prop} (h:Vf a b w K):Q1 P F.ay [a,b] w K:=Q9 (List.replicate 2 none) Tryz.func227 rfl (by decide) (by kernel_rfl) h
def Tz:V9:=[none,none,none,none,none,none,none,none,none,none,none,none,none,none,none,none,none,some ([8,10],[4,8,10,11,12,13,57,58,59,60,61,62,63,64,65,66,67,68,69,70,71,72,73,74,75,76,77,78,79,80,81,82,83,84,85,86,87,88,89,90,91,92,93,94,95,96,97,98,99,100,101,102,103,104,105,106,107,108,109,110,111,112,113,114,115,116,117,118,119,120,121,122,123,124,125,126,127,128,129,130,131,132,133,134,135,136,137,138,139,140,141,142]),none,none,some ([8],[4,8,11,60,61,62,63,64,65,66,67,68,69,70,71,72,73,74,75,76,77]),none,none,none,none,none,none,none,none,none,none,none,none,none,none,none,none,none,none,none,none,none,none,none]
def On (h m:Value) (w:World) (K:Value→World→Prop):Prop:= X3 P .len [T.c] T.e [false] [m] w fun d w=>Q3 P .eql T.e (.tmp 17) (.const (.int .i64 0)) d (.int .i64 0) w fun k w=>Q0 k false w (fun w J=>J m w) fun bb w=>Q0 k false w (fun w J=>J h w) fun a4 w=>Q0 k false w (Q3 P .eql T.c (.tmp 20) (.tmp 21) bb a4) fun ar w=>pick P k (.bool true) ar w fun bc w=>X1 bc (K (.int .i64 0) w) (Q3 P .eql T.e (.tmp 25) (.const (.int .i64 1)) d (.int .i64 1) w fun aj w=>X1 aj (C3 P T.c m (.int .i64 0) w fun aa w=>Q1 P F.ay [h,aa] w fun ap w=>K ap w) (X3 P .len [T.c] T.e [false] [h] w fun bf w=>Q3 P .geq T.e (.tmp 32) (.tmp 34) d bf w fun ai w=>X1 ai (K (.int .i64 (-1)) w) (Q2 P T.e (.pointer (some ⟨G.c,0,none⟩)) w fun ax w=>Q3 P .leq T.e (.tmp 37) (.tmp 38) d ax w fun l w=>Q0 l true w (fun w J=>J h w) fun a3 w=>Q0 l true w (X3 P .len [T.c] T.e [false] [a3]) fun az w=>Q0 l true w (Q3 P .leq T.e (.tmp 42) (.const (.int .i64 64)) az (.int .i64 64)) fun ae w=>pick P l ae (.bool false) w fun a8 w=>X1 a8 (Q1 P F.ct [h,m] w fun be w=>K be w) (C3 P T.c m (.int .i64 0) w fun V w=>C3 P T.c m (.int .i64 1) w fun an w=>X3 P .len [T.c] T.e [false] [h] w fun ba w=>Q3 P .sub T.e (.tmp 53) (.tmp 54) ba d w fun a7 w=>Q3 P .add T.e (.tmp 55) (.const (.int .i64 1)) a7 (.int .i64 1) w fun q w=>lp (α:=Value×Value) ((.int .i64 0),(.int .i64 0)) w fun i g d_ w=>Q3 P .lss T.e (.tmp 57) (.tmp 58) g.1 q w fun a6 w=>X1 a6 (jn (α:=Value) w (fun L w=>C3 P T.c h g.1 w fun a2 w=>Q3 P .neq T.a3 (.tmp 62) (.tmp 63) a2 V w fun ak w=>X1 ak (Q3 P .add T.e (.tmp 66) (.const (.int .i64 1)) g.1 (.int .i64 1) w fun ay w=>R7 P T.c h (some ay) (some q) none w fun ag w=>Q1 P F.ay [ag,V] w fun H w=>Q3 P .lss T.e (.tmp 72) (.const (.int .i64 0)) H (.int .i64 0) w fun al w=>X1 al (K (.int .i64 (-1)) w) (Q3 P .add T.e (.tmp 75) (.const (.int .i64 1)) H (.int .i64 1) w fun a5 w=>Q3 P .add T.e (.tmp 74) (.tmp 76) g.1 a5 w fun aq w=>L aq w)) (L g.1 w)) fun j d_ w=>Q3 P .add T.e (.tmp 79) (.const (.int .i64 1)) j (.int .i64 1) w fun am w=>C3 P T.c h am w fun ah w=>Q3 P .eql T.a3 (.tmp 81) (.tmp 82) ah an w fun b w=>Q0 b true w (fun w J=>J h w) fun ao w=>Q0 b true w (fun w J=>J j w) fun ab w=>Q0 b true w (fun w J=>J j w) fun av w=>Q0 b true w (fun w J=>J d w) fun bd w=>Q0 b true w (Q3 P .add T.e (.tmp 87) (.tmp 88) av bd) fun af w=>Q0 b true w (R7 P T.c ao (some ab) (some af) none) fun a9 w=>Q0 b true w (fun w J=>J m w) fun aw w=>Q0 b true w (Q3 P .eql T.c (.tmp 90) (.tmp 91) a9 aw) fun ac w=>pick P b ac (.bool false) w fun ad w=>X1 ad (K j w) (Q3 P .add T.e (.tmp 95) (.const (.int .i64 1)) j (.int .i64 1) w fun e w=>Q3 P .add T.e (.tmp 97) (.const (.int .i64 1)) g.2 (.int .i64 1) w fun p w=>Q2 P T.e (.pointer (some ⟨G.c,0,none⟩)) w fun C w=>Q3 P .leq T.e (.tmp 99) (.tmp 100) d C w fun c w=>Q0 c true w (fun w J=>J p w) fun D w=>Q0 c true w (fun w J=>J e w) fun y w=>Q0 c true w (Q1 P F.cT [y]) fun U w=>Q0 c true w (Q3 P .gtr T.e (.tmp 103) (.tmp 105) D U) fun E w=>pick P c E (.bool false) w fun Q w=>X1 Q (R7 P T.c h (some e) none none w fun W w=>Q1 P F.ct [W,m] w fun o w=>Q3 P .geq T.e (.tmp 113) (.const (.int .i64 0)) o (.int .i64 0) w fun M w=>X1 M (Q3 P .add T.e (.tmp 115) (.tmp 116) o e w fun u w=>K u w) (K (.int .i64 (-1)) w)) (Q2 P T.e (.pointer (some ⟨G.c,0,none⟩)) w fun X w=>Q3 P .gtr T.e (.tmp 118) (.tmp 119) d X w fun a w=>Q0 a true w (fun w J=>J p w) fun z w=>Q0 a true w (fun w J=>J e w) fun s w=>Q0 a true w (Q3 P .shr T.e (.tmp 123) (.const (.int .u64 4)) s (.int .u64 4)) fun O w=>Q0 a true w (Q3 P .add T.e (.const (.int .i64 4)) (.tmp 124) (.int .i64 4) O) fun B w=>Q0 a true w (Q3 P .geq T.e (.tmp 122) (.tmp 125) z B) fun Z w=>pick P a Z (.bool false) w fun f w=>Q0 f true w (fun w J=>J e w) fun v w=>Q0 f true w (fun w J=>J q w) fun A w=>Q0 f true w (Q3 P .lss T.e (.tmp 129) (.tmp 130) v A) fun R w=>pick P f R (.bool false) w fun N w=>X1 N (R7 P T.c h (some e) none none w fun Y w=>Q1 P F.cI [Y,m] w fun n w=>Q3 P .lss T.e (.tmp 138) (.const (.int .i64 0)) n (.int .i64 0) w fun r w=>X1 r (K (.int .i64 (-1)) w) (Q3 P .add T.e (.tmp 140) (.tmp 141) e n w fun t w=>K t w)) (i (e,p) w)))) (K (.int .i64 (-1)) w)))))
theorem Ac {a b:Value} {w:World} {K:Value→World→Prop} (h:On a b w K):Q1 P F.bL [a,b] w K:=Q9 Tz Tryz.func228 rfl (by decide) (by kernel_rfl) h
def Hv (l n:Value) (w:World) (K:Value→World→Prop):Prop:= Q1 P F.bL [l,n] w fun f w=>Q3 P .geq T.e (.tmp 11) (.const (.int .i64 0)) f (.int .i64 0) w fun m w=>X1 m (dr w fun e k=>Q5 e (fun g=> ∀w,k w→R7 P T.c l none (some f) none w (dk e g w)) fun g=>Q5 e (fun d=> ∀w,k w→X3 P .len [T.c] T.e [false] [n] w (dk e d w)) fun d=>Q5 e (fun c=> ∀a w,k w→d a w→Q3 P .add T.e (.tmp 17) (.tmp 19) f a w (dk e c w)) fun c=>Q5 e (fun h=> ∀b w,k w→c b w→R7 P T.c l (some b) none none w (dk e h w)) fun h=>∀i a b j w,k w→g i w→d a w→c b w→h j w→ K (.tuple #[i,j,(.bool true)]) w) (K (.tuple #[l,(.string ⟨#[]⟩),(.bool false)]) w)
theorem Q1P {a b:Value} {w:World} {K:Value→World→Prop} (h:Hv a b w K):Q1 P F.cH [a,b] w K:=Q9 (List.replicate 6 none) Tryz.func229 rfl (by decide) (by kernel_rfl) h
def Tt (e f:Value) (w:World) (K:Value→World→Prop):Prop:= Q1 P F.cH [e,f] w fun c w=>ext P c 0 w fun d w=>ext P c 1 w fun a w=>ext P c 2 w fun b w=>K (.tuple #[d,a,b]) w
theorem Q4T {a b:Value} {w:World} {K:Value→World→Prop} (h:Tt a b w K):Q1 P F.cz [a,b] w K:=Q9 (List.replicate 2 none) Tryz.func224 rfl (by decide) (by kernel_rfl) h
end Go.Proofs.YtjdiakhipmggjaaGreatDoor

set_option maxRecDepth 100000
namespace Go.Proofs.YtjdiakhipmggjaaGreatDoor
open Go.Emb
def Q0M (t:Value) (w:World) (K:Value→World→Prop):Prop:= Q1 P F.cz [t,(.string ⟨#[46]⟩)] w fun e w=>ext P e 0 w fun f w=>ext P e 1 w fun d w=>ext P e 2 w fun p w=>J9 P .not p w fun b w=>Q0 b false w (fun w J=>J f w) fun o w=>Q0 b false w (Q1 P F.al [o]) fun j w=>Q0 b false w (J9 P .not j) fun k w=>pick P b (.bool true) k w fun c w=>Q0 c false w (fun w J=>J d w) fun s w=>Q0 c false w (Q1 P F.c6 [s]) fun r w=>Q0 c false w (J9 P .not r) fun i w=>pick P c (.bool true) i w fun a w=>Q0 a false w (fun w J=>J d w) fun l w=>Q0 a false w (C3 P T.c l (.int .i64 0)) fun n w=>Q0 a false w (conv P T.a3 T.an n) fun g w=>Q0 a false w (Q1 P F.ck [g]) fun q w=>Q0 a false w (J9 P .not q) fun h w=>pick P a (.bool true) h w fun m w=>X1 m (K (.tuple #[(.string ⟨#[]⟩),(.string ⟨#[]⟩),(.int .i64 30)]) w) (K (.tuple #[f,d,(.int .i64 0)]) w)
theorem Q6f {a:Value} {w:World} {K:Value→World→Prop} (h:Q0M a w K):Q1 P F.cG [a] w K:=Q9 (List.replicate 6 none) Tryz.func211 rfl (by decide) (by kernel_rfl) h
def Q74:V9:=[none,none,none,none,none,none,none,some ([27],[27,28,29]),none,none,none,none,none,none]
def Q2k (g b:Value) (w:World) (K:Value→World→Prop):Prop:= Q3 P .eql T.c (.tmp 8) (.const (.string ⟨#[119,111,114,100]⟩)) g (.string ⟨#[119,111,114,100]⟩) w fun E w=>X1 E (X3 P .len [T.c] T.e [false] [b] w fun D w=>Q3 P .leq T.e (.tmp 12) (.const (.int .i64 64)) D (.int .i64 64) w fun f w=>Q0 f true w (fun w J=>J b w) fun j w=>Q0 f true w (Q1 P F.aZ [j]) fun t w=>pick P f t (.bool false) w fun d w=>Q0 d true w (fun w J=>J b w) fun o w=>Q0 d true w (Q1 P F.cC [o,(.string ⟨#[10]⟩)]) fun z w=>Q0 d true w (J9 P .not z) fun q w=>pick P d q (.bool false) w fun H w=>K H w) (Q3 P .eql T.c (.tmp 8) (.const (.string ⟨#[110,101,119]⟩)) g (.string ⟨#[110,101,119]⟩) w fun n w=>X1 n (Q1 P F.al [b] w fun s w=>K s w) (jn (α:=Value) w (fun L w=>Q3 P .eql T.c (.tmp 8) (.const (.string ⟨#[105,115]⟩)) g (.string ⟨#[105,115]⟩) w fun h w=>X1 h (L h w) (Q3 P .eql T.c (.tmp 8) (.const (.string ⟨#[99,97,115,116]⟩)) g (.string ⟨#[99,97,115,116]⟩) w fun i w=>L i w)) fun O Q w=>X1 O (Q1 P F.z [b] w fun a w=>Q0 a true w (fun w J=>J b w) fun p w=>Q0 a true w (Q1 P F.aN [p]) fun C w=>Q0 a true w (J9 P .not C) fun r w=>pick P a r (.bool false) w fun v w=>K v w) (Q3 P .eql T.c (.tmp 8) (.const (.string ⟨#[97,114,114,97,121]⟩)) g (.string ⟨#[97,114,114,97,121]⟩) w fun l w=>X1 l (Q1 P F.z [b] w fun c w=>Q0 c true w (fun w J=>J b w) fun m w=>Q0 c true w (Q1 P F.cu [m]) fun k w=>Q0 c true w (Q3 P .lss T.e (.tmp 43) (.const (.int .i64 3)) k (.int .i64 3)) fun u w=>pick P c u (.bool false) w fun A w=>K A w) (Q1 P F.cG [b] w fun e w=>ext P e 0 w fun N w=>ext P e 1 w fun M w=>ext P e 2 w fun B w=>Q3 P .eql T.y (.tmp 52) (.const (.int .i64 0)) B (.int .i64 0) w fun y w=>K y w))))
theorem Q7d {a b:Value} {w:World} {K:Value→World→Prop} (h:Q2k a b w K):Q1 P F.cJ [a,b] w K:=Q9 Q74 Tryz.func197 rfl (by decide) (by kernel_rfl) h
def Q6q:V9:=[none,none,none,none,none,some ([16],[16,17,18,19,20,21,22,23,24,25,26,27,28,29,30,31,32,33,34,35,36,37,38,39]),none,none,none,none]
def Q1c (A:Value) (w:World) (K:Value→World→Prop):Prop:= box P T.v A w fun a w=>fieldAddr P T.v a 0 w fun B w=>Q2 P T.c B w fun D w=>Q1 P F.cl [D] w fun n w=>ext P n 0 w fun y w=>ext P n 1 w fun b w=>ext P n 2 w fun v w=>J9 P .not v w fun h w=>X1 h (K (.int .i64 40) w) (jn (α:=Value) w (fun q w=>J9 P .not y w fun c w=>Q0 c true w (fieldAddr P T.v a 1) fun t w=>Q0 c true w (Q2 P T.a1 t) fun k w=>Q0 c true w (Q3 P .neq T.a1 (.tmp 21) (.const (.int .i64 0)) k (.int .i64 0)) fun z w=>pick P c z (.bool false) w fun f w=>X1 f (q f w) (J9 P .not b w fun d w=>Q0 d true w (fieldAddr P T.v a 2) fun l w=>Q0 d true w (Q2 P T.c l) fun o w=>Q0 d true w (Q3 P .neq T.c (.tmp 28) (.const (.string ⟨#[]⟩)) o (.string ⟨#[]⟩)) fun g w=>pick P d g (.bool false) w fun e w=>X1 e (q e w) (Q0 b true w (fieldAddr P T.v a 0) fun j w=>Q0 b true w (Q2 P T.c j) fun u w=>Q0 b true w (fieldAddr P T.v a 2) fun m w=>Q0 b true w (Q2 P T.c m) fun s w=>Q0 b true w (Q1 P F.cJ [u,s]) fun p w=>Q0 b true w (J9 P .not p) fun i w=>pick P b i (.bool false) w fun r w=>q r w))) fun C E w=>X1 C (K (.int .i64 41) w) (K (.int .i64 0) w))
theorem Q6w {a:Value} {w:World} {K:Value→World→Prop} (h:Q1c a w K):Q1 P F.cF [a] w K:=Q9 Q6q Tryz.func174 rfl (by decide) (by kernel_rfl) h
def St (d:Value) (w:World) (K:Value→World→Prop):Prop:= box P T.v d w fun a w=>Q2 P T.v a w fun b w=>Q1 P F.cF [b] w fun c w=>Q3 P .eql T.y (.tmp 4) (.const (.int .i64 0)) c (.int .i64 0) w fun e w=>K e w
theorem Q2O {a:Value} {w:World} {K:Value→World→Prop} (h:St a w K):Q1 P F.bj [a] w K:=Q9 (List.replicate 2 none) Tryz.func173 rfl (by decide) (by kernel_rfl) h
def Yy:V9:=[none,none,none,some ([8],[4,5,8,9,10,11,12,13,14,15,16,17,18]),none,none,none,none,none,none,none]
def G4 (g j:Value) (w:World) (K:Value→World→Prop):Prop:= X3 P .len [T.s] T.e [false] [g] w fun i w=>lp (α:=Value) (.int .i64 0) w fun a b k w=>Q3 P .lss T.e (.tmp 8) (.tmp 7) b i w fun h w=>X1 h (indexAddr P T.s g b w fun d w=>Q2 P T.u d w fun e w=>Z3 P j [e] w fun f w=>X1 f (K b w) (Q3 P .add T.e (.tmp 8) (.const (.int .i64 1)) b (.int .i64 1) w fun c w=>a c w)) (K (.int .i64 (-1)) w)
theorem Ym {a b:Value} {w:World} {K:Value→World→Prop} (h:G4 a b w K):Q1 P F.a6 [a,b] w K:=Q9 Yy Tryz.func212 rfl (by decide) (by kernel_rfl) h
def B1 (a c:Value) (w:World) (K:Value→World→Prop):Prop:= Q1 P F.a6 [a,c] w fun b w=>Q3 P .geq T.e (.tmp 7) (.const (.int .i64 0)) b (.int .i64 0) w fun d w=>K d w
theorem Xd {a b:Value} {w:World} {K:Value→World→Prop} (h:B1 a b w K):Q1 P F.m [a,b] w K:=Q9 (List.replicate 2 none) Tryz.func198 rfl (by decide) (by kernel_rfl) h
def Zz (c g:Value) (w:World) (K:Value→World→Prop):Prop:= box P T.u c w fun a w=>Q2 P T.ah g w fun b w=>Q2 P T.u a w fun d w=>Z3 P b [d] w fun f w=>J9 P .not f w fun e w=>K e w
theorem Rd {a b:Value} {w:World} {K:Value→World→Prop} (h:Zz a b w K):Q1 P F.bZ [a,b] w K:=Q9 (List.replicate 2 none) Tryz.func199 rfl (by decide) (by kernel_rfl) h
def Uy (b e:Value) (w:World) (K:Value→World→Prop):Prop:= box P T.ah e w fun a w=>E7 P (.func F.bZ) [] [a] w fun d w=>Q1 P F.m [b,d] w fun c w=>J9 P .not c w fun f w=>K f w
theorem Cu {a b:Value} {w:World} {K:Value→World→Prop} (h:Uy a b w K):Q1 P F.ax [a,b] w K:=Q9 (List.replicate 2 none) Tryz.func175 rfl (by decide) (by kernel_rfl) h
def Gq (a0:Value) (w:World) (K:Value→World→Prop):Prop:= box P T.d a0 w fun c w=>fieldAddr P T.d c 0 w fun t5 w=>Q2 P T.c t5 w fun t6 w=>Q1 P F.bT [t6] w fun t7 w=>J9 P .not t7 w fun i w=>Q0 i false w (fieldAddr P T.d c 1) fun al w=>Q0 i false w (Q2 P T.h al) fun Q w=>Q0 i false w (Q1 P F.a9 [Q,(.func (.func F.z) #[] #[])]) fun aj w=>Q0 i false w (J9 P .not aj) fun ag w=>pick P i (.bool true) ag w fun b w=>Q0 b false w (fieldAddr P T.d c 2) fun V w=>Q0 b false w (Q2 P T.c V) fun ab w=>Q0 b false w (Q3 P .neq T.c (.tmp 17) (.const (.string ⟨#[]⟩)) ab (.string ⟨#[]⟩)) fun r w=>Q0 b false w (fun w J=>J r w) fun d w=>Q0 d true w (fieldAddr P T.d c 2) fun aa w=>Q0 d true w (Q2 P T.c aa) fun y w=>Q0 d true w (Q1 P F.z [y]) fun am w=>Q0 d true w (J9 P .not am) fun ak w=>Q0 b false w (pick P d ak (.bool false)) fun q w=>pick P b (.bool true) q w fun M w=>X1 M (K (.bool false) w) (fieldAddr P T.d c 3 w fun C w=>Q2 P T.t C w fun z w=>X1 z (fieldAddr P T.d c 4 w fun R w=>Q2 P T.e R w fun j w=>Q3 P .eql T.e (.tmp 29) (.const (.int .i64 0)) j (.int .i64 0) w fun f w=>Q0 f true w (fieldAddr P T.d c 5) fun A w=>Q0 f true w (Q2 P T.q A) fun u w=>Q0 f true w (X3 P .len [T.q] T.e [false] [u]) fun ah w=>Q0 f true w (Q3 P .eql T.e (.tmp 34) (.const (.int .i64 0)) ah (.int .i64 0)) fun B w=>pick P f B (.bool false) w fun e w=>Q0 e true w (fieldAddr P T.d c 6) fun m w=>Q0 e true w (Q2 P T.s m) fun W w=>Q0 e true w (X3 P .len [T.s] T.e [false] [W]) fun p w=>Q0 e true w (Q3 P .eql T.e (.tmp 40) (.const (.int .i64 0)) p (.int .i64 0)) fun s w=>pick P e s (.bool false) w fun o w=>K o w) (fieldAddr P T.d c 5 w fun l w=>Q2 P T.q l w fun X w=>X3 P .len [T.q] T.e [false] [X] w fun ad w=>W0 P T.e w fun t w=>Y0 P T.e t ad w fun _u w=>E7 P (.func F.bi) [] [t] w fun U w=>Q2 P T.e t w fun ae w=>Q3 P .gtr T.e (.tmp 47) (.const (.int .i64 0)) ae (.int .i64 0) w fun a w=>Q0 a true w (fieldAddr P T.d c 4) fun D w=>Q0 a true w (Q2 P T.e D) fun af w=>Q0 a true w (fieldAddr P T.d c 1) fun Y w=>Q0 a true w (Q2 P T.h Y) fun Z w=>Q0 a true w (X3 P .len [T.h] T.e [false] [Z]) fun k w=>Q0 a true w (Q3 P .gtr T.e (.tmp 51) (.tmp 54) af k) fun N w=>pick P a N (.bool false) w fun h w=>Q0 h true w (fieldAddr P T.d c 5) fun v w=>Q0 h true w (Q2 P T.q v) fun L w=>Q0 h true w (Q1 P F.aw [L,(.func (.func F.bj) #[] #[])]) fun E w=>pick P h E (.bool false) w fun g w=>Q0 g true w (fieldAddr P T.d c 6) fun ai w=>Q0 g true w (Q2 P T.s ai) fun H w=>Q0 g true w (fun w J=>J U w) fun ac w=>Q0 g true w (Q1 P F.ax [H,ac]) fun O w=>pick P g O (.bool false) w fun n w=>K n w))
theorem Q41 {a:Value} {w:World} {K:Value→World→Prop} (h:Gq a w K):Q1 P F.ba [a] w K:=Q9 (List.replicate 10 none) Tryz.func135 rfl (by decide) (by kernel_rfl) h
def Tp (a0:Value) (w:World) (K:Value→World→Prop):Prop:= box P T.b a0 w fun b w=>fieldAddr P T.b b 0 w fun t7 w=>Q2 P T.c t7 w fun t8 w=>fieldAddr P T.b b 1 w fun t9 w=>Q2 P T.c t9 w fun aa w=>buildSlice P T.h 2 [(0,t8),(1,aa)] w fun N w=>fieldAddr P T.b b 2 w fun Y w=>Q2 P T.h Y w fun X w=>X3 P .append [T.h,T.h] T.h [false,false] [N,X] w fun s w=>dr w fun o u=>Q5 o (fun n=> ∀w,u w→R7 P T.h s (some (.int .i64 1)) none none w (dk o n w)) fun n=>Q5 o (fun h=> ∀w,u w→fieldAddr P T.b b 0 w (dk o h w)) fun h=>Q5 o (fun m=> ∀j w,u w→h j w→Q2 P T.c j w (dk o m w)) fun m=>∀r j q w,u w→n r w→h j w→m q w→ Q1 P F.ag [r,q] w fun E w=>fieldAddr P T.b b 7 w fun a6 w=>Q2 P T.j a6 w fun am w=>Q1 P F.a [am,(.func (.func F.cm) #[] #[])] w fun bd w=>fieldAddr P T.b b 7 w fun bc w=>Q2 P T.j bc w fun D w=>Q1 P F.a [D,(.func (.func F.cn) #[] #[])] w fun aw w=>Q1 P F.a9 [s,(.func (.func F.al) #[] #[])] w fun a1 w=>J9 P .not a1 w fun p w=>Q0 p false w (fun w J=>J E w) fun ae w=>pick P p (.bool true) ae w fun c w=>Q0 c false w (fieldAddr P T.b b 2) fun ba w=>Q0 c false w (Q2 P T.h ba) fun L w=>Q0 c false w (Q1 P F.aT [L,(.func (.func F.co) #[] #[])]) fun a3 w=>Q0 c false w (J9 P .not a3) fun O w=>pick P c (.bool true) O w fun ah w=>X1 ah (K (.bool false) w) (fieldAddr P T.b b 3 w fun C w=>Q2 P T.t C w fun a w=>Q0 a true w (fieldAddr P T.b b 4) fun A w=>Q0 a true w (Q2 P T.t A) fun a2 w=>Q0 a true w (J9 P .not a2) fun a7 w=>Q0 a true w (fun w J=>J a7 w) fun g w=>Q0 g false w (fieldAddr P T.b b 1) fun a8 w=>Q0 g false w (Q2 P T.c a8) fun R w=>Q0 g false w (Q3 P .neq T.c (.tmp 48) (.const (.string ⟨#[79,98,106,101,99,116]⟩)) R (.string ⟨#[79,98,106,101,99,116]⟩)) fun az w=>Q0 a true w (pick P g (.bool true) az) fun an w=>Q0 a true w (fun w J=>J an w) fun e w=>Q0 e false w (fieldAddr P T.b b 6) fun a4 w=>Q0 e false w (Q2 P T.k a4) fun a5 w=>Q0 e false w (X3 P .len [T.k] T.e [false] [a5]) fun ad w=>Q0 e false w (Q3 P .gtr T.e (.tmp 54) (.const (.int .i64 0)) ad (.int .i64 0)) fun ax w=>Q0 a true w (pick P e (.bool true) ax) fun ai w=>Q0 a true w (fun w J=>J ai w) fun t w=>Q0 t false w (fun w J=>J aw w) fun H w=>Q0 a true w (pick P t (.bool true) H) fun ar w=>pick P a ar (.bool false) w fun ap w=>X1 ap (K (.bool false) w) (fieldAddr P T.b b 4 w fun aj w=>Q2 P T.t aj w fun l w=>Q0 l true w (fieldAddr P T.b b 5) fun V w=>Q0 l true w (Q2 P T.t V) fun ay w=>pick P l ay (.bool false) w fun i w=>Q0 i false w (fun w J=>J bd w) fun B w=>Q0 i false w (fun w J=>J B w) fun k w=>Q0 k true w (fieldAddr P T.b b 4) fun Z w=>Q0 k true w (Q2 P T.t Z) fun ak w=>Q0 k true w (J9 P .not ak) fun U w=>Q0 i false w (pick P k U (.bool false)) fun aq w=>pick P i (.bool true) aq w fun ac w=>X1 ac (K (.bool false) w) (fieldAddr P T.b b 6 w fun ab w=>Q2 P T.k ab w fun ao w=>Q1 P F.aF [ao,(.func (.func F.cp) #[] #[])] w fun M w=>J9 P .not M w fun d w=>Q0 d false w (fieldAddr P T.b b 7) fun al w=>Q0 d false w (Q2 P T.j al) fun Q w=>Q0 d false w (Q1 P F.ar [Q,(.func (.func F.cq) #[] #[])]) fun bb w=>Q0 d false w (J9 P .not bb) fun W w=>pick P d (.bool true) W w fun v w=>X1 v (K (.bool false) w) (fieldAddr P T.b b 6 w fun af w=>Q2 P T.k af w fun a9 w=>Q1 P F.au [a9,(.func (.func F.bz) #[] #[])] w fun f w=>Q0 f true w (fieldAddr P T.b b 7) fun ag w=>Q0 f true w (Q2 P T.j ag) fun y w=>Q0 f true w (Q1 P F.ao [y,(.func (.func F.ba) #[] #[])]) fun z w=>pick P f z (.bool false) w fun av w=>K av w))))
theorem Q4P {a:Value} {w:World} {K:Value→World→Prop} (h:Tp a w K):Q1 P F.cy [a] w K:=Q9 (List.replicate 15 none) Tryz.func78 rfl (by decide) (by kernel_rfl) h
def To (d:Value) (w:World) (K:Value→World→Prop):Prop:= box P T.b d w fun a w=>Q2 P T.b a w fun b w=>Q1 P F.cE [b] w fun c w=>X1 c (K (.int .i64 51) w) (Q2 P T.b a w fun f w=>Q1 P F.cy [f] w fun g w=>J9 P .not g w fun e w=>X1 e (K (.int .i64 50) w) (K (.int .i64 0) w))
theorem Q50 {a:Value} {w:World} {K:Value→World→Prop} (h:To a w K):Q1 P F.cw [a] w K:=Q9 (List.replicate 7 none) Tryz.func42 rfl (by decide) (by kernel_rfl) h
def Qp (a:Value) (w:World) (K:Value→World→Prop):Prop:= Q3 P .eql T.h (.tmp 3) (.const (.slice none 0 0)) a (.slice none 0 0) w fun b w=>X1 b (K (.slice none 0 0) w) (buildSlice P T.h 0 [] w fun c w=>X3 P .append [T.h,T.h] T.h [false,false] [c,a] w fun d w=>K d w)
theorem Nj {a:Value} {w:World} {K:Value→World→Prop} (h:Qp a w K):Q1 P F.a7 [a] w K:=Q9 (List.replicate 5 none) Tryz.func79 rfl (by decide) (by kernel_rfl) h
def K7 (a:Value) (w:World) (K:Value→World→Prop):Prop:= Q3 P .eql T.k (.tmp 3) (.const (.slice none 0 0)) a (.slice none 0 0) w fun b w=>X1 b (K (.slice none 0 0) w) (buildSlice P T.k 0 [] w fun c w=>X3 P .append [T.k,T.k] T.k [false,false] [c,a] w fun d w=>K d w)
theorem Uc {a:Value} {w:World} {K:Value→World→Prop} (h:K7 a w K):Q1 P F.ab [a] w K:=Q9 (List.replicate 5 none) Tryz.func80 rfl (by decide) (by kernel_rfl) h
def K5 (a:Value) (w:World) (K:Value→World→Prop):Prop:= Q3 P .eql T.q (.tmp 3) (.const (.slice none 0 0)) a (.slice none 0 0) w fun b w=>X1 b (K (.slice none 0 0) w) (buildSlice P T.q 0 [] w fun c w=>X3 P .append [T.q,T.q] T.q [false,false] [c,a] w fun d w=>K d w)
theorem Ue {a:Value} {w:World} {K:Value→World→Prop} (h:K5 a w K):Q1 P F.ac [a] w K:=Q9 (List.replicate 5 none) Tryz.func136 rfl (by decide) (by kernel_rfl) h
def K8 (a:Value) (w:World) (K:Value→World→Prop):Prop:= Q3 P .eql T.s (.tmp 3) (.const (.slice none 0 0)) a (.slice none 0 0) w fun b w=>X1 b (K (.slice none 0 0) w) (buildSlice P T.s 0 [] w fun c w=>X3 P .append [T.s,T.s] T.s [false,false] [c,a] w fun d w=>K d w)
theorem Jt {a:Value} {w:World} {K:Value→World→Prop} (h:K8 a w K):Q1 P F.ad [a] w K:=Q9 (List.replicate 5 none) Tryz.func137 rfl (by decide) (by kernel_rfl) h
def Tv (D:Value) (w:World) (K:Value→World→Prop):Prop:= box P T.d D w fun a w=>W0 P T.d w fun B w=>dr w fun b c=>Q5 b (fun k=> ∀w,c w→fieldAddr P T.d a 1 w (dk b k w)) fun k=>Q5 b (fun p=> ∀w,c w→fieldAddr P T.d a 5 w (dk b p w)) fun p=>Q5 b (fun l=> ∀w,c w→fieldAddr P T.d a 6 w (dk b l w)) fun l=>Q5 b (fun j=> ∀m w,c w→k m w→Q2 P T.h m w (dk b j w)) fun j=>Q5 b (fun y=> ∀n w,c w→j n w→Q1 P F.a7 [n] w (dk b y w)) fun y=>Q5 b (fun r=> ∀q w,c w→p q w→Q2 P T.q q w (dk b r w)) fun r=>Q5 b (fun t=> ∀s w,c w→r s w→Q1 P F.ac [s] w (dk b t w)) fun t=>Q5 b (fun d=> ∀o w,c w→l o w→Q2 P T.s o w (dk b d w)) fun d=>Q5 b (fun f=> ∀w,c w→fieldAddr P T.d a 1 w (dk b f w)) fun f=>Q5 b (fun g=> ∀e w,c w→d e w→Q1 P F.ad [e] w (dk b g w)) fun g=>∀m q o n A s C e i h w,c w→k m w→p q w→l o w→j n w→y A w→r s w→t C w→d e w→f i w→g h w→ Y0 P T.h i A w fun _u w=>fieldAddr P T.d a 5 w fun z w=>Y0 P T.q z C w fun _u w=>fieldAddr P T.d a 6 w fun u w=>Y0 P T.s u h w fun _u w=>Q2 P T.d a w fun v w=>Y0 P T.d B v w fun _u w=>Y7 P T.d B w fun E=>K E w
theorem Q4W {a:Value} {w:World} {K:Value→World→Prop} (h:Tv a w K):Q1 P F.c7 [a] w K:=Q9 (List.replicate 3 none) Tryz.func81 rfl (by decide) (by kernel_rfl) h
def Q4Y:V9:=[none,none,none,none,none,some ([3,17],[3,5,17,18,19,20,21,22,23,24,25,26]),none,none,none,none,none,none]
def Tw (Q:Value) (w:World) (K:Value→World→Prop):Prop:= box P T.b Q w fun a w=>W0 P T.b w fun N w=>dr w fun b g=>Q5 b (fun p=> ∀w,g w→fieldAddr P T.b a 2 w (dk b p w)) fun p=>Q5 b (fun n=> ∀w,g w→fieldAddr P T.b a 6 w (dk b n w)) fun n=>Q5 b (fun r=> ∀q w,g w→p q w→Q2 P T.h q w (dk b r w)) fun r=>Q5 b (fun u=> ∀s w,g w→r s w→Q1 P F.a7 [s] w (dk b u w)) fun u=>Q5 b (fun d=> ∀o w,g w→n o w→Q2 P T.k o w (dk b d w)) fun d=>Q5 b (fun h=> ∀w,g w→fieldAddr P T.b a 2 w (dk b h w)) fun h=>Q5 b (fun i=> ∀f w,g w→d f w→Q1 P F.ab [f] w (dk b i w)) fun i=>∀q o s O f m l w,g w→p q w→n o w→r s w→u O w→d f w→h m w→i l w→ Y0 P T.h m O w fun _u w=>fieldAddr P T.b a 6 w fun J w=>Y0 P T.k J l w fun _u w=>fieldAddr P T.b a 7 w fun v w=>Q2 P T.j v w fun k w=>X3 P .len [T.j] T.e [false] [k] w fun E w=>lp (α:=Value×Value) ((.slice none 0 0),(.int .i64 0)) w fun e j U w=>Q3 P .lss T.e (.tmp 17) (.tmp 16) j.2 E w fun z w=>X1 z (indexAddr P T.j k j.2 w fun A w=>Q2 P T.d A w fun H w=>W0 P T.d w fun c w=>Y0 P T.d c H w fun _u w=>Q2 P T.d c w fun M w=>Q1 P F.c7 [M] w fun L w=>buildSlice P T.j 1 [(0,L)] w fun y w=>X3 P .append [T.j,T.j] T.j [false,false] [j.1,y] w fun C w=>Q3 P .add T.e (.tmp 17) (.const (.int .i64 1)) j.2 (.int .i64 1) w fun B w=>e (C,B) w) (fieldAddr P T.b a 7 w fun D w=>Y0 P T.j D j.1 w fun _u w=>Q2 P T.b a w fun t w=>Y0 P T.b N t w fun _u w=>Y7 P T.b N w fun R=>K R w)
theorem Q4R {a:Value} {w:World} {K:Value→World→Prop} (h:Tw a w K):Q1 P F.cx [a] w K:=Q9 Q4Y Tryz.func43 rfl (by decide) (by kernel_rfl) h
def Jm (f h:Value) (w:World) (K:Value→World→Prop):Prop:= nilCheck P f w fun g w=>fieldAddr P T.a0 g 1 w fun d w=>Q2 P T.a2 d w fun b w=>lookup P T.a2 b h true w fun a w=>ext P a 0 w fun e w=>ext P a 1 w fun c w=>K c w
theorem Eb {a b:Value} {w:World} {K:Value→World→Prop} (h:Jm a b w K):Q1 P F.j [a,b] w K:=Q9 (List.replicate 3 none) Tryz.func44 rfl (by decide) (by kernel_rfl) h
def Mo (r u:Value) (w:World) (K:Value→World→Prop):Prop:= W0 P T.b w fun s w=>dr w fun a h=>Q5 a (fun k=> ∀w,h w→nilCheck P r w (dk a k w)) fun k=>Q5 a (fun m=> ∀l w,h w→k l w→fieldAddr P T.a0 l 0 w (dk a m w)) fun m=>Q5 a (fun c=> ∀w,h w→nilCheck P r w (dk a c w)) fun c=>Q5 a (fun e=> ∀g w,h w→c g w→fieldAddr P T.a0 g 1 w (dk a e w)) fun e=>Q5 a (fun o=> ∀n w,h w→m n w→Q2 P T.i n w (dk a o w)) fun o=>Q5 a (fun b=> ∀d w,h w→e d w→Q2 P T.a2 d w (dk a b w)) fun b=>Q5 a (fun i=> ∀f w,h w→b f w→lookup P T.a2 f u false w (dk a i w)) fun i=>∀l n g d t f j w,h w→k l w→m n w→c g w→e d w→o t w→b f w→i j w→ indexAddr P T.i t j w fun p w=>Q2 P T.b p w fun q w=>Y0 P T.b s q w fun _u w=>Y7 P T.b s w fun v=>K v w
theorem Iz {a b:Value} {w:World} {K:Value→World→Prop} (h:Mo a b w K):Q1 P F.h [a,b] w K:=Q9 (List.replicate 2 none) Tryz.func82 rfl (by decide) (by kernel_rfl) h
def Ib:V9:=[none,none,none,none,none,none,some ([29],[4,6,29,30,31,32,33,34,35,36,37,38,39,40,41,42,43,44]),none,none,none,none,none,none,none]
def Lu (f O:Value) (w:World) (K:Value→World→Prop):Prop:= box P T.b O w fun a w=>fieldAddr P T.b a 1 w fun R w=>Q2 P T.c R w fun Q w=>Q1 P F.j [f,Q] w fun M w=>J9 P .not M w fun c w=>Q0 c false w (fun w J=>J f w) fun E w=>Q0 c false w (fieldAddr P T.b a 1) fun j w=>Q0 c false w (Q2 P T.c j) fun l w=>Q0 c false w (Q1 P F.h [E,l]) fun z w=>Q0 c false w (F4 P T.b z 3) fun D w=>pick P c (.bool true) D w fun b w=>Q0 b false w (fun w J=>J f w) fun C w=>Q0 b false w (fieldAddr P T.b a 1) fun s w=>Q0 b false w (Q2 P T.c s) fun N w=>Q0 b false w (Q1 P F.h [C,N]) fun L w=>Q0 b false w (F4 P T.b L 5) fun p w=>pick P b (.bool true) p w fun v w=>X1 v (K (.int .i64 61) w) (fieldAddr P T.b a 2 w fun u w=>Q2 P T.h u w fun g w=>X3 P .len [T.h] T.e [false] [g] w fun y w=>lp (α:=Value) (.int .i64 0) w fun e r U w=>Q3 P .lss T.e (.tmp 29) (.tmp 28) r y w fun H w=>X1 H (indexAddr P T.h g r w fun i w=>Q2 P T.c i w fun h w=>Q1 P F.j [f,h] w fun t w=>J9 P .not t w fun d w=>Q0 d false w (fun w J=>J f w) fun m w=>Q0 d false w (fun w J=>J h w) fun A w=>Q0 d false w (Q1 P F.h [m,A]) fun o w=>Q0 d false w (F4 P T.b o 3) fun q w=>Q0 d false w (J9 P .not q) fun n w=>pick P d (.bool true) n w fun k w=>X1 k (K (.int .i64 62) w) (Q3 P .add T.e (.tmp 29) (.const (.int .i64 1)) r (.int .i64 1) w fun B w=>e B w)) (K (.int .i64 0) w))
theorem Gk {a b:Value} {w:World} {K:Value→World→Prop} (h:Lu a b w K):Q1 P F.bb [a,b] w K:=Q9 Ib Tryz.func45 rfl (by decide) (by kernel_rfl) h
def Yp:V9:=[none,none,none,some ([8],[4,5,8,9,10,11,12,13,14,15,16,17,18]),none,none,none,none,none,none,none]
def G8 (g j:Value) (w:World) (K:Value→World→Prop):Prop:= X3 P .len [T.i] T.e [false] [g] w fun i w=>lp (α:=Value) (.int .i64 0) w fun a b k w=>Q3 P .lss T.e (.tmp 8) (.tmp 7) b i w fun h w=>X1 h (indexAddr P T.i g b w fun d w=>Q2 P T.b d w fun e w=>Z3 P j [e] w fun f w=>X1 f (K b w) (Q3 P .add T.e (.tmp 8) (.const (.int .i64 1)) b (.int .i64 1) w fun c w=>a c w)) (K (.int .i64 (-1)) w)
theorem Yq {a b:Value} {w:World} {K:Value→World→Prop} (h:G8 a b w K):Q1 P F.o [a,b] w K:=Q9 Yp Tryz.func46 rfl (by decide) (by kernel_rfl) h
def Ku:V9:=[none,none,none,some ([7],[6,7,9,10,11,12,16,17,18,19,20,21,22,23,24,25,26,27,28,29,30,31,32,33,34,35,36,37,38,39,40,41,42,43,44,45,46,47,48,49,50,51,52]),none,none,none,none,none,none,none,none,none,none,none,none,none]
def Nl (R U V:Value) (w:World) (K:Value→World→Prop):Prop:= buildSlice P T.h 1 [(0,U)] w fun v w=>Tf P T.a2 none w fun q w=>lp (α:=Value) v w fun b E X w=>X3 P .len [T.h] T.e [false] [E] w fun O w=>Q3 P .gtr T.e (.tmp 17) (.const (.int .i64 0)) O (.int .i64 0) w fun z w=>X1 z (indexAddr P T.h E (.int .i64 0) w fun N w=>Q2 P T.c N w fun g w=>R7 P T.h E (some (.int .i64 1)) none none w fun u w=>lookup P T.a2 q g true w fun r w=>ext P r 0 w fun W w=>ext P r 1 w fun d w=>Q0 d false w (fun w J=>J R w) fun C w=>Q0 d false w (fun w J=>J g w) fun B w=>Q0 d false w (Q1 P F.j [C,B]) fun Q w=>Q0 d false w (J9 P .not Q) fun D w=>pick P d (.bool true) D w fun L w=>X1 L (b u w) (mapUpdate P T.a2 q g (.int .i64 1) w fun _u w=>Q1 P F.h [R,g] w fun A w=>W0 P T.b w fun a w=>Y0 P T.b a A w fun _u w=>Q2 P T.b a w fun y w=>Z3 P V [y] w fun H w=>X1 H (K (.bool true) w) (dr w fun c n=>Q5 c (fun f=> ∀w,n w→fieldAddr P T.b a 1 w (dk c f w)) fun f=>Q5 c (fun e=> ∀w,n w→fieldAddr P T.b a 2 w (dk c e w)) fun e=>Q5 c (fun i=> ∀k w,n w→f k w→Q2 P T.c k w (dk c i w)) fun i=>Q5 c (fun j=> ∀m w,n w→i m w→buildSlice P T.h 1 [(0,m)] w (dk c j w)) fun j=>Q5 c (fun p=> ∀l w,n w→j l w→X3 P .append [T.h,T.h] T.h [false,false] [u,l] w (dk c p w)) fun p=>Q5 c (fun o=> ∀h w,n w→e h w→Q2 P T.h h w (dk c o w)) fun o=>∀k h m l s t w,n w→f k w→e h w→i m w→j l w→p s w→o t w→ X3 P .append [T.h,T.h] T.h [false,false] [s,t] w fun M w=>b M w))) (K (.bool false) w)
theorem Kl {b c a:Value} {w:World} {K:Value→World→Prop} (h:Nl b c a w K):Q1 P F.w [b,c,a] w K:=Q9 Ku Tryz.func84 rfl (by decide) (by kernel_rfl) h
def Um (c g:Value) (w:World) (K:Value→World→Prop):Prop:= box P T.b c w fun a w=>fieldAddr P T.b a 0 w fun b w=>Q2 P T.c b w fun d w=>fieldAddr P T.b g 0 w fun f w=>Q2 P T.c f w fun e w=>Q3 P .eql T.c (.tmp 5) (.tmp 7) d e w fun h w=>K h w
theorem Sm {a b:Value} {w:World} {K:Value→World→Prop} (h:Um a b w K):Q1 P F.c8 [a,b] w K:=Q9 (List.replicate 2 none) Tryz.func85 rfl (by decide) (by kernel_rfl) h
def Wd (b e a:Value) (w:World) (K:Value→World→Prop):Prop:= Q2 P T.r e w fun c w=>E7 P (.func F.c8) [] [a] w fun d w=>Q1 P F.w [c,b,d] w fun f w=>K f w
theorem Fp {b c a:Value} {w:World} {K:Value→World→Prop} (h:Wd b c a w K):Q1 P F.b8 [b,c,a] w K:=Q9 (List.replicate 2 none) Tryz.func83 rfl (by decide) (by kernel_rfl) h
def Lw (j l:Value) (w:World) (K:Value→World→Prop):Prop:= box P T.r j w fun c w=>box P T.b l w fun a w=>E7 P (.func F.b8) [] [c,a] w fun i w=>fieldAddr P T.b a 1 w fun m w=>Q2 P T.c m w fun k w=>Z3 P i [k] w fun b w=>Q0 b false w (fieldAddr P T.b a 2) fun g w=>Q0 b false w (Q2 P T.h g) fun e w=>Q0 b false w (fun w J=>J i w) fun d w=>Q0 b false w (Q1 P F.c [e,d]) fun f w=>pick P b (.bool true) f w fun h w=>K h w
theorem Ik {a b:Value} {w:World} {K:Value→World→Prop} (h:Lw a b w K):Q1 P F.bk [a,b] w K:=Q9 (List.replicate 3 none) Tryz.func47 rfl (by decide) (by kernel_rfl) h
def Sv:V9:=[none,none,none,some ([8],[4,5,8,9,10,11,12,13,14,15,16,17,18]),none,none,none,none,none,none,none]
def Un (g j:Value) (w:World) (K:Value→World→Prop):Prop:= X3 P .len [T.a7] T.e [false] [g] w fun i w=>lp (α:=Value) (.int .i64 0) w fun a b k w=>Q3 P .lss T.e (.tmp 8) (.tmp 7) b i w fun h w=>X1 h (indexAddr P T.a7 g b w fun d w=>Q2 P T.e d w fun e w=>Q3 P .eql T.e (.tmp 11) (.tmp 15) j e w fun f w=>X1 f (K b w) (Q3 P .add T.e (.tmp 8) (.const (.int .i64 1)) b (.int .i64 1) w fun c w=>a c w)) (K (.int .i64 (-1)) w)
theorem Sd {a b:Value} {w:World} {K:Value→World→Prop} (h:Un a b w K):Q1 P F.c9 [a,b] w K:=Q9 Sv Tryz.func139 rfl (by decide) (by kernel_rfl) h
def Yg (a c:Value) (w:World) (K:Value→World→Prop):Prop:= Q1 P F.c9 [a,c] w fun b w=>Q3 P .geq T.e (.tmp 7) (.const (.int .i64 0)) b (.int .i64 0) w fun d w=>K d w
theorem Eu {a b:Value} {w:World} {K:Value→World→Prop} (h:Yg a b w K):Q1 P F.aH [a,b] w K:=Q9 (List.replicate 2 none) Tryz.func88 rfl (by decide) (by kernel_rfl) h
def Fg:V9:=[none,none,none,none,some ([35],[7,35,36,37,38,39,40,41,42,43,44,45,46,47]),none,none,none,none]
def Qu (a0 a1 a2 a3 a4:Value) (w:World) (K:Value→World→Prop):Prop:= Q2 P T.e a1 w fun t9 w=>Q3 P .lss T.e (.tmp 8) (.tmp 9) a0 t9 w fun R w=>Q0 R false w (Q2 P T.a7 a2) fun ax w=>Q0 R false w (fun w J=>J a0 w) fun av w=>Q0 R false w (Q1 P F.aH [ax,av]) fun ag w=>pick P R (.bool true) ag w fun ah w=>X1 ah (K (.tuple #[]) w) (dr w fun a b=>Q5 a (fun U=> ∀w,b w→Q2 P T.r a3 w (dk a U w)) fun U=>Q5 a (fun M=> ∀B w,b w→U B w→nilCheck P B w (dk a M w)) fun M=>Q5 a (fun c=> ∀E w,b w→M E w→fieldAddr P T.a0 E 0 w (dk a c w)) fun c=>Q5 a (fun C=> ∀k w,b w→c k w→Q2 P T.i k w (dk a C w)) fun C=>Q5 a (fun h=> ∀l w,b w→C l w→indexAddr P T.i l a0 w (dk a h w)) fun h=>Q5 a (fun D=> ∀o w,b w→h o w→fieldAddr P T.b o 1 w (dk a D w)) fun D=>Q5 a (fun z=> ∀V w,b w→D V w→Q2 P T.c V w (dk a z w)) fun z=>Q5 a (fun X=> ∀Q w,b w→z Q w→buildSlice P T.h 1 [(0,Q)] w (dk a X w)) fun X=>Q5 a (fun H=> ∀w,b w→Q2 P T.r a3 w (dk a H w)) fun H=>Q5 a (fun m=> ∀u w,b w→H u w→nilCheck P u w (dk a m w)) fun m=>Q5 a (fun N=> ∀s w,b w→m s w→fieldAddr P T.a0 s 0 w (dk a N w)) fun N=>Q5 a (fun r=> ∀p w,b w→N p w→Q2 P T.i p w (dk a r w)) fun r=>Q5 a (fun i=> ∀y w,b w→r y w→indexAddr P T.i y a0 w (dk a i w)) fun i=>Q5 a (fun q=> ∀O w,b w→i O w→fieldAddr P T.b O 2 w (dk a q w)) fun q=>Q5 a (fun W=> ∀d w,b w→q d w→Q2 P T.h d w (dk a W w)) fun W=>∀B E k l o V Q ab u s p y O d ad w,b w→U B w→M E w→c k w→C l w→h o w→D V w→z Q w→X ab w→H u w→m s w→N p w→r y w→i O w→q d w→W ad w→ X3 P .append [T.h,T.h] T.h [false,false] [ab,ad] w fun ac w=>X3 P .len [T.h] T.e [false] [ac] w fun aw w=>lp (α:=Value) (.int .i64 0) w fun t x4 d_ w=>Q3 P .lss T.e (.tmp 35) (.tmp 34) x4 aw w fun ao w=>X1 ao (indexAddr P T.h ac x4 w fun an w=>Q2 P T.c an w fun ai w=>dr w fun a b=>Q5 a (fun Y=> ∀w,b w→Q2 P T.ak a4 w (dk a Y w)) fun Y=>Q5 a (fun v=> ∀w,b w→Q2 P T.r a3 w (dk a v w)) fun v=>Q5 a (fun g=> ∀j w,b w→v j w→nilCheck P j w (dk a g w)) fun g=>Q5 a (fun L=> ∀n w,b w→g n w→fieldAddr P T.a0 n 1 w (dk a L w)) fun L=>Q5 a (fun A=> ∀f w,b w→L f w→Q2 P T.a2 f w (dk a A w)) fun A=>Q5 a (fun Z=> ∀e w,b w→A e w→lookup P T.a2 e ai false w (dk a Z w)) fun Z=>∀ae j n f e af w,b w→Y ae w→v j w→g n w→L f w→A e w→Z af w→ Z3 P ae [af] w fun a6 w=>Q3 P .add T.e (.tmp 35) (.const (.int .i64 1)) x4 (.int .i64 1) w fun aq w=>t aq w) (Q2 P T.a7 a2 w fun ap w=>buildSlice P T.a7 1 [(0,a0)] w fun ak w=>X3 P .append [T.a7,T.a7] T.a7 [false,false] [ap,ak] w fun ar w=>Y0 P T.a7 a2 ar w fun _u w=>K (.tuple #[]) w))
theorem Vz {c e a b d:Value} {w:World} {K:Value→World→Prop} (h:Qu c e a b d w K):Q1 P F.y [c,e,a,b,d] w K:=Q9 Fg Tryz.func87 rfl (by decide) (by kernel_rfl) h
def Py:V9:=[none,none,none,none,none,none,some ([7],[7,10,11,12,13,14,15,16,17,18,19,20,21]),none,none,none,none]
def Mz (p q:Value) (w:World) (K:Value→World→Prop):Prop:= box P T.r p w fun d w=>box P T.e q w fun b w=>W0 P T.a7 w fun c w=>W0 P T.ak w fun a w=>E7 P (.func F.y) [] [b,c,d,a] w fun t w=>Y0 P T.ak a t w fun _u w=>Q2 P T.e b w fun s w=>lp (α:=Value) s w fun e j u w=>Q2 P T.r d w fun k w=>nilCheck P k w fun n w=>fieldAddr P T.a0 n 0 w fun m w=>Q2 P T.i m w fun f w=>X3 P .len [T.i] T.e [false] [f] w fun g w=>Q3 P .lss T.e (.tmp 10) (.tmp 15) j g w fun l w=>X1 l (Q2 P T.ak a w fun i w=>Z3 P i [j] w fun r w=>Q3 P .add T.e (.tmp 17) (.const (.int .i64 1)) j (.int .i64 1) w fun h w=>e h w) (Q2 P T.a7 c w fun o w=>K o w)
theorem Ix {a b:Value} {w:World} {K:Value→World→Prop} (h:Mz a b w K):Q1 P F.bl [a,b] w K:=Q9 Py Tryz.func48 rfl (by decide) (by kernel_rfl) h
def Zo:V9:=[none,some ([2,3],[2,3,7,8,9,10,11,12,13,14,15,16,17,18,19,20,21,22,23,24,25,26,27]),none,none,none]
def I1 (j:Value) (w:World) (K:Value→World→Prop):Prop:= X3 P .len [T.i] T.e [false] [j] w fun t w=>Q3 P .sub T.e (.tmp 5) (.const (.int .i64 1)) t (.int .i64 1) w fun s w=>lp (α:=Value×Value) ((.int .i64 0),s) w fun a g u w=>Q3 P .lss T.e (.tmp 7) (.tmp 8) g.1 g.2 w fun r w=>X1 r (dr w fun f k=>Q5 f (fun d=> ∀w,k w→indexAddr P T.i j g.2 w (dk f d w)) fun d=>Q5 f (fun b=> ∀w,k w→indexAddr P T.i j g.1 w (dk f b w)) fun b=>Q5 f (fun h=> ∀e w,k w→d e w→Q2 P T.b e w (dk f h w)) fun h=>Q5 f (fun i=> ∀c w,k w→b c w→Q2 P T.b c w (dk f i w)) fun i=>∀e c l m w,k w→d e w→b c w→h l w→i m w→ indexAddr P T.i j g.1 w fun o w=>Y0 P T.b o l w fun _u w=>indexAddr P T.i j g.2 w fun n w=>Y0 P T.b n m w fun _u w=>Q3 P .add T.e (.tmp 10) (.const (.int .i64 1)) g.1 (.int .i64 1) w fun p w=>Q3 P .sub T.e (.tmp 12) (.const (.int .i64 1)) g.2 (.int .i64 1) w fun q w=>a (p,q) w) (K (.tuple #[]) w)
theorem Zq {a:Value} {w:World} {K:Value→World→Prop} (h:I1 a w K):Q1 P F.q [a] w K:=Q9 Zo Tryz.func117 rfl (by decide) (by kernel_rfl) h
def Q0b:V9:=[none,none,none,none,some ([5,6],[5,6,8,9,10,11,12,13,14,15,16,17,18,19,20]),none,none,none,none,none]
def Ou (h j:Value) (w:World) (K:Value→World→Prop):Prop:= lp (α:=Value×Value) ((.slice none 0 0),j) w fun a b l w=>Q1 P F.j [h,b.2] w fun i w=>X1 i (Q1 P F.h [h,b.2] w fun e w=>buildSlice P T.i 1 [(0,e)] w fun c w=>X3 P .append [T.i,T.i] T.i [false,false] [b.1,c] w fun d w=>Q1 P F.h [h,b.2] w fun g w=>F4 P T.b g 1 w fun f w=>a (d,f) w) (Q1 P F.q [b.1] w fun k w=>K b.1 w)
theorem Q00 {a b:Value} {w:World} {K:Value→World→Prop} (h:Ou a b w K):Q1 P F.aS [a,b] w K:=Q9 Q0b Tryz.func70 rfl (by decide) (by kernel_rfl) h
def Fx:V9:=[none,none,none,none,some ([5,12],[5,7,12,13,14,15,16,17,18,19,20]),none,none,none,none,none]
def Ls (m n:Value) (w:World) (K:Value→World→Prop):Prop:= Q1 P F.aS [m,n] w fun c w=>X3 P .len [T.i] T.e [false] [c] w fun i w=>lp (α:=Value×Value) ((.slice none 0 0),(.int .i64 0)) w fun b d o w=>Q3 P .lss T.e (.tmp 12) (.tmp 11) d.2 i w fun l w=>X1 l (indexAddr P T.i c d.2 w fun j w=>Q2 P T.b j w fun k w=>W0 P T.b w fun a w=>Y0 P T.b a k w fun _u w=>fieldAddr P T.b a 6 w fun f w=>Q2 P T.k f w fun e w=>X3 P .append [T.k,T.k] T.k [false,false] [d.1,e] w fun g w=>Q3 P .add T.e (.tmp 12) (.const (.int .i64 1)) d.2 (.int .i64 1) w fun h w=>b (g,h) w) (K d.1 w)
theorem Ga {a b:Value} {w:World} {K:Value→World→Prop} (h:Ls a b w K):Q1 P F.a2 [a,b] w K:=Q9 Fx Tryz.func36 rfl (by decide) (by kernel_rfl) h
def Wc (c g:Value) (w:World) (K:Value→World→Prop):Prop:= box P T.n c w fun a w=>fieldAddr P T.n a 0 w fun b w=>Q2 P T.c b w fun d w=>Q2 P T.c g w fun f w=>Q3 P .eql T.c (.tmp 5) (.tmp 6) d f w fun e w=>K e w
theorem Fa {a b:Value} {w:World} {K:Value→World→Prop} (h:Wc a b w K):Q1 P F.cg [a,b] w K:=Q9 (List.replicate 2 none) Tryz.func141 rfl (by decide) (by kernel_rfl) h
def Nz (e g d:Value) (w:World) (K:Value→World→Prop):Prop:= box P T.c d w fun a w=>Q1 P F.a2 [e,g] w fun f w=>E7 P (.func F.cg) [] [a] w fun c w=>Q1 P F.i [f,c] w fun b w=>K b w
theorem Px {b c a:Value} {w:World} {K:Value→World→Prop} (h:Nz b c a w K):Q1 P F.bn [b,c,a] w K:=Q9 (List.replicate 2 none) Tryz.func89 rfl (by decide) (by kernel_rfl) h
def Xb (a d:Value) (w:World) (K:Value→World→Prop):Prop:= nilCheck P a w fun c w=>indexAddr P T.ab c d w fun e w=>Q2 P T.t e w fun b w=>K b w
theorem Ob {a b:Value} {w:World} {K:Value→World→Prop} (h:Xb a b w K):Q1 P F.az [a,b] w K:=Q9 (List.replicate 2 none) Tryz.func187 rfl (by decide) (by kernel_rfl) h
def Ss:V9:=[none,some ([0],[0,5,6,7,8,9,10,11,12,13,14,15,16,17,18,19,20]),some ([0],[0,5,6,7,8,9,10,11,12,13,14,15,16,17,18,19,20]),none,none,none,none,none]
def Jx (l m:Value) (w:World) (K:Value→World→Prop):Prop:= jn (α:=Value) w (fun k w=>lp (α:=Value) l w fun a b q w=>X3 P .len [T.c] T.e [false] [b] w fun n w=>Q3 P .gtr T.e (.tmp 6) (.const (.int .i64 0)) n (.int .i64 0) w fun p w=>X1 p (X3 P .len [T.c] T.e [false] [b] w fun g w=>Q3 P .sub T.e (.tmp 11) (.const (.int .i64 1)) g (.int .i64 1) w fun j w=>C3 P T.c b j w fun i w=>Q1 P F.az [m,i] w fun c w=>J9 P .not c w fun d w=>X1 d (k b w) (X3 P .len [T.c] T.e [false] [b] w fun e w=>Q3 P .sub T.e (.tmp 18) (.const (.int .i64 1)) e (.int .i64 1) w fun f w=>R7 P T.c b none (some f) none w fun h w=>a h w)) (k b w)) fun o q w=>K o w
theorem Ry {a b:Value} {w:World} {K:Value→World→Prop} (h:Jx a b w K):Q1 P F.ap [a,b] w K:=Q9 Ss Tryz.func158 rfl (by decide) (by kernel_rfl) h
end Go.Proofs.YtjdiakhipmggjaaGreatDoor

set_option maxRecDepth 100000
namespace Go.Proofs.YtjdiakhipmggjaaGreatDoor
open Go.Emb
def Ot (d c:Value) (w:World) (K:Value→World→Prop):Prop:= Q3 P .eql T.c (.tmp 7) (.const (.string ⟨#[]⟩)) d (.string ⟨#[]⟩) w fun t w=>Q0 t false w (fun w J=>J c w) fun s w=>Q0 t false w (Q3 P .eql T.c (.tmp 10) (.const (.string ⟨#[]⟩)) s (.string ⟨#[]⟩)) fun n w=>pick P t (.bool true) n w fun r w=>X1 r (K d w) (X3 P .len [T.c] T.e [false] [c] w fun g w=>Q3 P .eql T.e (.tmp 15) (.const (.int .i64 1)) g (.int .i64 1) w fun b w=>Q0 b true w (fun w J=>J c w) fun i w=>Q0 b true w (C3 P T.c i (.int .i64 0)) fun j w=>Q0 b true w (Q3 P .lss T.a3 (.tmp 19) (.const (.int .u8 128)) j (.int .u8 128)) fun p w=>pick P b p (.bool false) w fun l w=>X1 l (C3 P T.c c (.int .i64 0) w fun h w=>Q1 P F.cR [d,h] w fun m w=>K m w) (Q1 P F.ch [c] w fun e w=>ext P e 0 w fun f w=>ext P e 1 w fun q w=>W0 P T.ab w fun a w=>Y0 P T.ab a f w fun _u w=>X1 q (Q1 P F.ap [d,a] w fun k w=>K k w) (Q1 P F.cO [d,c] w fun o w=>K o w)))
theorem Q08 {a b:Value} {w:World} {K:Value→World→Prop} (h:Ot a b w K):Q1 P F.bH [a,b] w K:=Q9 (List.replicate 12 none) Tryz.func116 rfl (by decide) (by kernel_rfl) h
def Di (l j:Value) (w:World) (K:Value→World→Prop):Prop:= Q3 P .eql T.c (.tmp 6) (.const (.string ⟨#[110,117,108,108]⟩)) j (.string ⟨#[110,117,108,108]⟩) w fun m w=>X1 m (K (.bool true) w) (Q1 P F.bH [j,(.string ⟨#[91,93]⟩)] w fun k w=>Q1 P F.z [j] w fun a w=>Q0 a true w (fun w J=>J k w) fun h w=>Q0 a true w (Q1 P F.aN [h]) fun g w=>Q0 a true w (fun w J=>J g w) fun b w=>Q0 b false w (fun w J=>J l w) fun i w=>Q0 b false w (fun w J=>J k w) fun e w=>Q0 b false w (Q1 P F.j [i,e]) fun c w=>Q0 a true w (pick P b (.bool true) c) fun d w=>pick P a d (.bool false) w fun f w=>K f w)
theorem Q07 {a b:Value} {w:World} {K:Value→World→Prop} (h:Di a b w K):Q1 P F.s [a,b] w K:=Q9 (List.replicate 6 none) Tryz.func69 rfl (by decide) (by kernel_rfl) h
def Jk (c f:Value) (w:World) (K:Value→World→Prop):Prop:= Q3 P .neq T.c (.tmp 4) (.const (.string ⟨#[110,117,108,108]⟩)) c (.string ⟨#[110,117,108,108]⟩) w fun a w=>Q0 a true w (Q2 P T.r f) fun e w=>Q0 a true w (fun w J=>J c w) fun g w=>Q0 a true w (Q1 P F.s [e,g]) fun d w=>pick P a d (.bool false) w fun b w=>K b w
theorem Sf {a b:Value} {w:World} {K:Value→World→Prop} (h:Jk a b w K):Q1 P F.am [a,b] w K:=Q9 (List.replicate 2 none) Tryz.func90 rfl (by decide) (by kernel_rfl) h
def Jv (b e:Value) (w:World) (K:Value→World→Prop):Prop:= Q2 P T.a4 e w fun a w=>Z3 P a [b] w fun d w=>J9 P .not d w fun c w=>K c w
theorem Ru {a b:Value} {w:World} {K:Value→World→Prop} (h:Jv a b w K):Q1 P F.an [a,b] w K:=Q9 (List.replicate 2 none) Tryz.func91 rfl (by decide) (by kernel_rfl) h
def Q0j (s:Value) (w:World) (K:Value→World→Prop):Prop:= box P T.d s w fun b w=>dr w fun a c=>Q5 a (fun f=> ∀w,c w→fieldAddr P T.d b 1 w (dk a f w)) fun f=>Q5 a (fun e=> ∀w,c w→fieldAddr P T.d b 2 w (dk a e w)) fun e=>Q5 a (fun d=> ∀g w,c w→f g w→Q2 P T.h g w (dk a d w)) fun d=>Q5 a (fun k=> ∀h w,c w→d h w→Q1 P F.cN [h,(.string ⟨#[44]⟩)] w (dk a k w)) fun k=>Q5 a (fun i=> ∀l w,c w→k l w→Q3 P .add T.c (.const (.string ⟨#[40]⟩)) (.tmp 5) (.string ⟨#[40]⟩) l w (dk a i w)) fun i=>Q5 a (fun o=> ∀j w,c w→i j w→Q3 P .add T.c (.tmp 6) (.const (.string ⟨#[41]⟩)) j (.string ⟨#[41]⟩) w (dk a o w)) fun o=>Q5 a (fun n=> ∀m w,c w→e m w→Q2 P T.c m w (dk a n w)) fun n=>∀g m h l j r q w,c w→f g w→e m w→d h w→k l w→i j w→o r w→n q w→ Q3 P .add T.c (.tmp 7) (.tmp 9) r q w fun p w=>K p w
theorem Q5v {a:Value} {w:World} {K:Value→World→Prop} (h:Q0j a w K):Q1 P F.cf [a] w K:=Q9 (List.replicate 2 none) Tryz.func95 rfl (by decide) (by kernel_rfl) h
def Zd (Y X a2 Z:Value) (w:World) (K:Value→World→Prop):Prop:= box P T.d Y w fun b w=>Q2 P T.w X w fun t9 w=>fieldAddr P T.d b 0 w fun W w=>Q2 P T.c W w fun R w=>lookup P T.w t9 R true w fun H w=>ext P H 0 w fun U w=>ext P H 1 w fun e w=>dr w fun a d=>Q5 a (fun v=> ∀w,d w→fieldAddr P T.d b 0 w (dk a v w)) fun v=>Q5 a (fun p=> ∀w,d w→fieldAddr P T.d b 0 w (dk a p w)) fun p=>Q5 a (fun n=> ∀w,d w→fieldAddr P T.b a2 0 w (dk a n w)) fun n=>Q5 a (fun g=> ∀w,d w→Q2 P T.w X w (dk a g w)) fun g=>Q5 a (fun s=> ∀o w,d w→v o w→Q2 P T.c o w (dk a s w)) fun s=>Q5 a (fun z=> ∀w,d w→Q2 P T.w Z w (dk a z w)) fun z=>Q5 a (fun B=> ∀i w,d w→p i w→Q2 P T.c i w (dk a B w)) fun B=>Q5 a (fun h=> ∀w,d w→Q2 P T.d b w (dk a h w)) fun h=>Q5 a (fun q=> ∀k w,d w→h k w→Q1 P F.cf [k] w (dk a q w)) fun q=>Q5 a (fun A=> ∀u w,d w→n u w→Q2 P T.c u w (dk a A w)) fun A=>Q5 a (fun r=> ∀c t w,d w→g c w→s t w→mapEntry P T.w c t w (dk a r w)) fun r=>Q5 a (fun j=> ∀m w,d w→r m w→ext P m 1 w (dk a j w)) fun j=>Q5 a (fun f=> ∀c l y w,d w→g c w→j l w→q y w→entryStore P T.w c l y w (dk a f w)) fun f=>∀o i u c t D E k y C m l M w,d w→v o w→p i w→n u w→g c w→s t w→z D w→B E w→h k w→q y w→A C w→r m w→j l w→f M w→ mapUpdate P T.w D E C w fun _u w=>Q0 e true w (fun w J=>J U w) fun L w=>Q0 e true w (Q2 P T.d b) fun V w=>Q0 e true w (Q1 P F.cf [V]) fun N w=>Q0 e true w (Q3 P .neq T.c (.tmp 29) (.tmp 31) L N) fun Q w=>pick P e Q (.bool false) w fun O w=>K O w
theorem Hl {c d a b:Value} {w:World} {K:Value→World→Prop} (h:Zd c d a b w K):Q1 P F.aK [c,d,a,b] w K:=Q9 (List.replicate 4 none) Tryz.func94 rfl (by decide) (by kernel_rfl) h
def Js (c g b:Value) (w:World) (K:Value→World→Prop):Prop:= box P T.b c w fun a w=>fieldAddr P T.b a 7 w fun d w=>Q2 P T.j d w fun f w=>E7 P (.func F.aK) [] [g,a,b] w fun e w=>Q1 P F.a [f,e] w fun h w=>K h w
theorem Sq {b c a:Value} {w:World} {K:Value→World→Prop} (h:Js b c a w K):Q1 P F.aY [b,c,a] w K:=Q9 (List.replicate 2 none) Tryz.func92 rfl (by decide) (by kernel_rfl) h
def Q0m (c g:Value) (w:World) (K:Value→World→Prop):Prop:= box P T.d c w fun a w=>fieldAddr P T.d a 0 w fun b w=>Q2 P T.c b w fun d w=>Q2 P T.c g w fun f w=>Q3 P .eql T.c (.tmp 5) (.tmp 6) d f w fun e w=>K e w
theorem Q5z {a b:Value} {w:World} {K:Value→World→Prop} (h:Q0m a b w K):Q1 P F.cS [a,b] w K:=Q9 (List.replicate 2 none) Tryz.func179 rfl (by decide) (by kernel_rfl) h
def Q3j (m n:Value) (w:World) (K:Value→World→Prop):Prop:= box P T.b m w fun b w=>box P T.c n w fun a w=>W0 P T.d w fun d w=>fieldAddr P T.b b 7 w fun p w=>Q2 P T.j p w fun q w=>E7 P (.func F.cS) [] [a] w fun o w=>Q1 P F.g [q,o] w fun c w=>Q3 P .lss T.e (.tmp 11) (.const (.int .i64 0)) c (.int .i64 0) w fun l w=>X1 l (H2 P T.d [] w fun k w=>Y0 P T.d d k w fun _u w=>Y7 P T.d d w fun i=>K (.tuple #[i,(.bool false)]) w) (fieldAddr P T.b b 7 w fun e w=>Q2 P T.j e w fun f w=>indexAddr P T.j f c w fun j w=>Q2 P T.d j w fun g w=>Q1 P F.c7 [g] w fun h w=>Y0 P T.d d h w fun _u w=>Y7 P T.d d w fun i=>K (.tuple #[i,(.bool true)]) w)
theorem Q8b {a b:Value} {w:World} {K:Value→World→Prop} (h:Q3j a b w K):Q1 P F.cA [a,b] w K:=Q9 (List.replicate 6 none) Tryz.func144 rfl (by decide) (by kernel_rfl) h
def Q04:V9:=[none,none,none,some ([19],[6,8,10,11,12,13,14,15,19,20,21,22,23,24,25,26,27,28,29,30,31,32,33,34,35,36,37,38,39,40,41,42,43,44,45,46,47]),none,none,none,none,none,none,none,none,none,none,none,none]
def Ol (s M L:Value) (w:World) (K:Value→World→Prop):Prop:= box P T.b M w fun g w=>W0 P T.d w fun i w=>fieldAddr P T.b g 2 w fun C w=>Q2 P T.h C w fun n w=>X3 P .len [T.h] T.e [false] [n] w fun v w=>lp (α:=Value) (.int .i64 0) w fun c B N w=>Q3 P .lss T.e (.tmp 19) (.tmp 18) B v w fun E w=>X1 E (indexAddr P T.h n B w fun z w=>Q2 P T.c z w fun h w=>Q1 P F.h [s,h] w fun A w=>Q1 P F.cA [A,L] w fun l w=>ext P l 0 w fun q w=>ext P l 1 w fun J w=>W0 P T.d w fun a w=>Y0 P T.d a q w fun _u w=>X1 J (dr w fun o j=>Q5 o (fun f=> ∀w,j w→Q2 P T.d a w (dk o f w)) fun f=>∀k w,j w→f k w→ Y0 P T.d i k w fun _u w=>Y7 P T.d i w fun p=>K (.tuple #[h,p,(.bool true)]) w) (Q1 P F.h [s,h] w fun t w=>Q1 P F.aU [s,t,L] w fun e w=>ext P e 0 w fun y w=>ext P e 1 w fun u w=>ext P e 2 w fun r w=>W0 P T.d w fun b w=>Y0 P T.d b u w fun _u w=>X1 r (dr w fun o j=>Q5 o (fun d=> ∀w,j w→Q2 P T.d b w (dk o d w)) fun d=>∀m w,j w→d m w→ Y0 P T.d i m w fun _u w=>Y7 P T.d i w fun p=>K (.tuple #[y,p,(.bool true)]) w) (Q3 P .add T.e (.tmp 19) (.const (.int .i64 1)) B (.int .i64 1) w fun H w=>c H w))) (H2 P T.d [] w fun D w=>Y0 P T.d i D w fun _u w=>Y7 P T.d i w fun p=>K (.tuple #[(.string ⟨#[]⟩),p,(.bool false)]) w)
theorem Ak {b c a:Value} {w:World} {K:Value→World→Prop} (h:Ol b c a w K):Q1 P F.aU [b,c,a] w K:=Q9 Q04 Tryz.func145 rfl (by decide) (by kernel_rfl) h
def Gi:V9:=[none,none,none,none,none,some ([26],[6,8,11,12,13,26,27,28,29,30,31,32,33,34,35,36,37,38,39,40]),none,none,none,none,none,none,none,none,none,some ([43],[6,8,15,16,17,18,43,44,45,46,47,48,49,50,51,52,53,54,55,56,57,58]),none,none,none,none,none,none,none,none]
def Wy (Y a1 Z:Value) (w:World) (K:Value→World→Prop):Prop:= W0 P T.d w fun q w=>Q1 P F.aS [Y,a1] w fun e w=>Q1 P F.q [e] w fun ac w=>X3 P .len [T.i] T.e [false] [e] w fun M w=>lp (α:=Value) (.int .i64 0) w fun h B d_ w=>Q3 P .lss T.e (.tmp 26) (.tmp 25) B M w fun H w=>X1 H (indexAddr P T.i e B w fun O w=>Q2 P T.b O w fun y w=>W0 P T.b w fun a w=>Y0 P T.b a y w fun _u w=>Q2 P T.b a w fun A w=>Q1 P F.cA [A,Z] w fun s w=>ext P s 0 w fun X w=>ext P s 1 w fun J w=>W0 P T.d w fun c w=>Y0 P T.d c X w fun _u w=>X1 J (dr w fun j k=>Q5 j (fun g=> ∀w,k w→fieldAddr P T.b a 0 w (dk j g w)) fun g=>Q5 j (fun l=> ∀i w,k w→g i w→Q2 P T.c i w (dk j l w)) fun l=>Q5 j (fun n=> ∀w,k w→Q2 P T.d c w (dk j n w)) fun n=>∀i r t w,k w→g i w→l r w→n t w→ Y0 P T.d q t w fun _u w=>Y7 P T.d q w fun v=>K (.tuple #[r,v,(.bool true)]) w) (Q3 P .add T.e (.tmp 26) (.const (.int .i64 1)) B (.int .i64 1) w fun D w=>h D w)) (X3 P .len [T.i] T.e [false] [e] w fun C w=>lp (α:=Value) (.int .i64 0) w fun f o d_ w=>Q3 P .lss T.e (.tmp 43) (.tmp 42) o C w fun R w=>X1 R (indexAddr P T.i e o w fun W w=>Q2 P T.b W w fun Q w=>W0 P T.b w fun d w=>Y0 P T.b d Q w fun _u w=>Q2 P T.b d w fun N w=>Q1 P F.aU [Y,N,Z] w fun m w=>ext P m 0 w fun U w=>ext P m 1 w fun V w=>ext P m 2 w fun z w=>W0 P T.d w fun b w=>Y0 P T.d b V w fun _u w=>X1 z (dr w fun j k=>Q5 j (fun p=> ∀w,k w→Q2 P T.d b w (dk j p w)) fun p=>∀u w,k w→p u w→ Y0 P T.d q u w fun _u w=>Y7 P T.d q w fun v=>K (.tuple #[U,v,(.bool true)]) w) (Q3 P .add T.e (.tmp 43) (.const (.int .i64 1)) o (.int .i64 1) w fun E w=>f E w)) (H2 P T.d [] w fun L w=>Y0 P T.d q L w fun _u w=>Y7 P T.d q w fun v=>K (.tuple #[(.string ⟨#[]⟩),v,(.bool false)]) w))
theorem Ge {b c a:Value} {w:World} {K:Value→World→Prop} (h:Wy b c a w K):Q1 P F.bd [b,c,a] w K:=Q9 Gi Tryz.func96 rfl (by decide) (by kernel_rfl) h
def Fe:V9:=[none,none,none,some ([21],[4,6,21,22,23,24,25,26,27,28,29,30,31,32]),none,none,none,none,none,none,none,none,none,some ([37],[4,9,37,38,39,40,41,42,43,44,45,46]),none,none,none,none,none,none,none,none,some ([50],[4,11,50,51,52,53,54,55,56,57,58,59,60,61,62,63,64,65,66,67,68,69,70]),none,none,none,none,none,none,none,none,none,none,none,none,none,none,none,some ([],[4,14,15,16,17,82,83,84,85,86,87,88,89,90,91,92,93,94,95,96,97,98,99,100]),none,none,none,none,none,none,none]
def Wa (a0 a1:Value) (w:World) (K:Value→World→Prop):Prop:= box P T.r a0 w fun v w=>box P T.b a1 w fun l w=>fieldAddr P T.b l 6 w fun H w=>Q2 P T.k H w fun n w=>X3 P .len [T.k] T.e [false] [n] w fun bd w=>lp (α:=Value) (.int .i64 0) w fun g R d_ w=>Q3 P .lss T.e (.tmp 21) (.tmp 20) R bd w fun bn w=>X1 bn (indexAddr P T.k n R w fun bm w=>Q2 P T.n bm w fun E w=>W0 P T.n w fun t6 w=>Y0 P T.n t6 E w fun _u w=>Q2 P T.r v w fun a4 w=>fieldAddr P T.b l 1 w fun N w=>Q2 P T.c N w fun L w=>fieldAddr P T.n t6 0 w fun a8 w=>Q2 P T.c a8 w fun y w=>Q1 P F.bn [a4,L,y] w fun ad w=>Q3 P .geq T.e (.tmp 30) (.const (.int .i64 0)) ad (.int .i64 0) w fun aj w=>X1 aj (K (.int .i64 64) w) (Q3 P .add T.e (.tmp 21) (.const (.int .i64 1)) R (.int .i64 1) w fun M w=>g M w)) (E7 P (.func F.am) [] [v] w fun J w=>W0 P T.a4 w fun u w=>Y0 P T.a4 u J w fun _u w=>fieldAddr P T.b l 6 w fun bi w=>Q2 P T.k bi w fun p w=>X3 P .len [T.k] T.e [false] [p] w fun ba w=>lp (α:=Value) (.int .i64 0) w fun d h d_ w=>Q3 P .lss T.e (.tmp 37) (.tmp 36) h ba w fun al w=>X1 al (indexAddr P T.k p h w fun V w=>Q2 P T.n V w fun D w=>W0 P T.n w fun t9 w=>Y0 P T.n t9 D w fun _u w=>Q2 P T.a4 u w fun aq w=>fieldAddr P T.n t9 1 w fun ao w=>Q2 P T.c ao w fun A w=>Z3 P aq [A] w fun a9 w=>J9 P .not a9 w fun be w=>X1 be (K (.int .i64 65) w) (Q3 P .add T.e (.tmp 37) (.const (.int .i64 1)) h (.int .i64 1) w fun U w=>d U w)) (fieldAddr P T.b l 7 w fun bf w=>Q2 P T.j bf w fun s w=>X3 P .len [T.j] T.e [false] [s] w fun a7 w=>lp (α:=Value) (.int .i64 0) w fun b i d_ w=>Q3 P .lss T.e (.tmp 50) (.tmp 49) i a7 w fun ab w=>X1 ab (indexAddr P T.j s i w fun bb w=>Q2 P T.d bb w fun bc w=>W0 P T.d w fun f w=>Y0 P T.d f bc w fun _u w=>Q2 P T.a4 u w fun ai w=>fieldAddr P T.d f 2 w fun a5 w=>Q2 P T.c a5 w fun am w=>Z3 P ai [am] w fun bh w=>J9 P .not bh w fun e w=>Q0 e true w (fieldAddr P T.d f 2) fun az w=>Q0 e true w (Q2 P T.c az) fun ae w=>Q0 e true w (Q3 P .neq T.c (.tmp 61) (.const (.string ⟨#[]⟩)) ae (.string ⟨#[]⟩)) fun ap w=>pick P e ap (.bool false) w fun a w=>Q0 a false w (fieldAddr P T.d f 1) fun Z w=>Q0 a false w (Q2 P T.h Z) fun a6 w=>Q0 a false w (E7 P (.func F.an) [] [u]) fun an w=>Q0 a false w (Q1 P F.c [a6,an]) fun X w=>pick P a (.bool true) X w fun C w=>X1 C (K (.int .i64 65) w) (Q3 P .add T.e (.tmp 50) (.const (.int .i64 1)) i (.int .i64 1) w fun bk w=>b bk w)) (Tf P T.w none w fun af w=>Tf P T.w none w fun ar w=>W0 P T.w w fun t w=>W0 P T.w w fun j w=>Y0 P T.w t af w fun _u w=>Y0 P T.w j ar w fun _u w=>Q2 P T.r v w fun Y w=>fieldAddr P T.b l 0 w fun a2 w=>Q2 P T.c a2 w fun ah w=>E7 P (.func F.aY) [] [t,j] w fun ay w=>Q1 P F.w [Y,ah,ay] w fun ag w=>X1 ag (K (.int .i64 66) w) (fieldAddr P T.b l 4 w fun aw w=>Q2 P T.t aw w fun Q w=>X1 Q (K (.int .i64 0) w) (Q2 P T.w j w fun aa w=>rng P T.w aa w fun o w=>lp (α:=Unit) () w fun c bu d_ w=>V1 P o false T.x w fun av w=>ext P av 0 w fun W w=>X1 W (Q8C P o w fun bj w=>ext P bj 0 w fun ac w=>Q2 P T.r v w fun ak w=>fieldAddr P T.b l 0 w fun bg w=>Q2 P T.c bg w fun B w=>Q1 P F.bd [ak,B,ac] w fun k w=>ext P k 0 w fun bq w=>ext P k 1 w fun z w=>ext P k 2 w fun a3 w=>W0 P T.d w fun q w=>Y0 P T.d q z w fun _u w=>J9 P .not a3 w fun m w=>Q0 m false w (fieldAddr P T.d q 3) fun O w=>Q0 m false w (Q2 P T.t O) fun ax w=>pick P m (.bool true) ax w fun r w=>X1 r (K (.int .i64 67) w) (c () w)) (K (.int .i64 0) w))))))
theorem Fk {a b:Value} {w:World} {K:Value→World→Prop} (h:Wa a b w K):Q1 P F.b5 [a,b] w K:=Q9 Fe Tryz.func49 rfl (by decide) (by kernel_rfl) h
def Q8G:V9:=[none,none,none,none,none,some ([30],[2,3,4,7,8,9,30,31,32,33,34,35,36,37,38,39,40,41,42,43,44,45,46,47,48,49,50,51,52]),none,none,none,none,none,none,none,none,none,none,some ([58],[2,3,4,10,11,58,59,60,61,62,63,64,65,66,67,68,69,70,71,72,73,74,75,76,77]),none,none,none,none,none,none,none,none,none,some ([85],[2,3,4,12,13,14,85,86,87,88,89,90,91,92,93,94,95,96,97]),none,none,none,none,none,none,none,none,none,none,none,none,none,some ([114],[2,3,4,17,18,114,115,116,117,118,119,120,121,122,123,124,125,126,127,128,129,130,131,132,133]),none,none,none,none,none,none,none,none]
def Q2P (a0:Value) (w:World) (K:Value→World→Prop):Prop:= Q1 P F.cD [] w fun az w=>Tf P T.a2 none w fun bs w=>H2 P T.a0 [(0,az),(1,bs)] w fun bi w=>box P T.a0 bi w fun a w=>nilCheck P a w fun ay w=>fieldAddr P T.a0 ay 0 w fun bn w=>Q2 P T.i bn w fun a4 w=>X3 P .len [T.i] T.e [false] [a4] w fun e w=>X3 P .len [T.i] T.e [false] [a0] w fun ar w=>lp (α:=Value) (.int .i64 0) w fun n x5 d_ w=>Q3 P .lss T.e (.tmp 30) (.tmp 29) x5 ar w fun be w=>X1 be (indexAddr P T.i a0 x5 w fun a1 w=>Q2 P T.b a1 w fun bx w=>W0 P T.b w fun t8 w=>Y0 P T.b t8 bx w fun _u w=>Q2 P T.b t8 w fun a3 w=>Q1 P F.cw [a3] w fun an w=>Q3 P .neq T.y (.tmp 37) (.const (.int .i64 0)) an (.int .i64 0) w fun bg w=>X1 bg (K (.tuple #[(.pointer none),x5,an]) w) (dr w fun b c=>Q5 b (fun p=> ∀w,c w→nilCheck P a w (dk b p w)) fun p=>Q5 b (fun z=> ∀i w,c w→p i w→fieldAddr P T.a0 i 0 w (dk b z w)) fun z=>Q5 b (fun N=> ∀v w,c w→z v w→Q2 P T.i v w (dk b N w)) fun N=>Q5 b (fun j=> ∀w,c w→Q2 P T.b t8 w (dk b j w)) fun j=>Q5 b (fun m=> ∀o w,c w→j o w→Q1 P F.cx [o] w (dk b m w)) fun m=>Q5 b (fun J=> ∀y w,c w→m y w→buildSlice P T.i 1 [(0,y)] w (dk b J w)) fun J=>∀i v ao o y ab w,c w→p i w→z v w→N ao w→j o w→m y w→J ab w→ X3 P .append [T.i,T.i] T.i [false,false] [ao,ab] w fun bq w=>nilCheck P a w fun bj w=>fieldAddr P T.a0 bj 0 w fun a9 w=>Y0 P T.i a9 bq w fun _u w=>Q3 P .add T.e (.tmp 30) (.const (.int .i64 1)) x5 (.int .i64 1) w fun br w=>n br w)) (nilCheck P a w fun bd w=>fieldAddr P T.a0 bd 0 w fun bo w=>Q2 P T.i bo w fun ag w=>X3 P .len [T.i] T.e [false] [ag] w fun bv w=>lp (α:=Value) (.int .i64 0) w fun h f d_ w=>Q3 P .lss T.e (.tmp 58) (.tmp 57) f bv w fun bl w=>X1 bl (indexAddr P T.i ag f w fun ba w=>Q2 P T.b ba w fun bh w=>W0 P T.b w fun L w=>Y0 P T.b L bh w fun _u w=>fieldAddr P T.b L 0 w fun a6 w=>Q2 P T.c a6 w fun a7 w=>Q1 P F.j [a,a7] w fun bp w=>X1 bp (Q3 P .sub T.e (.tmp 67) (.tmp 68) f e w fun ax w=>K (.tuple #[(.pointer none),ax,(.int .i64 60)]) w) (dr w fun b c=>Q5 b (fun k=> ∀w,c w→nilCheck P a w (dk b k w)) fun k=>Q5 b (fun l=> ∀r w,c w→k r w→fieldAddr P T.a0 r 1 w (dk b l w)) fun l=>Q5 b (fun s=> ∀w,c w→fieldAddr P T.b L 0 w (dk b s w)) fun s=>Q5 b (fun H=> ∀t w,c w→l t w→Q2 P T.a2 t w (dk b H w)) fun H=>Q5 b (fun M=> ∀u w,c w→s u w→Q2 P T.c u w (dk b M w)) fun M=>∀r t u ad af w,c w→k r w→l t w→s u w→H ad w→M af w→ mapUpdate P T.a2 ad af f w fun _u w=>Q3 P .add T.e (.tmp 58) (.const (.int .i64 1)) f (.int .i64 1) w fun bb w=>h bb w)) (nilCheck P a w fun a5 w=>fieldAddr P T.a0 a5 0 w fun a8 w=>Q2 P T.i a8 w fun a2 w=>R7 P T.i a2 (some e) none none w fun Z w=>X3 P .len [T.i] T.e [false] [Z] w fun bz w=>lp (α:=Value) (.int .i64 0) w fun d q d_ w=>Q3 P .lss T.e (.tmp 85) (.tmp 84) q bz w fun av w=>X1 av (indexAddr P T.i Z q w fun bu w=>Q2 P T.b bu w fun aw w=>W0 P T.b w fun ae w=>Y0 P T.b ae aw w fun _u w=>Q2 P T.b ae w fun bf w=>Q1 P F.bb [a,bf] w fun O w=>Q3 P .neq T.y (.tmp 93) (.const (.int .i64 0)) O (.int .i64 0) w fun bm w=>X1 bm (K (.tuple #[(.pointer none),q,O]) w) (Q3 P .add T.e (.tmp 85) (.const (.int .i64 1)) q (.int .i64 1) w fun bw w=>d bw w)) (nilCheck P a w fun bk w=>fieldAddr P T.a0 bk 0 w fun aa w=>Q2 P T.i aa w fun R w=>R7 P T.i R (some e) none none w fun ac w=>E7 P (.func F.bk) [a] [] w fun ak w=>Q1 P F.o [ac,ak] w fun C w=>Q3 P .geq T.e (.tmp 107) (.const (.int .i64 0)) C (.int .i64 0) w fun al w=>X1 al (K (.tuple #[(.pointer none),C,(.int .i64 63)]) w) (Q1 P F.bl [a,e] w fun D w=>X3 P .len [T.a7] T.e [false] [D] w fun ap w=>lp (α:=Value) (.int .i64 0) w fun g E d_ w=>Q3 P .lss T.e (.tmp 114) (.tmp 113) E ap w fun ai w=>X1 ai (indexAddr P T.a7 D E w fun X w=>Q2 P T.e X w fun A w=>nilCheck P a w fun V w=>fieldAddr P T.a0 V 0 w fun Q w=>Q2 P T.i Q w fun W w=>indexAddr P T.i W A w fun ah w=>Q2 P T.b ah w fun Y w=>Q1 P F.b5 [a,Y] w fun B w=>Q3 P .neq T.y (.tmp 127) (.const (.int .i64 0)) B (.int .i64 0) w fun am w=>X1 am (Q3 P .sub T.e (.tmp 129) (.tmp 130) A e w fun aj w=>K (.tuple #[(.pointer none),aj,B]) w) (Q3 P .add T.e (.tmp 114) (.const (.int .i64 1)) E (.int .i64 1) w fun U w=>g U w)) (K (.tuple #[a,(.int .i64 0),(.int .i64 0)]) w)))))
theorem Q8z {a:Value} {w:World} {K:Value→World→Prop} (h:Q2P a w K):Q1 P F.cL [a] w K:=Q9 Q8G Tryz.func12 rfl (by decide) (by kernel_rfl) h
def Vo (w:World) (K:Value→World→Prop):Prop:= H2 P T.v [(0,(.string ⟨#[105,110,116]⟩)),(1,(.int .i64 1))] w fun s w=>H2 P T.v [(0,(.string ⟨#[114,101,116,117,114,110]⟩))] w fun n w=>buildSlice P T.q 2 [(0,s),(1,n)] w fun o w=>H2 P T.n [(0,(.string ⟨#[120]⟩)),(1,(.string ⟨#[105,110,116]⟩))] w fun r w=>H2 P T.n [(0,(.string ⟨#[110,101,120,116]⟩)),(1,(.string ⟨#[65]⟩))] w fun p w=>buildSlice P T.k 2 [(0,r),(1,p)] w fun q w=>buildSlice P T.h 2 [(0,(.string ⟨#[105,110,116]⟩)),(1,(.string ⟨#[65]⟩))] w fun t w=>H2 P T.d [(0,(.string ⟨#[102]⟩)),(1,t),(2,(.string ⟨#[105,110,116]⟩)),(4,(.int .i64 3)),(5,o)] w fun l w=>H2 P T.v [(0,(.string ⟨#[114,101,116,117,114,110]⟩))] w fun f w=>buildSlice P T.q 1 [(0,f)] w fun k w=>H2 P T.d [(0,(.string ⟨#[103]⟩)),(4,(.int .i64 1)),(5,k)] w fun j w=>buildSlice P T.j 2 [(0,l),(1,j)] w fun a w=>H2 P T.b [(0,(.string ⟨#[65]⟩)),(1,(.string ⟨#[79,98,106,101,99,116]⟩)),(6,q),(7,a)] w fun b w=>buildSlice P T.h 1 [(0,(.string ⟨#[73]⟩))] w fun g w=>H2 P T.n [(0,(.string ⟨#[108]⟩)),(1,(.string ⟨#[65,91,93]⟩))] w fun i w=>buildSlice P T.k 1 [(0,i)] w fun c w=>H2 P T.b [(0,(.string ⟨#[66]⟩)),(1,(.string ⟨#[65]⟩)),(2,g),(6,c)] w fun d w=>H2 P T.b [(0,(.string ⟨#[73]⟩)),(1,(.string ⟨#[79,98,106,101,99,116]⟩)),(3,(.bool true)),(4,(.bool true))] w fun h w=>H2 P T.b [(0,(.string ⟨#[68]⟩)),(1,(.string ⟨#[79,98,106,101,99,116]⟩)),(4,(.bool true))] w fun e w=>buildSlice P T.i 4 [(0,b),(1,d),(2,h),(3,e)] w fun m w=>K m w
theorem Ff {w:World} {K:Value→World→Prop} (h:Vo w K):Q1 P F.aA [] w K:=Q9 (List.replicate 3 none) Tryz.func13 rfl (by decide) (by kernel_rfl) h
def Hu (b:Value) (w:World) (K:Value→World→Prop):Prop:= nilCheck P b w fun a w=>fieldAddr P T.p a 3 w fun c w=>Q2 P T.g c w fun e w=>X3 P .len [T.g] T.e [false] [e] w fun d w=>K d w
theorem Q1W {a:Value} {w:World} {K:Value→World→Prop} (h:Hu a w K):Q1 P F.c2 [a] w K:=Q9 (List.replicate 2 none) Tryz.func17 rfl (by decide) (by kernel_rfl) h
def Dz (o:Value) (w:World) (K:Value→World→Prop):Prop:= dr w fun a b=>Q5 a (fun e=> ∀w,b w→nilCheck P o w (dk a e w)) fun e=>Q5 a (fun k=> ∀h w,b w→e h w→fieldAddr P T.p h 1 w (dk a k w)) fun k=>Q5 a (fun g=> ∀w,b w→nilCheck P o w (dk a g w)) fun g=>Q5 a (fun f=> ∀l w,b w→g l w→fieldAddr P T.p l 2 w (dk a f w)) fun f=>Q5 a (fun n=> ∀i w,b w→k i w→Q2 P T.e i w (dk a n w)) fun n=>Q5 a (fun c=> ∀j w,b w→f j w→Q2 P T.e j w (dk a c w)) fun c=>∀h i l j p d w,b w→e h w→k i w→g l w→f j w→n p w→c d w→ Q3 P .sub T.e (.tmp 6) (.tmp 10) p d w fun m w=>K m w
theorem Q1g {a:Value} {w:World} {K:Value→World→Prop} (h:Dz a w K):Q1 P F.ae [a] w K:=Q9 (List.replicate 2 none) Tryz.func18 rfl (by decide) (by kernel_rfl) h
def Hp (i h:Value) (w:World) (K:Value→World→Prop):Prop:= Q3 P .geq T.e (.tmp 5) (.const (.int .i64 0)) h (.int .i64 0) w fun a w=>Q0 a true w (fun w J=>J h w) fun k w=>Q0 a true w (fun w J=>J i w) fun j w=>Q0 a true w (nilCheck P j) fun g w=>Q0 a true w (fieldAddr P T.p g 3) fun b w=>Q0 a true w (Q2 P T.g b) fun f w=>Q0 a true w (X3 P .len [T.g] T.e [false] [f]) fun e w=>Q0 a true w (Q3 P .lss T.e (.tmp 8) (.tmp 13) k e) fun c w=>pick P a c (.bool false) w fun d w=>K d w
theorem Q1O {a b:Value} {w:World} {K:Value→World→Prop} (h:Hp a b w K):Q1 P F.aG [a,b] w K:=Q9 (List.replicate 2 none) Tryz.func51 rfl (by decide) (by kernel_rfl) h
def Ef (g h:Value) (w:World) (K:Value→World→Prop):Prop:= Q1 P F.aG [g,h] w fun i w=>J9 P .not i w fun j w=>X1 j (K (.string ⟨#[]⟩) w) (nilCheck P g w fun f w=>fieldAddr P T.p f 3 w fun a w=>Q2 P T.g a w fun d w=>indexAddr P T.g d h w fun b w=>fieldAddr P T.o b 0 w fun c w=>Q2 P T.c c w fun e w=>K e w)
theorem Q0L {a b:Value} {w:World} {K:Value→World→Prop} (h:Ef a b w K):Q1 P F.aB [a,b] w K:=Q9 (List.replicate 5 none) Tryz.func20 rfl (by decide) (by kernel_rfl) h
def Eg (h i:Value) (w:World) (K:Value→World→Prop):Prop:= Q1 P F.aG [h,i] w fun j w=>J9 P .not j w fun k w=>X1 k (K (.int .i64 0) w) (nilCheck P h w fun g w=>fieldAddr P T.p g 3 w fun b w=>Q2 P T.g b w fun e w=>indexAddr P T.g e i w fun c w=>fieldAddr P T.o c 1 w fun d w=>Q2 P T.l d w fun f w=>X3 P .len [T.l] T.e [false] [f] w fun a w=>K a w)
theorem Q0x {a b:Value} {w:World} {K:Value→World→Prop} (h:Eg a b w K):Q1 P F.bM [a,b] w K:=Q9 (List.replicate 5 none) Tryz.func21 rfl (by decide) (by kernel_rfl) h
def Zr:V9:=[none,none,none,some ([8],[4,5,8,9,10,11,12,13,14,15,16,17,18]),none,none,none,none,none,none,none]
def I2 (g j:Value) (w:World) (K:Value→World→Prop):Prop:= X3 P .len [T.g] T.e [false] [g] w fun i w=>lp (α:=Value) (.int .i64 0) w fun a b k w=>Q3 P .lss T.e (.tmp 8) (.tmp 7) b i w fun h w=>X1 h (indexAddr P T.g g b w fun d w=>Q2 P T.o d w fun e w=>Z3 P j [e] w fun f w=>X1 f (K b w) (Q3 P .add T.e (.tmp 8) (.const (.int .i64 1)) b (.int .i64 1) w fun c w=>a c w)) (K (.int .i64 (-1)) w)
theorem Zs {a b:Value} {w:World} {K:Value→World→Prop} (h:I2 a b w K):Q1 P F.a8 [a,b] w K:=Q9 Zr Tryz.func98 rfl (by decide) (by kernel_rfl) h
def F5 (a c:Value) (w:World) (K:Value→World→Prop):Prop:= Q1 P F.a8 [a,c] w fun b w=>Q3 P .geq T.e (.tmp 7) (.const (.int .i64 0)) b (.int .i64 0) w fun d w=>K d w
theorem Yc {a b:Value} {w:World} {K:Value→World→Prop} (h:F5 a b w K):Q1 P F.n [a,b] w K:=Q9 (List.replicate 2 none) Tryz.func53 rfl (by decide) (by kernel_rfl) h
def So (O Q:Value) (w:World) (K:Value→World→Prop):Prop:= box P T.f Q w fun a w=>Q2 P T.f a w fun R w=>H2 P T.f [] w fun U w=>Q3 P .eql T.f (.tmp 6) (.tmp 7) R U w fun V w=>X1 V (K (.string ⟨#[110,117,108,108]⟩) w) (Q2 P T.f a w fun N w=>fieldAddr P T.f a 1 w fun t w=>Q2 P T.a1 t w fun L w=>H2 P T.f [(0,(.int .i64 1)),(1,L)] w fun H w=>Q3 P .eql T.f (.tmp 10) (.tmp 13) N H w fun e w=>X1 e (K (.string ⟨#[105,110,116]⟩) w) (Q2 P T.f a w fun y w=>fieldAddr P T.f a 1 w fun D w=>Q2 P T.a1 D w fun l w=>Q3 P .and T.a1 (.tmp 18) (.const (.int .i64 1)) l (.int .i64 1) w fun m w=>H2 P T.f [(0,(.int .i64 2)),(1,m)] w fun C w=>Q3 P .eql T.f (.tmp 16) (.tmp 20) y C w fun o w=>X1 o (K (.string ⟨#[98,111,111,108]⟩) w) (Q2 P T.f a w fun M w=>fieldAddr P T.f a 2 w fun k w=>Q2 P T.c k w fun s w=>H2 P T.f [(0,(.int .i64 3)),(2,s)] w fun r w=>Q3 P .eql T.f (.tmp 23) (.tmp 26) M r w fun b w=>Q0 b true w (fieldAddr P T.f a 2) fun d w=>Q0 b true w (Q2 P T.c d) fun J w=>Q0 b true w (X3 P .len [T.c] T.e [false] [J]) fun g w=>Q0 b true w (Q3 P .leq T.e (.tmp 31) (.const (.int .i64 4096)) g (.int .i64 4096)) fun p w=>pick P b p (.bool false) w fun c w=>Q0 c true w (fieldAddr P T.f a 2) fun q w=>Q0 c true w (Q2 P T.c q) fun A w=>Q0 c true w (Q1 P F.aZ [A]) fun v w=>pick P c v (.bool false) w fun h w=>X1 h (K (.string ⟨#[116,101,120,116]⟩) w) (Q2 P T.f a w fun j w=>fieldAddr P T.f a 3 w fun n w=>Q2 P T.e n w fun i w=>H2 P T.f [(0,(.int .i64 4)),(3,i)] w fun f w=>Q3 P .eql T.f (.tmp 40) (.tmp 43) j f w fun z w=>X1 z (fieldAddr P T.f a 3 w fun u w=>Q2 P T.e u w fun E w=>Q1 P F.aB [O,E] w fun B w=>K B w) (K (.string ⟨#[]⟩) w)))))
theorem Q2z {a b:Value} {w:World} {K:Value→World→Prop} (h:So a b w K):Q1 P F.bh [a,b] w K:=Q9 (List.replicate 13 none) Tryz.func31 rfl (by decide) (by kernel_rfl) h
def Vg (a f:Value) (w:World) (K:Value→World→Prop):Prop:= Q1 P F.aa [a,f] w fun h w=>J9 P .not h w fun g w=>X1 g (K (.tuple #[a,(.bool false)]) w) (X3 P .len [T.c] T.e [false] [a] w fun d w=>X3 P .len [T.c] T.e [false] [f] w fun c w=>Q3 P .sub T.e (.tmp 13) (.tmp 15) d c w fun e w=>R7 P T.c a none (some e) none w fun b w=>K (.tuple #[b,(.bool true)]) w)
theorem Cr {a b:Value} {w:World} {K:Value→World→Prop} (h:Vg a b w K):Q1 P F.ce [a,b] w K:=Q9 (List.replicate 5 none) Tryz.func180 rfl (by decide) (by kernel_rfl) h
def Oz (c e:Value) (w:World) (K:Value→World→Prop):Prop:= Q1 P F.ce [c,e] w fun b w=>ext P b 0 w fun d w=>ext P b 1 w fun a w=>K (.tuple #[d,a]) w
theorem Ay {a b:Value} {w:World} {K:Value→World→Prop} (h:Oz a b w K):Q1 P F.bI [a,b] w K:=Q9 (List.replicate 2 none) Tryz.func146 rfl (by decide) (by kernel_rfl) h
def Q26 (f:Value) (w:World) (K:Value→World→Prop):Prop:= Q1 P F.bI [f,(.string ⟨#[91,93]⟩)] w fun g w=>ext P g 0 w fun i w=>ext P g 1 w fun h w=>J9 P .not h w fun a w=>Q0 a false w (fun w J=>J f w) fun d w=>Q0 a false w (Q1 P F.z [d]) fun b w=>Q0 a false w (J9 P .not b) fun c w=>pick P a (.bool true) c w fun e w=>X1 e (K (.string ⟨#[]⟩) w) (K i w)
theorem Q72 {a:Value} {w:World} {K:Value→World→Prop} (h:Q26 a w K):Q1 P F.c5 [a] w K:=Q9 (List.replicate 6 none) Tryz.func97 rfl (by decide) (by kernel_rfl) h
def Np (c g:Value) (w:World) (K:Value→World→Prop):Prop:= box P T.b c w fun a w=>fieldAddr P T.b a 0 w fun b w=>Q2 P T.c b w fun d w=>Q2 P T.c g w fun f w=>Q3 P .eql T.c (.tmp 5) (.tmp 6) d f w fun e w=>K e w
theorem Tj {a b:Value} {w:World} {K:Value→World→Prop} (h:Np a b w K):Q1 P F.bq [a,b] w K:=Q9 (List.replicate 2 none) Tryz.func110 rfl (by decide) (by kernel_rfl) h
def Hg (h d z:Value) (w:World) (K:Value→World→Prop):Prop:= box P T.c z w fun a w=>Q1 P F.s [h,d] w fun y w=>J9 P .not y w fun b w=>Q0 b false w (fun w J=>J h w) fun u w=>Q0 b false w (Q2 P T.c a) fun f w=>Q0 b false w (Q1 P F.s [u,f]) fun g w=>Q0 b false w (J9 P .not g) fun q w=>pick P b (.bool true) q w fun t w=>X1 t (K (.bool false) w) (Q2 P T.c a w fun s w=>Q3 P .eql T.c (.tmp 19) (.tmp 20) d s w fun k w=>X1 k (K (.bool true) w) (Q1 P F.aN [d] w fun c w=>Q0 c false w (Q2 P T.c a) fun n w=>Q0 c false w (Q1 P F.aN [n]) fun l w=>pick P c (.bool true) l w fun o w=>X1 o (K (.bool false) w) (Q3 P .eql T.c (.tmp 30) (.const (.string ⟨#[110,117,108,108]⟩)) d (.string ⟨#[110,117,108,108]⟩) w fun e w=>X1 e (K (.bool true) w) (Q1 P F.c5 [d] w fun v w=>Q3 P .neq T.c (.tmp 34) (.const (.string ⟨#[]⟩)) v (.string ⟨#[]⟩) w fun m w=>X1 m (Q2 P T.c a w fun r w=>Q3 P .eql T.c (.tmp 36) (.const (.string ⟨#[79,98,106,101,99,116]⟩)) r (.string ⟨#[79,98,106,101,99,116]⟩) w fun p w=>K p w) (E7 P (.func F.bq) [] [a] w fun i w=>Q1 P F.w [h,d,i] w fun j w=>K j w)))))
theorem Q0W {b c a:Value} {w:World} {K:Value→World→Prop} (h:Hg b c a w K):Q1 P F.bR [b,c,a] w K:=Q9 (List.replicate 13 none) Tryz.func62 rfl (by decide) (by kernel_rfl) h
def Ha (l o m:Value) (w:World) (K:Value→World→Prop):Prop:= box P T.f o w fun b w=>Q2 P T.f b w fun n w=>Q1 P F.bh [l,n] w fun c w=>Q3 P .neq T.c (.tmp 11) (.const (.string ⟨#[]⟩)) c (.string ⟨#[]⟩) w fun a w=>Q0 a true w (fun w J=>J l w) fun h w=>Q0 a true w (nilCheck P h) fun i w=>Q0 a true w (fieldAddr P T.p i 0) fun k w=>Q0 a true w (Q2 P T.r k) fun f w=>Q0 a true w (fun w J=>J c w) fun d w=>Q0 a true w (fun w J=>J m w) fun e w=>Q0 a true w (Q1 P F.bR [f,d,e]) fun g w=>pick P a g (.bool false) w fun j w=>K j w
theorem Q0V {b c a:Value} {w:World} {K:Value→World→Prop} (h:Ha b c a w K):Q1 P F.af [b,c,a] w K:=Q9 (List.replicate 3 none) Tryz.func27 rfl (by decide) (by kernel_rfl) h
def Em (t u y:Value) (w:World) (K:Value→World→Prop):Prop:= box P T.o u w fun a w=>fieldAddr P T.o a 0 w fun z w=>Q2 P T.c z w fun v w=>Q1 P F.c5 [v] w fun n w=>Q3 P .neq T.c (.tmp 11) (.const (.string ⟨#[]⟩)) n (.string ⟨#[]⟩) w fun q w=>X1 q (K n w) (dr w fun b k=>Q5 b (fun g=> ∀w,k w→nilCheck P t w (dk b g w)) fun g=>Q5 b (fun h=> ∀d w,k w→g d w→fieldAddr P T.p d 0 w (dk b h w)) fun h=>Q5 b (fun c=> ∀w,k w→fieldAddr P T.o a 0 w (dk b c w)) fun c=>Q5 b (fun j=> ∀f w,k w→h f w→Q2 P T.r f w (dk b j w)) fun j=>Q5 b (fun i=> ∀e w,k w→c e w→Q2 P T.c e w (dk b i w)) fun i=>∀d f e m l w,k w→g d w→h f w→c e w→j m w→i l w→ Q1 P F.a2 [m,l] w fun p w=>indexAddr P T.k p y w fun s w=>fieldAddr P T.n s 1 w fun r w=>Q2 P T.c r w fun o w=>K o w)
theorem Q0A {b c a:Value} {w:World} {K:Value→World→Prop} (h:Em b c a w K):Q1 P F.aD [b,c,a] w K:=Q9 (List.replicate 6 none) Tryz.func52 rfl (by decide) (by kernel_rfl) h
def Vy (g h:Value) (w:World) (K:Value→World→Prop):Prop:= Q1 P F.j [g,h] w fun a w=>Q0 a true w (fun w J=>J g w) fun i w=>Q0 a true w (fun w J=>J h w) fun f w=>Q0 a true w (Q1 P F.h [i,f]) fun b w=>Q0 a true w (F4 P T.b b 4) fun e w=>Q0 a true w (J9 P .not e) fun d w=>pick P a d (.bool false) w fun c w=>K c w
theorem Fl {a b:Value} {w:World} {K:Value→World→Prop} (h:Vy a b w K):Q1 P F.aE [a,b] w K:=Q9 (List.replicate 2 none) Tryz.func66 rfl (by decide) (by kernel_rfl) h
end Go.Proofs.YtjdiakhipmggjaaGreatDoor
