/- Parts of a proof about the given program: its functions as texts of their own, what each computes, plain laws of that. The conditions of each stand in its statement. -/
import Derived.WalkKit
import Derived.Test.YtjdiakhipmggjaaGreatDoorProg
import Derived.KernelRfl
set_option linter.unnecessarySimpa false
set_option linter.defProp false
set_option linter.unusedSectionVars false
set_option linter.unusedVariables false
set_option linter.unusedSimpArgs false
namespace Go.Emb
def K9 (P:Program) (s:Sem Next) (w:World) (K:Value→World→Prop):Prop:=
 match s.run P w with
 | .ok (.value v) w'=>K v w'
 | .ok .skip w'=>K undef w'
 | .ok (.enter f a) w'=>Calls P f a w' fun e b=>match e with | .returned v=>K v b | _=>False
 | .ok (.row row a) w'=>Rows P row a w' K
 | _=>False
theorem X12: ∃f:Program→Sem Next→World→(Value→World→Prop)→Prop,f=K9:=⟨_,rfl⟩
noncomputable def op:Program→Sem Next→World→(Value→World→Prop)→Prop:=Classical.choose X12
theorem P9:op=K9:=Classical.choose_spec X12
theorem X3g {P:Program} {o:Oper} {a:Act} {w:World} {next:Act→World→Prop} {Q:Exit→Act→World→Prop}
 (h:op P (execOp a.eval o) w (fun v w=>next (a.put o.dst v) w)):o.wp P a w next Q:=by
 unfold Oper.wp
 rw[P9] at h
 unfold K9 at h
 cases b:(execOp a.eval o).run P w with
 | halt x w'=>rw[b] at h;exact h.elim
 | ok n w'=>
  rw[b] at h
  cases n<;>simp only at h<;>try exact h.elim
  ·exact h
  ·exact h
  ·refine Calls.mono h fun e d c=>?_
   cases e<;>first | exact c | exact c.elim
  ·exact h
theorem Ri {P:Program} {s:Sem Next} {K d:Value→World→Prop} {w:World} (a: ∀v w,K v w→d v w) (h:op P s w K):op P s w d:=by
 rw[P9] at*
 unfold K9 at*
 cases b:s.run P w with
 | halt x w'=>rw[b] at h;exact h.elim
 | ok n w'=>
  rw[b] at h
  cases n<;>simp only at h⊢ <;>try exact h.elim
  ·exact a _ _ h
  ·exact a _ _ h
  ·refine Calls.mono h fun e f c=>?_
   cases e<;>first | exact a _ _ c | exact c.elim
  ·exact h.mono a
def sv (s:Sem Value):Sem Next:=do Pure.pure (.value (←s))
def su (s:Sem Unit):Sem Next:=do s;Pure.pure .skip
section
variable (P : Program)
noncomputable def pick (c a b:Value) (w:World) (K:Value→World→Prop):Prop:=op P (do Pure.pure (.value (if←asBool c then a else b))) w K
noncomputable def V9 (e:TypeId) (w:World) (K:Value→World→Prop):Prop:=op P (sv (Instr.alloc e true (.tuple #[]))) w K
noncomputable def box (e:TypeId) (x:Value) (w:World) (K:Value→World→Prop):Prop:=op P (sv (Instr.box e x)) w K
noncomputable def H1 (t:TypeId) (a:List (Nat×Value)) (w:World) (K:Value→World→Prop):Prop:=op P (sv (Instr.build t a.toArray)) w K
noncomputable def buildSlice (t:TypeId) (n:Nat) (a:List (Nat×Value)) (w:World) (K:Value→World→Prop):Prop:=op P (sv (Instr.buildSlice t n a.toArray)) w K
noncomputable def Q2 (t:TypeId) (a:Value) (w:World) (K:Value→World→Prop):Prop:=op P (sv (Instr.loadAt t a)) w K
noncomputable def Y0 (t:TypeId) (a x:Value) (w:World) (K:Value→World→Prop):Prop:=op P (su (Instr.storeAt t a x)) w K
noncomputable def nilCheck (x:Value) (w:World) (K:Value→World→Prop):Prop:=op P (execOp (fun _=>x) {dst:=none,op:= .nilCheck (.const x),type:=0,pos:= "",after:= #[],guard:=none}) w K
noncomputable def Q3 (o:BinOp) (t:TypeId) (a b:Operand) (x y:Value) (w:World) (K:Value→World→Prop):Prop:=op P (sv (do eqGuard o t a b x y;Go.binOp o t x y)) w K
noncomputable def J6 (o:UnOp) (x:Value) (w:World) (K:Value→World→Prop):Prop:=op P (sv (Op.unary o x)) w K
noncomputable def conv (s d:TypeId) (x:Value) (w:World) (K:Value→World→Prop):Prop:=op P (sv (Go.convert s d x)) w K
noncomputable def X27 (t:TypeId) (x:Value) (w:World) (K:Value→World→Prop):Prop:=op P (sv (Instr.makeInterface t x)) w K
noncomputable def E8 (f:Fn) (first caps:List Value) (w:World) (K:Value→World→Prop):Prop:=op P (sv (Instr.makeFunc f first.toArray caps.toArray)) w K
noncomputable def Pk (t:TypeId) (r:Option Value) (w:World) (K:Value→World→Prop):Prop:=op P (sv (Instr.makeMap t r)) w K
noncomputable def Ww (t:TypeId) (n c:Value) (w:World) (K:Value→World→Prop):Prop:=op P (sv (Instr.makeSlice t n c)) w K
noncomputable def R6 (t:TypeId) (x:Value) (c a b:Option Value) (w:World) (K:Value→World→Prop):Prop:=op P (sv (Instr.sliceAt t x c a b)) w K
noncomputable def fieldAddr (t:TypeId) (x:Value) (f:Nat) (w:World) (K:Value→World→Prop):Prop:=op P (sv (Instr.fieldAt t x f)) w K
noncomputable def F2 (t:TypeId) (x:Value) (f:Nat) (w:World) (K:Value→World→Prop):Prop:=op P (sv (Instr.field t x f)) w K
noncomputable def indexAddr (t:TypeId) (x i:Value) (w:World) (K:Value→World→Prop):Prop:=op P (sv (Instr.indexAt t x i)) w K
noncomputable def S9 (t:TypeId) (x i:Value) (w:World) (K:Value→World→Prop):Prop:=op P (sv (Instr.index t x i)) w K
noncomputable def lookup (t:TypeId) (x i:Value) (ok:Bool) (w:World) (K:Value→World→Prop):Prop:=op P (sv (Instr.lookup t x i ok)) w K
noncomputable def mapUpdate (t:TypeId) (m k x:Value) (w:World) (K:Value→World→Prop):Prop:=op P (su (Instr.mapUpdate t m k x)) w K
noncomputable def mapEntry (t:TypeId) (m k:Value) (w:World) (K:Value→World→Prop):Prop:=op P (sv (Instr.mapEntry t m k)) w K
noncomputable def entryStore (t:TypeId) (m s x:Value) (w:World) (K:Value→World→Prop):Prop:=op P (su (Instr.entryStore t m s x)) w K
noncomputable def rng (t:TypeId) (x:Value) (w:World) (K:Value→World→Prop):Prop:=op P (sv (Instr.range t x)) w K
noncomputable def W3 (b:Value) (a:Bool) (t:TypeId) (w:World) (K:Value→World→Prop):Prop:=op P (sv (Instr.next b a t)) w K
noncomputable def Q8A (a:Value) (w:World) (K:Value→World→Prop):Prop:=op P (sv (Instr.entry a)) w K
noncomputable def pnc (x:Value) (w:World) (K:Value→World→Prop):Prop:=op P (sv (Instr.panic x)) w K
noncomputable def ext (x:Value) (i:Nat) (w:World) (K:Value→World→Prop):Prop:=op P (sv (Instr.extract x i)) w K
noncomputable def X3 (b:Builtin) (a:List TypeId) (t:TypeId) (cs:List Bool) (xs:List Value) (w:World) (K:Value→World→Prop):Prop:=op P (Go.builtin b a.toArray t cs.toArray xs.toArray) w K
noncomputable def Q1 (f:FuncId) (xs:List Value) (w:World) (K:Value→World→Prop):Prop:=op P (callFunc f xs.toArray) w K
noncomputable def Z3 (f:Value) (xs:List Value) (w:World) (K:Value→World→Prop):Prop:=op P (do let d←Deferred.ofValue f xs.toArray;invoke d.target d.args) w K
end
def get (l:List Value) (t:Nat):Value:=l.getD t undef
def ev (l:List Value):Operand→Value
 | .tmp t=>get l t
 | .const v=>v
 | .global g=> .pointer (some ⟨g,0,none⟩)
 | .func f=> .func (.func f) #[] #[]
def put (l:List Value) (d:Option Tmp) (v:Value):List Value:=
 match d with
 | some d=>l.set d v
 | none=>l
def evs (l:List Value) (xs:Array Operand):List Value:=xs.toList.map (ev l)
def evp (l:List Value) (xs:Array (Nat×Operand)):List (Nat×Value):=xs.toList.map fun p=>(p.1,ev l p.2)
def evo (l:List Value) (x:Option Operand):Option Value:=match x with | some x=>some (ev l x) | none=>none
def isC:Operand→Bool | .const _=>true | _=>false
noncomputable def Dm (P:Program) (l:List Value) (o:Oper) (c:Call) (w:World) (K:Value→World→Prop):Prop:=
 match c.callee with
 | .builtin b=>X3 P b c.argTypes.toList o.type (c.args.toList.map isC) (evs l c.args) w K
 | .value (.func f)=>Q1 P f (evs l c.args) w K
 | .value f=>Z3 P (ev l f) (evs l c.args) w K
 | _=>op P (execOp (ev l) o) w K
noncomputable def W8 (P:Program) (l:List Value) (o:Oper) (w:World) (K:Value→World→Prop):Prop:=
 match o.op with
 | .move x=>K (ev l x) w
 | .assign x=>K (ev l x) w
 | .pick c a b=>pick P (ev l c) (ev l a) (ev l b) w K
 | .alloc e=>V9 P e w K
 | .box e x=>box P e (ev l x) w K
 | .build t g=>H1 P t (evp l g) w K
 | .buildSlice t n g=>buildSlice P t n (evp l g) w K
 | .load t a=>Q2 P t (ev l a) w K
 | .store t a x=>Y0 P t (ev l a) (ev l x) w K
 | .nilCheck x=>nilCheck P (ev l x) w K
 | .binOp op t x y _=>Q3 P op t x y (ev l x) (ev l y) w K
 | .unOp op _ x=>J6 P op (ev l x) w K
 | .convert s d x=>conv P s d (ev l x) w K
 | .makeInterface t x=>X27 P t (ev l x) w K
 | .makeFunc f first caps=>E8 P f (evs l first) (evs l caps) w K
 | .makeMap t r=>Pk P t (evo l r) w K
 | .makeSlice t n c=>Ww P t (ev l n) (ev l c) w K
 | .slice t x u p q=>R6 P t (ev l x) (evo l u) (evo l p) (evo l q) w K
 | .fieldAddr t x f=>fieldAddr P t (ev l x) f w K
 | .field t x f=>F2 P t (ev l x) f w K
 | .indexAddr t x i=>indexAddr P t (ev l x) (ev l i) w K
 | .index t x i=>S9 P t (ev l x) (ev l i) w K
 | .lookup t x i ok=>lookup P t (ev l x) (ev l i) ok w K
 | .mapUpdate t m k x=>mapUpdate P t (ev l m) (ev l k) (ev l x) w K
 | .insert t m k x=>mapUpdate P t (ev l m) (ev l k) (ev l x) w K
 | .mapEntry t m k=>mapEntry P t (ev l m) (ev l k) w K
 | .entryStore t m s x=>entryStore P t (ev l m) (ev l s) (ev l x) w K
 | .range t x=>rng P t (ev l x) w K
 | .next h j=>W3 P (ev l h) j o.type w K
 | .extract x i=>ext P (ev l x) i w K
 | .entry h=>Q8A P (ev l h) w K
 | .panic x=>pnc P (ev l x) w K
 | .call c=>Dm P l o c w K
 | _=>op P (execOp (ev l) o) w K
theorem Q8K {α β:Type} (f:α→β) (a:Array α):a.map f=(a.toList.map f).toArray:=by rw[←Array.toList_map,Array.toArray_toList]
theorem X1X (l:List Value) (x:Option Operand):x.map (ev l)=evo l x:=by cases x<;>rfl
theorem Q5C {P:Program} {l:List Value} {o:Oper} {c:Call} {K e:Value→World→Prop} {w:World} (d: ∀v w,K v w→e v w) (h:Dm P l o c w K):Dm P l o c w e:=by
 obtain ⟨a,g,i⟩:=c
 cases a with
 | builtin b=>exact Ri d h
 | invoke r m=>exact Ri d h
 | value f=>cases f<;>(simp only[Dm,Z3,Q1] at h⊢;exact Ri d h)
theorem K1 {P:Program} {l:List Value} {o:Oper} {K b:Value→World→Prop} {w:World} (a: ∀v w,K v w→b v w) (h:W8 P l o w K):W8 P l o w b:=by
 obtain ⟨d,p,c,pos,e,g⟩:=o
 cases p<;>first | exact a _ _ h | exact Q5C a h | exact Ri a h | (simp only[W8] at h⊢;exact Ri a h)
theorem Q6E {P:Program} {l:List Value} {o:Oper} {K:Value→World→Prop} {w:World} (h:W8 P l o w K):op P (execOp (ev l) o) w K:=by
 unfold W8 at h
 split at h<;>rename_i a
 all_goals first
  | exact h
  | (unfold execOp;rw[a];exact h)
  | (unfold execOp;rw[a];simp only[Q8K,X1X];exact h)
  | (unfold execOp;rw[a,P9];exact h)
  | skip
 rename_i c
 unfold Dm at h
 split at h<;>rename_i b
 ·unfold execOp;rw[a];simp only[resolve,b,Q8K]
  simp only[pure_bind,invoke]
  unfold X3 at h
  simp only[Array.toArray_toList] at h
  refine (congrArg (fun z=>op P (builtin _ c.argTypes o.type (List.toArray z) _) w K) (List.map_congr_left (fun x _=>?_))).mp h
  cases x<;>rfl
 ·unfold execOp;rw[a];simp only[resolve,b,Q8K]
  simp only[ev,Deferred.ofValue,pure_bind,invoke]
  simpa [Q1,evs] using h
 ·unfold execOp;rw[a];simp only[resolve,b,Q8K]
  exact h
 ·exact h
def Nu (v:Value) (b:Bool) (w:World) (a:World→(Value→World→Prop)→Prop) (J:Value→World→Prop):Prop:=
 match v with
 | .bool c=>if c=b then a w J else J undef w
 | _=>J undef w
theorem Q9S: ∃f:Value→Bool→World→(World→(Value→World→Prop)→Prop)→(Value→World→Prop)→Prop,f=Nu:=⟨_,rfl⟩
noncomputable def Q0:Value→Bool→World→(World→(Value→World→Prop)→Prop)→(Value→World→Prop)→Prop:=Classical.choose Q9S
theorem El:Q0=Nu:=Classical.choose_spec Q9S
def Q37 (v:Value) (t e:Prop):Prop:=
 match v with
 | .bool true=>t
 | .bool false=>e
 | _=>False
theorem X03: ∃f:Value→Prop→Prop→Prop,f=Q37:=⟨_,rfl⟩
noncomputable def X1:Value→Prop→Prop→Prop:=Classical.choose X03
theorem Q5v:X1=Q37:=Classical.choose_spec X03
noncomputable def Z5 (P:Program) (ops:List Oper) (next:List Value→World→Prop):List Oper→List Value→World→Prop
 | [],l,w=>next l w
 | o::a,l,w=>
  match o.guard with
  | none=>W8 P l o w (fun v w=>Z5 P ops next a (put l o.dst v) w)
  | some (j,b)=>match (ops[j]?).bind (·.dst) with
   | some d=>Q0 (get l d) b w (W8 P l o) (fun v w=>Z5 P ops next a (put l o.dst v) w)
   | none=>Z5 P ops next a (put l o.dst undef) w
def Tm:Nat→Type
 | 0=>Unit
 | 1=>Value
 | n+2=>Value×Tm (n+1)
def Db (l:List Value):(a:List Nat)→Tm a.length
 | []=>()
 | [s]=>get l s
 | s::t::r=>(get l s,Db l (t::r))
def Hv (i:Nat) (e:Value):(a:List Nat)→Tm a.length→Value
 | [],_=>e
 | [s],x=>if s=i then x else e
 | s::t::r,x=>if s=i then x.1 else Hv i e (t::r) x.2
def H3 (a b:List Nat) (x:Tm a.length) (d:Nat→Value):Nat→List Value→List Value
 | _,[]=>[]
 | i,v::l=>Hv i (if b.contains i then d i else v) a x::H3 a b x d (i+1) l
def X1d (α:Type) (x0:α) (w:World) (a:(α→World→Prop)→α→(Nat→Value)→World→Prop):Prop:=
 ∃(I:α→World→Prop) (μ:α→World→Nat),I x0 w∧ ∀x d w,I x w→a (fun b w'=>I b w'∧μ b w'<μ x w) x d w
theorem X1i: ∃f:(α:Type)→α→World→((α→World→Prop)→α→(Nat→Value)→World→Prop)→Prop,f=X1d:=⟨_,rfl⟩
noncomputable def lp {α:Type}:α→World→((α→World→Prop)→α→(Nat→Value)→World→Prop)→Prop:=Classical.choose X1i α
theorem X0W {α:Type} (x0:α) (w:World) (a:(α→World→Prop)→α→(Nat→Value)→World→Prop):lp x0 w a=X1d α x0 w a:=
 congrFun (congrFun (congrFun (congrFun (Classical.choose_spec X1i) α) x0) w) a
def X1e (α:Type) (w:World) (A:(α→World→Prop)→World→Prop) (B:α→(Nat→Value)→World→Prop):Prop:=
 ∃I:α→World→Prop,A I w∧ ∀x d w,I x w→B x d w
theorem X1k: ∃f:(α:Type)→World→((α→World→Prop)→World→Prop)→(α→(Nat→Value)→World→Prop)→Prop,f=X1e:=⟨_,rfl⟩
noncomputable def jn {α:Type}:World→((α→World→Prop)→World→Prop)→(α→(Nat→Value)→World→Prop)→Prop:=Classical.choose X1k α
theorem X16 {α:Type} (w:World) (A:(α→World→Prop)→World→Prop) (B:α→(Nat→Value)→World→Prop):jn w A B=X1e α w A B:=
 congrFun (congrFun (congrFun (congrFun (Classical.choose_spec X1k) α) w) A) B
theorem Zv {α:Type} {w:World} {A:(α→World→Prop)→World→Prop} {B:α→(Nat→Value)→World→Prop} (I:α→World→Prop) (h:A I w) (a: ∀x d w,I x w→B x d w):jn w A B:=by
 rw[X16];exact ⟨I,h,a⟩
theorem Q5y {α:Type} {w:World} {A:(α→World→Prop)→World→Prop} {B:α→(Nat→Value)→World→Prop} (h:jn w A B): ∃I:α→World→Prop,A I w∧ ∀x d w,I x w→B x d w:=by
 rw[X16] at h;exact h
theorem Wc {α:Type} {x0:α} {w:World} {a:(α→World→Prop)→α→(Nat→Value)→World→Prop} (I:α→World→Prop) (μ:α→World→Nat) (e:I x0 w)
 (c: ∀x d w,I x w→a (fun b w'=>I b w'∧μ b w'<μ x w) x d w):lp x0 w a:=by
 rw[X0W];exact ⟨I,μ,e,c⟩
theorem Q9o {α:Type} {x0:α} {w:World} {a:(α→World→Prop)→α→(Nat→Value)→World→Prop} (h:lp x0 w a):
 ∃(I:α→World→Prop) (μ:α→World→Nat),I x0 w∧ ∀x d w,I x w→a (fun b w'=>I b w'∧μ b w'<μ x w) x d w:=by
 rw[X0W] at h;exact h
def R8 (ops:List Oper):List Nat:=ops.filterMap (·.dst)
def Qn:Code→Nat
 | .seq a b=>Qn a+Qn b+1
 | .cond _ a b=>Qn a+Qn b
 | .block _ c=>Qn c
 | .loop c=>Qn c+1
 | .scope c=>Qn c
 | _=>0
def O3 (d:List (Option (List Nat))):Nat→Code→List Nat
 | _, .region _ ops _=>R8 ops.toList
 | k, .seq a b=>(d.getD k none).getD []++(O3 d (k+1) a++O3 d (k+1+Qn a) b)
 | k, .cond _ a b=>O3 d k a++O3 d (k+Qn a) b
 | k, .block _ c=>O3 d k c
 | k, .loop c=>(d.getD k none).getD []++O3 d (k+1) c
 | k, .scope c=>O3 d k c
 | _,_=>[]
abbrev He:=Exit→List Value→World→Prop
def thn (next:List Value→World→Prop) (Q:He):He
 | .normal,a,w=>next a w
 | e,a,w=>Q e a w
def Q3b (id:Nat) (Q:He):He
 | .exit b,a,w=>if b=id then Q .normal a w else Q (.exit b) a w
 | e,a,w=>Q e a w
noncomputable def Oy (P:Program) (a:List (Option (List Nat))):Nat→Code→He→List Value→World→Prop
 | _, .skip,Q,l,w=>Q .normal l w
 | _, .label _,Q,l,w=>Q .normal l w
 | _, .exit id,Q,l,w=>Q (.exit id) l w
 | _, .ret,Q,l,w=>Q .ret l w
 | _, .region _ ops false,Q,l,w=>Z5 P ops.toList (fun l w=>Q .normal l w) ops.toList l w
 | _, .region _ ops true,Q,l,w=> ∀t,Z5 P ops.toList (fun l w=>Q .normal l w) ((Region.schedule (P.follows .mixedOrders) ops t).filterMap (ops[·]?)) l w.drew
 | k, .seq x y,Q,l,w=>match a.getD k none with
  | none=>Oy P a (k+1) x (thn (fun l w=>Oy P a (k+1+Qn x) y Q l w) Q) l w
  | some e=>jn w (fun J w=>Oy P a (k+1) x (thn (fun l' w'=>J (Db l' e) w') Q) l w)
   (fun z d w=>Oy P a (k+1+Qn x) y Q (H3 e (O3 a (k+1) x) z d 0 l) w)
 | k, .cond c x y,Q,l,w=>X1 (ev l c) (Oy P a k x Q l w) (Oy P a (k+Qn x) y Q l w)
 | k, .block id c,Q,l,w=>Oy P a k c (Q3b id Q) l w
 | k, .loop c,Q,l,w=>
  lp (Db l ((a.getD k none).getD [])) w (fun b x d w=>Oy P a (k+1) c (thn (fun l' w'=>b (Db l' ((a.getD k none).getD [])) w') Q) (H3 ((a.getD k none).getD []) (O3 a (k+1) c) x d 0 l) w)
 | _,_,_,_,_=>False
theorem Q8u {ops:List Oper} {l:List Value} {o:Oper} {j:Nat} {b:Bool} (a:o.guard=some (j,b)) {d:Nat} (e:(ops[j]?).bind (·.dst)=some d):
 Region.wanted o (yielded ops.toArray l.toArray)=true↔get l d= .bool b:=by
 unfold Region.wanted yielded
 rw[a]
 simp only[List.getElem?_toArray]
 rw[e]
 simp only[Option.bind_some,get,List.getD_eq_getElem?_getD]
 have key: ∀x:Option Value,((match x with | some (.bool c)=>some c | _=>none)==some b)=true↔x.getD undef= .bool b:=by
  intro x
  cases x with
  | none=>simp[undef]
  | some v=>cases v<;>simp
 exact key _
theorem Q74 {ops:List Oper} {l:List Value} {o:Oper} {j:Nat} {b:Bool} (a:o.guard=some (j,b)) (c:(ops[j]?).bind (·.dst)=none):
 Region.wanted o (yielded ops.toArray l.toArray)=false:=by
 unfold Region.wanted yielded
 rw[a]
 simp only[List.getElem?_toArray]
 rw[c]
 rfl
theorem Ls {v:Value} {b:Bool} {a:World→(Value→World→Prop)→Prop} {J:Value→World→Prop} {w:World} (h:Q0 v b w a J):
 (v= .bool b∧a w J)∨(v≠ .bool b∧J undef w):=by
 rw[El] at h
 unfold Nu at h
 split at h
 ·split at h
  ·rename_i c;subst c;exact .inl ⟨rfl,h⟩
  ·rename_i c;exact .inr ⟨by simp[c],h⟩
 ·rename_i d;exact .inr ⟨d b,h⟩
theorem Q0V {v:Value} {b:Bool} {a:World→(Value→World→Prop)→Prop} {J:Value→World→Prop} {w:World}
 (h:(v= .bool b∧a w J)∨(v≠ .bool b∧J undef w)):Q0 v b w a J:=by
 rw[El]
 unfold Nu
 split
 ·split
  ·rename_i c;subst c
   rcases h with h | h
   ·exact h.2
   ·exact absurd rfl h.1
  ·rename_i c
   rcases h with h | h
   ·exact absurd (Value.bool.inj h.1) c
   ·exact h.2
 ·rename_i d
  rcases h with h | h
  ·exact absurd h.1 (d b)
  ·exact h.2
theorem Q3z (a:Act):a.eval=ev a.tmps.toList:=by
 funext x
 cases x<;>simp[Act.eval,ev,get,List.getD_eq_getElem?_getD]
theorem Q8y (a:Act) (d:Option Tmp) (v:Value):(a.put d v).tmps.toList=put a.tmps.toList d v:=by
 cases d<;>simp[Act.put,put]
theorem Q83 (a:Act) (d:Option Tmp) (v:Value):(a.put d v).defers=a.defers:=by
 cases d<;>simp[Act.put]
def lift (Q:He):Exit→Act→World→Prop:=fun e a w=>a.defers=[]∧Q e a.tmps.toList w
theorem Q1a (P:Program) (ops:Array Oper) (Q:Exit→Act→World→Prop) (next:List Value→World→Prop)
 (u: ∀a w,a.defers=[]→next a.tmps.toList w→Q .normal a w) (is:List Nat) (q: ∀i∈is,i<ops.size):
 ∀(a:Act) (w:World),a.defers=[]→Z5 P ops.toList next (is.filterMap (ops[·]?)) a.tmps.toList w→wpOps P ops Q is a w:=by
 induction is with
 | nil=>intro a w o h;exact u a w o h
 | cons i is y=>
  intro a w o h
  have p:=q i (by simp)
  have m:ops[i]? =some ops[i]:=by simp[p]
  rw[List.filterMap_cons,m] at h
  simp only[Z5] at h
  simp only[wpOps,m]
  have r:ops.toList.toArray=ops:=by simp
  have s:a.tmps.toList.toArray=a.tmps:=by simp
  have f: ∀{v w},Z5 P ops.toList next (is.filterMap (ops[·]?)) (put a.tmps.toList ops[i].dst v) w→wpOps P ops Q is (a.put ops[i].dst v) w:=by
   intro v w e
   refine y (fun j t=>q j (by simp[t])) _ _ (by rw[Q83];exact o) ?_
   rw[Q8y];exact e
  have k:W8 P a.tmps.toList ops[i] w (fun v w=>Z5 P ops.toList next (is.filterMap (ops[·]?)) (put a.tmps.toList ops[i].dst v) w)→
   ops[i].wp P a w (wpOps P ops Q is) Q:=by
   intro h
   refine X3g ?_
   rw[Q3z]
   exact Ri (fun v w e=>f e) (Q6E h)
  split at h
  ·rename_i n
   rw[if_pos (by simp[Region.wanted,n])]
   exact .inl (k h)
  ·rename_i j b n
   split at h
   ·rename_i d c
    have g:=Q8u (ops:=ops.toList) (l:=a.tmps.toList) n c
    rw[r,s] at g
    rcases Ls h with ⟨e,h⟩ | ⟨e,h⟩
    ·rw[if_pos (g.2 e)];exact .inl (k h)
    ·rw[if_neg (fun h=>e (g.1 h))];exact f h
   ·rename_i c
    have g:=Q74 (ops:=ops.toList) (l:=a.tmps.toList) n c
    rw[r,s] at g
    rw[if_neg (by rw[g];simp)];exact f h
theorem Ts (ops:Array Oper):(List.range ops.size).filterMap (ops[·]?)=ops.toList:=by
 apply List.ext_getElem?
 intro i
 rw[←Array.length_toList]
 have: ∀l:List Oper,(List.range l.length).filterMap (l[·]?)=l:=by
  intro l
  induction l with
  | nil=>rfl
  | cons x l a=>
   rw[List.length_cons,List.range_succ_eq_map,List.filterMap_cons]
   simp only[List.getElem?_cons_zero,List.filterMap_map]
   congr 1
 have h:=this ops.toList
 simp only[Array.getElem?_toList] at h
 rw[h]
theorem Q20 (b:Bool) (ops:Array Oper) (t:Nat): ∀i∈Region.schedule b ops t,i<ops.size:=by
 have key: ∀m c t a e,(∀i∈e,i<ops.size)→ ∀i∈Region.linearise.go m ops c t a e,i<ops.size:=by
  intro m c
  induction c with
  | zero=>intro t a e h i d;simp[Region.linearise.go] at d;exact h i d
  | succ c f=>
   intro t a e h i d
   simp only[Region.linearise.go] at d
   split at d
   ·rename_i j g
    refine f _ _ _ ?_ i d
    intro k hk
    rcases List.mem_cons.1 hk with rfl | hk
    ·have:=List.mem_of_getElem? g
     simp only[List.mem_filter,List.mem_range] at this
     exact this.1
    ·exact h k hk
   ·simp at d;exact h i d
 intro i d
 unfold Region.schedule at d
 split at d
 ·exact key _ _ _ _ _ (by simp) i d
 ·exact key _ _ _ _ _ (by simp) i d
def Ql (W:List Nat) (l l':List Value):Prop:=l'.length=l.length∧ ∀i,W.contains i=false→l'[i]? =l[i]?
theorem Ql.refl (W:List Nat) (l:List Value):Ql W l l:=⟨rfl,fun _ _=>rfl⟩
theorem Ql.trans {W:List Nat} {a b c:List Value} (h:Ql W a b) (k:Ql W b c):Ql W a c:=
 ⟨k.1.trans h.1,fun i d=>(k.2 i d).trans (h.2 i d)⟩
theorem Sm (a c:List Nat) (x:Tm a.length) (d:Nat→Value) (l:List Value): ∀i,(H3 a c x d i l).length=l.length:=by
 induction l with
 | nil=>intro i;rfl
 | cons v l b=>intro i;simp[H3,b]
theorem Bh (a b:List Nat) (x:Tm a.length) (d:Nat→Value) (l:List Value): ∀i j,(H3 a b x d i l)[j]? =(l[j]?).map fun v=>Hv (i+j) (if b.contains (i+j) then d (i+j) else v) a x:=by
 induction l with
 | nil=>intro i j;simp[H3]
 | cons v l c=>
  intro i j
  cases j with
  | zero=>simp[H3]
  | succ j=>simp only[H3,List.getElem?_cons_succ,c];rw[show i+1+j=i+(j+1) from by omega]
theorem Vn (i:Nat) (e:Value): ∀(b:List Nat) (x:Tm b.length),b.contains i=false→Hv i e b x=e
 | [],_,_=>rfl
 | [s],x,h=>by
  have a: ¬s=i:=by intro a;subst a;simp at h
  exact if_neg a
 | s::t::r,x,h=>by
  simp only[Hv]
  split
  ·rename_i a;subst a;simp at h
  ·refine Vn i e (t::r) x.2 ?_
   simp only[List.contains_cons,Bool.or_eq_false_iff] at h⊢
   exact h.2
theorem Q58 (l:List Value) (i:Nat) (e c:Value): ∀(a:List Nat),a.contains i=true→Hv i e a (Db l a)=get l i
 | [],h=>by simp at h
 | [s],h=>by
  simp only[List.contains_cons,List.contains_nil,Bool.or_false,beq_iff_eq] at h
  subst h;simp[Hv,Db]
 | s::t::r,h=>by
  simp only[Hv,Db]
  split
  ·rename_i b;subst b;rfl
  ·rename_i b
   refine Q58 l i e c (t::r) ?_
   simp only[List.contains_cons,Bool.or_eq_true,beq_iff_eq] at h⊢
   rcases h with h | h
   ·exact absurd h.symm b
   ·exact h
theorem Tb (a c:List Nat) (l l':List Value) (g:l'.length=l.length)
 (h: ∀i,a.contains i=false→c.contains i=false→l'[i]? =l[i]?):l'=H3 a c (Db l' a) (get l') 0 l:=by
 apply List.ext_getElem?
 intro i
 rw[Bh]
 simp only[Nat.zero_add]
 cases f:l[i]? with
 | none=>
  have:=List.getElem?_eq_none_iff.1 f
  simp only[Option.map_none]
  exact List.getElem?_eq_none (by omega)
 | some v=>
  have m:i<l.length:=(List.getElem?_eq_some_iff.1 f).1
  have j:l'[i]? =some (get l' i):=by
   simp only[get,List.getD_eq_getElem?_getD]
   rw[List.getElem?_eq_getElem (by omega)];rfl
  rw[j]
  simp only[Option.map_some,Option.some.injEq]
  by_cases k:a.contains i=true
  ·rw[Q58 l' i _ undef a k]
  ·have b:a.contains i=false:=by simpa using k
   rw[Vn _ _ _ _ b]
   by_cases d:c.contains i=true
   ·rw[if_pos d]
   ·have e:c.contains i=false:=by simpa using d
    rw[if_neg d]
    have:=h i b e
    rw[j,f] at this
    exact Option.some.inj this
theorem Q4v {v:Value} {t e b a:Prop} (d:t→b) (c:e→a) (h:X1 v t e):X1 v b a:=by
 rw[Q5v] at*
 unfold Q37 at*
 split at h
 ·exact d h
 ·exact c h
 ·exact h.elim
theorem Uh (P:Program) (c:List Oper) (next a:List Value→World→Prop) (W:List Nat) (j:List Value): ∀(ops:List Oper) (l:List Value) (w:World),
 (∀o∈ops,∀d,o.dst=some d→W.contains d=true)→Ql W j l→(∀l w,next l w→Ql W j l→a l w)→Z5 P c next ops l w→Z5 P c a ops l w
 | [],l,w,_,k,n,h=>n l w h k
 | o::f,l,w,r,k,n,h=>by
  have g: ∀v,Ql W j (put l o.dst v):=by
   intro v
   cases t:o.dst with
   | none=>exact k
   | some d=>
    have y:=r o (by simp) d t
    refine k.trans ⟨by simp[put],fun i q=>?_⟩
    have:d≠i:=by intro e;subst e;rw[y] at q;cases q
    simp[put,this]
  have b: ∀v w,Z5 P c next f (put l o.dst v) w→Z5 P c a f (put l o.dst v) w:=fun v w u=>
   Uh P c next a W j f _ w (fun o s=>r o (by simp[s])) (g v) n u
  simp only[Z5] at h⊢
  split at h
  ·exact K1 b h
  ·split at h
   ·refine Q0V ((Ls h).imp (fun ⟨m,p⟩=>⟨m,K1 b p⟩) (fun ⟨m,p⟩=>⟨m,b _ _ p⟩))
   ·exact b _ _ h
theorem Q4h {α:Type} {x0:α} {c a:(α→World→Prop)→α→(Nat→Value)→World→Prop} {w:World}
 (f: ∀b x d w,c b x d w→a b x d w) (h:lp x0 w c):lp x0 w a:=by
 obtain ⟨I,μ,i,g⟩:=Q9o h
 exact Wc I μ i fun x d w e=>f _ _ _ _ (g x d w e)
theorem T1 {a b:List Nat} {i:Nat} (h:a.contains i=true):(a++b).contains i=true:=by simp at h⊢;exact .inl h
theorem R4 {a b:List Nat} {i:Nat} (h:b.contains i=true):(a++b).contains i=true:=by simp at h⊢;exact .inr h
theorem Q4A (P:Program) (q:List (Option (List Nat))) (c:Code): ∀(k:Nat) (Q A:He) (W:List Nat) (m l:List Value) (w:World),
 (∀i,(O3 q k c).contains i=true→W.contains i=true)→Ql W m l→
 (∀e l w,Q e l w→Ql W m l→A e l w)→Oy P q k c Q l w→Oy P q k c A l w:=by
 induction c with
 | skip=>intro k Q A W m l w _ g j h;exact j _ _ _ h g
 | label n=>intro k Q A W m l w _ g j h;exact j _ _ _ h g
 | exit id=>intro k Q A W m l w _ g j h;exact j _ _ _ h g
 | ret=>intro k Q A W m l w _ g j h;exact j _ _ _ h g
 | goto n=>intro k Q A W m l w _ g j h;exact h.elim
 | refuse s=>intro k Q A W m l w _ g j h;exact h.elim
 | scope c=>intro k Q A W m l w _ g j h;exact h.elim
 | rangeFunc f p a b=>intro k Q A W m l w _ g j h;exact h.elim
 | region id ops M=>
  intro k Q A W m l w B g j h
  have N: ∀o∈ops.toList,∀d,o.dst=some d→W.contains d=true:=by
   intro o R d hd
   refine B d ?_
   simp only[O3,R8,List.contains_eq_mem,List.mem_filterMap,decide_eq_true_eq]
   exact ⟨o,R,hd⟩
  cases M with
  | false=>exact Uh P _ _ _ W m _ _ _ N g (fun l w X g=>j _ _ _ X g) h
  | true=>
   intro t
   refine Uh P _ _ _ W m _ _ _ ?_ g (fun l w X g=>j _ _ _ X g) (h t)
   intro o R
   simp only[List.mem_filterMap] at R
   obtain ⟨i,_,r⟩:=R
   exact N o (by simpa using Array.mem_of_getElem? r)
 | seq x y D E=>
  intro k Q A W m l w B g j h
  have U: ∀i,(O3 q (k+1) x).contains i=true→W.contains i=true:=fun i r=>B i (R4 (T1 r))
  have hy: ∀i,(O3 q (k+1+Qn x) y).contains i=true→W.contains i=true:=fun i r=>B i (R4 (R4 r))
  simp only[Oy] at h⊢
  split at h
  ·refine D _ _ _ W m l w U g ?_ h
   intro e l' w' C u
   cases e with
   | normal=>exact E _ _ _ W m l' w' hy u j C
   | _=>exact j _ _ _ C u
  ·rename_i sl Y
   obtain ⟨J,L,O⟩:=Q5y h
   refine Zv J (D _ _ _ W m l w U g ?_ L) fun z d w hz=>?_
   ·intro e l' w' C u
    cases e with
    | normal=>exact C
    | _=>exact j _ _ _ C u
   ·refine E _ _ _ W m _ w hy (g.trans ⟨Sm _ _ _ _ _ _,fun i r=>?_⟩) j (O z d w hz)
    rw[Bh]
    have L:sl.contains i=false:=by
     cases H:sl.contains i with
     | false=>rfl
     | true=>rw[B i (T1 (by rw[Y];exact H))] at r;cases r
    have O:(O3 q (k+1) x).contains i=false:=by
     cases H:(O3 q (k+1) x).contains i with
     | false=>rfl
     | true=>rw[U i H] at r;cases r
    simp only[Nat.zero_add]
    cases hl:l[i]? with
    | none=>rfl
    | some v=>simp only[Option.map_some,Vn _ _ _ _ L,O,Bool.false_eq_true,if_false]
 | cond c x y D E=>
  intro k Q A W m l w B g j h
  exact Q4v (D k _ _ W m l w (fun i r=>B i (T1 r)) g j) (E _ _ _ W m l w (fun i r=>B i (R4 r)) g j) h
 | block id c ih=>
  intro k Q A W m l w B g j h
  refine ih k _ _ W m l w B g ?_ h
  intro e l' w' C u
  cases e with
  | exit ah=>simp only[Q3b] at C⊢;split<;>rename_i Z<;>simp only[Z,if_true,if_false] at C<;>exact j _ _ _ C u
  | _=>exact j _ _ _ C u
 | loop c ih=>
  intro k Q A W m l w B g j h
  refine Q4h (fun V x d w hb=>?_) h
  refine ih _ _ _ W m _ _ (fun i r=>B i (R4 r)) ?_ ?_ hb
  ·refine g.trans ⟨Sm _ _ _ _ _ _,fun i r=>?_⟩
   rw[Bh]
   have L:((q.getD k none).getD []).contains i=false:=by
    cases H:((q.getD k none).getD []).contains i with
    | false=>rfl
    | true=>rw[B i (T1 H)] at r;cases r
   have O:(O3 q (k+1) c).contains i=false:=by
    cases H:(O3 q (k+1) c).contains i with
    | false=>rfl
    | true=>rw[B i (R4 H)] at r;cases r
   simp only[Nat.zero_add]
   cases hl:l[i]? with
   | none=>rfl
   | some v=>simp only[Option.map_some,Vn _ _ _ _ L,O,Bool.false_eq_true,if_false]
  ·intro e l' w' C u
   cases e with
   | normal=>exact C
   | _=>exact j _ _ _ C u
theorem Q9y (P:Program) (g:List (Option (List Nat))) (c:Code): ∀(k:Nat) (Q:He) (a:Act) (w:World),
 a.defers=[]→Oy P g k c Q a.tmps.toList w→c.wp P (lift Q) a w:=by
 induction c with
 | skip=>intro k Q a w j h;exact wp_skip ⟨j,h⟩
 | label n=>intro k Q a w j h;exact wp_label ⟨j,h⟩
 | exit id=>intro k Q a w j h;exact wp_exit ⟨j,h⟩
 | ret=>intro k Q a w j h;exact wp_ret ⟨j,h⟩
 | goto n=>intro k Q a w j h;exact h.elim
 | refuse s=>intro k Q a w j h;exact h.elim
 | scope c=>intro k Q a w j h;exact h.elim
 | rangeFunc f p a b=>intro k Q a w j h;exact h.elim
 | region id ops C=>
  intro k Q a w j h
  cases C with
  | false=>
   refine wp_region (Q1a P ops _ _ (fun a w j h=>⟨j,h⟩) _ (by simp) a w j ?_)
   rw[Ts];exact h
  | true=>
   refine wp_region_draw fun t=>?_
   exact Q1a P ops _ _ (fun a w j h=>⟨j,h⟩) _ (Q20 _ _ _) a _ j (h t)
 | seq x y r u=>
  intro k Q a w j h
  simp only[Oy] at h
  split at h
  ·refine wp_seq (wp_mono (r _ _ a w j h) ?_)
   intro e o w' ⟨m,q⟩
   cases e with
   | normal=>exact u _ _ o w' m q
   | _=>exact ⟨m,q⟩
  ·rename_i Y aa
   obtain ⟨J,L,E⟩:=Q5y h
   have H:=Q4A P g x (k+1) _ (fun e l' w'=>thn (fun l' w'=>J (Db l' Y) w') Q e l' w'∧Ql (O3 g (k+1) x) a.tmps.toList l') (O3 g (k+1) x) a.tmps.toList a.tmps.toList w (fun _ h=>h) (Ql.refl _ _) (fun e l w h U=>⟨h,U⟩) L
   refine wp_seq (wp_mono (r (k+1) _ a w j H) ?_)
   intro e o w' ⟨m,q,B⟩
   cases e with
   | normal=>
    refine u (k+1+Qn x) _ o w' m ?_
    rw[Tb Y (O3 g (k+1) x) a.tmps.toList o.tmps.toList B.1 (fun i _ h=>B.2 i h)]
    exact E _ _ _ q
   | _=>exact ⟨m,q⟩
 | cond c x y r u=>
  intro k Q a w j h
  simp only[Oy,Q5v,Q37] at h
  split at h
  ·rename_i M
   exact wp_cond_true (by rw[Q3z];exact M) (r _ _ _ _ j h)
  ·rename_i M
   exact wp_cond_false (by rw[Q3z];exact M) (u _ _ _ _ j h)
  ·exact h.elim
 | block id c V=>
  intro k Q a w j h
  refine wp_block (wp_mono (V k _ a w j h) ?_)
  intro e o w' ⟨m,q⟩
  cases e with
  | exit ae=>
   simp only[Q3b,Exit.inBlock] at q⊢
   split<;>rename_i R<;>simp only[R,if_true,if_false] at q<;>exact ⟨m,q⟩
  | _=>exact ⟨m,q⟩
 | loop c V=>
  intro k Q a w j h
  obtain ⟨I,μ,h0,hr⟩:=Q9o h
  refine wp_loop (fun o w'=>o.defers=[]∧(∃d,o.tmps.toList=H3 ((g.getD k none).getD []) (O3 g (k+1) c) (Db o.tmps.toList ((g.getD k none).getD [])) d 0 a.tmps.toList)∧I (Db o.tmps.toList ((g.getD k none).getD [])) w') (fun o w'=>μ (Db o.tmps.toList ((g.getD k none).getD [])) w') ⟨j,⟨get a.tmps.toList,Tb _ _ _ _ rfl (fun _ _ _=>rfl)⟩,h0⟩ ?_
  intro D w1 ⟨N,⟨d1,v⟩,X⟩
  have W:=hr _ d1 w1 X
  dsimp only at W
  rw[←v] at W
  have O:=Q4A P g c (k+1) _ (fun e l' w'=>thn (fun l' w'=>I (Db l' ((g.getD k none).getD [])) w'∧μ (Db l' ((g.getD k none).getD [])) w'<μ (Db D.tmps.toList ((g.getD k none).getD [])) w1) Q e l' w'∧Ql (O3 g (k+1) c) D.tmps.toList l') (O3 g (k+1) c) D.tmps.toList D.tmps.toList w1 (fun _ h=>h) (Ql.refl _ _) (fun e l w h U=>⟨h,U⟩) W
  refine wp_mono (V _ _ D w1 N O) ?_
  intro e Z w2 ⟨z,E,A⟩
  cases e with
  | normal=>
   refine ⟨⟨z,⟨get Z.tmps.toList,Tb _ _ _ _ ?_ ?_⟩,E.1⟩,E.2⟩
   ·rw[A.1,v,Sm]
   ·intro i L H
    rw[A.2 i H,v,Bh]
    simp only[Nat.zero_add,Vn _ _ _ _ L,H,Bool.false_eq_true,if_false,Option.map_id']
  | _=>exact ⟨z,E⟩
def Q8j:List Value→Nat→Value→(List Value→Prop)→Prop
 | [],_,_,k=>k []
 | _::l,0,v,k=>k (v::l)
 | x::l,n+1,v,k=>Q8j l n v (fun l'=>k (x::l'))
def Q3I (l:List Value) (d:Option Tmp) (v:Value) (k:List Value→Prop):Prop:=
 match d with
 | some d=>Q8j l d v k
 | none=>k l
def Q7Q:List Value→Nat→(Value→Prop)→Prop
 | [],_,k=>k undef
 | x::_,0,k=>k x
 | _::l,n+1,k=>Q7Q l n k
def evK (l:List Value) (o:Operand) (k:Value→Prop):Prop:=
 match o with
 | .tmp t=>Q7Q l t k
 | .const v=>k v
 | .global g=>k (.pointer (some ⟨g,0,none⟩))
 | .func f=>k (.func (.func f) #[] #[])
def Q2J (i:Nat) (e:Value):(a:List Nat)→Tm a.length→(Value→Prop)→Prop
 | [],_,k=>k e
 | [s],x,k=>if s=i then k x else k e
 | s::t::r,x,k=>if s=i then k x.1 else Q2J i e (t::r) x.2 k
def Fq (a b:List Nat) (x:Tm a.length) (d:Nat→Value):Nat→List Value→(List Value→Prop)→Prop
 | _,[],k=>k []
 | i,v::l,k=>match b.contains i with
  | true=>Q2J i (d i) a x (fun u=>Fq a b x d (i+1) l (fun l'=>k (u::l')))
  | false=>Q2J i v a x (fun u=>Fq a b x d (i+1) l (fun l'=>k (u::l')))
theorem X1J (l:List Value): ∀(n:Nat) (v:Value) (k:List Value→Prop),Q8j l n v k=k (l.set n v):=by
 induction l with
 | nil=>intro n v k;rfl
 | cons x l a=>intro n v k;cases n with
  | zero=>rfl
  | succ n=>simp only[Q8j,a,List.set_cons_succ]
theorem Q7t (l:List Value) (d:Option Tmp) (v:Value) (k:List Value→Prop):Q3I l d v k=k (put l d v):=by
 cases d with
 | none=>rfl
 | some d=>exact X1J l d v k
theorem X2h (l:List Value): ∀(n:Nat) (k:Value→Prop),Q7Q l n k=k (get l n):=by
 induction l with
 | nil=>intro n k;rfl
 | cons x l a=>intro n k;cases n with
  | zero=>rfl
  | succ n=>simp only[Q7Q,a];rfl
theorem X3a (l:List Value) (o:Operand) (k:Value→Prop):evK l o k=k (ev l o):=by
 cases o with
 | tmp t=>exact X2h l t k
 | _=>rfl
theorem Q0m (i:Nat) (e:Value) (k:Value→Prop): ∀(a:List Nat) (x:Tm a.length),Q2J i e a x k=k (Hv i e a x)
 | [],_=>rfl
 | [s],x=>by
  by_cases h:s=i
  ·exact (if_pos h).trans (congrArg k (if_pos h).symm)
  ·exact (if_neg h).trans (congrArg k (if_neg h).symm)
 | s::t::r,x=>by
  by_cases h:s=i
  ·exact (if_pos h).trans (congrArg k (if_pos h).symm)
  ·exact ((if_neg h).trans (Q0m i e k (t::r) x.2)).trans (congrArg k (if_neg h).symm)
theorem Q4j (a c:List Nat) (x:Tm a.length) (d:Nat→Value) (l:List Value): ∀(i:Nat) (k:List Value→Prop),Fq a c x d i l k=k (H3 a c x d i l):=by
 induction l with
 | nil=>intro i k;rfl
 | cons v l b=>
  intro i k
  simp only[Fq,H3]
  split
  ·rename_i h;rw[Q0m,b,if_pos h]
  ·rename_i h;rw[Q0m,b,if_neg (by rw[h];simp)]
theorem Cy (b c a:List Nat) (h: ∀i,c.contains i=a.contains i) (x:Tm b.length) (d:Nat→Value) (l:List Value): ∀i,H3 b c x d i l=H3 b a x d i l:=by
 induction l with
 | nil=>intro i;rfl
 | cons v l e=>intro i;simp only[H3,e,h]
noncomputable def Qb (P:Program) (ops:List Oper) (next:List Value→World→Prop):List Oper→List Value→World→Prop
 | [],l,w=>next l w
 | o::a,l,w=>
  match o.guard with
  | none=>match o.op with
   | .move x=>evK l x fun v=>Q3I l o.dst v fun l=>Qb P ops next a l w
   | .assign x=>evK l x fun v=>Q3I l o.dst v fun l=>Qb P ops next a l w
   | _=>W8 P l o w (fun v w=>Q3I l o.dst v fun l=>Qb P ops next a l w)
  | some (j,b)=>match (ops[j]?).bind (·.dst) with
   | some d=>Q0 (get l d) b w (W8 P l o) (fun v w=>Q3I l o.dst v fun l=>Qb P ops next a l w)
   | none=>Q3I l o.dst undef fun l=>Qb P ops next a l w
theorem Ii (P:Program) (ops:List Oper) (next:List Value→World→Prop) (os:List Oper): ∀(l:List Value) (w:World),Qb P ops next os l w=Z5 P ops next os l w:=by
 induction os with
 | nil=>intro l w;rfl
 | cons o c a=>
  intro l w
  obtain ⟨dst,p,d,pos,e,g⟩:=o
  cases g with
  | none=>cases p<;>simp only[Qb,Z5,Q7t,X3a,a,W8]
  | some q=>obtain ⟨j,b⟩:=q;simp only[Qb,Z5,Q7t,a]
def Ss (T:World→World→Prop) (φ:Value→World→Prop):Prop:= ∀v w w',φ v w→T w w'→φ v w'
def dk (T:World→World→Prop) (φ:Value→World→Prop) (w:World):Value→World→Prop:=fun v w'=>T w w'∧φ v w'
def Q5R (T:World→World→Prop) (A:(Value→World→Prop)→Prop) (a:(Value→World→Prop)→Prop):Prop:=
 ∃φ,Ss T φ∧A φ∧a φ
theorem X00: ∃f:(World→World→Prop)→((Value→World→Prop)→Prop)→((Value→World→Prop)→Prop)→Prop,f=Q5R:=⟨_,rfl⟩
noncomputable def Q6:(World→World→Prop)→((Value→World→Prop)→Prop)→((Value→World→Prop)→Prop)→Prop:=Classical.choose X00
theorem Q8X:Q6=Q5R:=Classical.choose_spec X00
def Q8k (w:World) (A:(World→World→Prop)→(World→Prop)→Prop):Prop:= ∃T B,B w.drew∧(∀w w',B w→T w w'→B w')∧A T B
theorem X15: ∃f:World→((World→World→Prop)→(World→Prop)→Prop)→Prop,f=Q8k:=⟨_,rfl⟩
noncomputable def dr:World→((World→World→Prop)→(World→Prop)→Prop)→Prop:=Classical.choose X15
theorem X11:dr=Q8k:=Classical.choose_spec X15
theorem Kf {w:World} {A:(World→World→Prop)→(World→Prop)→Prop} (T:World→World→Prop) (B:World→Prop) (h:B w.drew) (a: ∀w w',B w→T w w'→B w') (b:A T B):dr w A:=by
 rw[X11];exact ⟨T,B,h,a,b⟩
theorem H0 {T:World→World→Prop} {A a:(Value→World→Prop)→Prop} (φ:Value→World→Prop) (c:Ss T φ) (h:A φ) (b:a φ):Q6 T A a:=by
 rw[Q8X];exact ⟨φ,c,h,b⟩
def Q3V (T:World→World→Prop) (A a:(List Value→Value→World→Prop)→Prop):Prop:=
 ∃φ,(∀xs,Ss T (φ xs))∧A φ∧a φ
theorem Q7h: ∃f:(World→World→Prop)→((List Value→Value→World→Prop)→Prop)→((List Value→Value→World→Prop)→Prop)→Prop,f=Q3V:=⟨_,rfl⟩
noncomputable def Ry:(World→World→Prop)→((List Value→Value→World→Prop)→Prop)→((List Value→Value→World→Prop)→Prop)→Prop:=Classical.choose Q7h
theorem Q7B:Ry=Q3V:=Classical.choose_spec Q7h
theorem Q3U {T:World→World→Prop} {A a:(List Value→Value→World→Prop)→Prop} (φ:List Value→Value→World→Prop) (c: ∀xs,Ss T (φ xs)) (h:A φ) (b:a φ):Ry T A a:=by
 rw[Q7B];exact ⟨φ,c,h,b⟩
noncomputable def runOp (P:Program) (ops:List Oper) (l:List Value) (o:Oper) (w:World) (K:Value→World→Prop):Prop:=
 match o.guard with
 | none=>W8 P l o w K
 | some (j,b)=>match (ops[j]?).bind (·.dst) with
  | some d=>Q0 (get l d) b w (W8 P l o) K
  | none=>False
inductive Ent where
  | val (v : Value)
  | ref (j : Nat)
def Ent.at (u:Nat→Value):Ent→Value
 | .val v=>v
 | .ref j=>u j
def A8 (u:Nat→Value) (S:List Ent):List Value:=S.map (Ent.at u)
def getE:List Ent→Nat→Ent
 | [],_=> .val undef
 | x::_,0=>x
 | _::l,n+1=>getE l n
def entOf (S:List Ent):Operand→Ent
 | .tmp t=>getE S t
 | .const v=> .val v
 | .global g=> .val (.pointer (some ⟨g,0,none⟩))
 | .func f=> .val (.func (.func f) #[] #[])
def mv (o:Oper):Option Operand:=
 match o.guard with
 | some _=>none
 | none=>match o.op with
  | .move x=>some x
  | .assign x=>some x
  | _=>none
def Q2x:List Ent→Nat→Ent→List Ent
 | [],_,_=>[]
 | _::l,0,e=>e::l
 | x::l,n+1,e=>x::Q2x l n e
def putE (S:List Ent) (d:Option Nat) (e:Ent):List Ent:=
 match d with
 | some d=>Q2x S d e
 | none=>S
def B3 (o:Oper):List Nat:=o.op.operands.toList.filterMap fun | .tmp t=>some t | _=>none
def H9 (ops:List Oper) (o:Oper):List Nat:=
 match o.guard with
 | none=>[]
 | some (j,_)=>match (ops[j]?).bind (·.dst) with | some d=>[d] | none=>[]
def Q1G:List Nat→List Nat
 | []=>[]
 | x::l=>x::(Q1G l).filter (fun y=> !(y==x))
def Q4W:Ent→List Nat
 | .ref j=>[j]
 | .val _=>[]
def Q1y (S:List Ent):List Nat→List Nat
 | []=>[]
 | s::l=>Q4W (getE S s)++Q1y S l
def refs (ops:List Oper) (S:List Ent) (o:Oper):List Nat:=Q1G (Q1y S (H9 ops o++B3 o))
def Ps:List Nat→(Nat→Value)→((Nat→Value)→Prop)→Prop
 | [],u,k=>k u
 | j::a,u,k=> ∀t:Value,Ps a (fun n=>if n=j then t else u n) k
abbrev Sc:=List (Nat×List Nat×(List Value→Value→World→Prop))
def Uz:Sc→Nat→Option (List Nat×(List Value→Value→World→Prop))
 | [],_=>none
 | (i,φ)::l,j=>if i=j then some φ else Uz l j
def Im (b:Sc) (u:Nat→Value) (w:World) (a:Prop):List Nat→Prop
 | []=>a
 | j::c=>match Uz b j with
  | some ([],φ)=>φ [] (u j) w→Im b u w a c
  | _=>Im b u w a c
def Q1H (b:Sc) (u:Nat→Value) (w:World) (a:Prop):List Nat→Prop
 | []=>a
 | j::c=>match Uz b j with
  | some (R,φ)=>φ (R.map u) (u j) w→Q1H b u w a c
  | none=>Q1H b u w a c
def Q8c (o:Oper):Bool:=match o.op with | .store .. =>true | _=>false
noncomputable def chain (P:Program) (ops:List Oper) (T:World→World→Prop) (B:World→Prop) (W3:List Value→World→Prop) (tail:List Oper):Nat→List Oper→List Ent→Sc→List Nat→Prop
 | _,[],S,b,done=>Ps done (fun _=>undef) fun u=> ∀w,B w→Q1H b u w (Qb P ops W3 tail (A8 u S) w) done
 | i,o::a,S,b,done=>
  match mv o with
  | some x=>chain P ops T B W3 tail (i+1) a (putE S o.dst (entOf S x)) b done
  | none=>match Q8c o with
   | true=>Ry T (fun φ=>Ps (refs ops S o) (fun _=>undef) fun u=> ∀w,B w→Im b u w (runOp P ops (A8 u S) o w (dk T (φ ((refs ops S o).map u)) w)) (refs ops S o))
    (fun φ=>chain P ops T B W3 tail (i+1) a (putE S o.dst (.ref i)) (b++[(i,refs ops S o,φ)]) (done++[i]))
   | false=>Q6 T (fun φ=>Ps (refs ops S o) (fun _=>undef) fun u=> ∀w,B w→Im b u w (runOp P ops (A8 u S) o w (dk T φ w)) (refs ops S o))
    (fun φ=>chain P ops T B W3 tail (i+1) a (putE S o.dst (.ref i)) (b++[(i,[],fun _=>φ)]) (done++[i]))
def Xs:Op→Bool
 | .ready _ | .waits _ | .sliceToArrayPointer .. | .makeChan .. | .typeAssert .. | .go _ | .defer _ | .send .. | .recv .. | .select .. =>false
 | .call c=>match c.callee with | .invoke .. =>false | _=>true
 | _=>true
theorem Be {l l':List Value} {x:Option Operand} (h: ∀y∈x.toArray,ev l y=ev l' y):evo l x=evo l' x:=by
 cases x with
 | none=>rfl
 | some y=>simp only[evo];rw[h y (by simp)]
theorem Q0R {l l':List Value} {xs:Array Operand} (h: ∀y∈xs,ev l y=ev l' y):evs l xs=evs l' xs:=by
 unfold evs;exact List.map_congr_left fun y a=>h y (by simpa using a)
theorem Q4t {l l':List Value} {xs:Array (Nat×Operand)} (h: ∀y∈(xs.toList.map (·.2)).toArray,ev l y=ev l' y):evp l xs=evp l' xs:=by
 unfold evp
 refine List.map_congr_left fun y a=>?_
 rw[h y.2 (by simp;exact ⟨y.1,by simpa using a⟩)]
theorem Du {P:Program} {l l':List Value} {o:Oper} (k:Xs o.op=true) (h: ∀x∈o.op.operands,ev l x=ev l' x):W8 P l o=W8 P l' o:=by
 obtain ⟨d,p,D,pos,B,g⟩:=o
 funext w K
 cases p with
 | call c=>
  obtain ⟨j,i,C⟩:=c
  have q:evs l i=evs l' i:=Q0R fun y e=>h y (by simp[Op.operands,Call.operands];exact .inr e)
  cases j with
  | invoke r m=>simp[Xs] at k
  | builtin b=>simp only[W8,Dm,q]
  | value f=>
   have s:ev l f=ev l' f:=h f (by simp[Op.operands,Call.operands])
   cases f<;>simp only[W8,Dm,q,s]
 | build t v=>simp only[W8];rw[Q4t h]
 | buildSlice t n v=>simp only[W8];rw[Q4t h]
 | makeFunc f a b=>
  simp only[W8]
  rw[Q0R (xs:=a) fun y e=>h y (by simp[Op.operands];exact .inl e),Q0R (xs:=b) fun y e=>h y (by simp[Op.operands];exact .inr e)]
 | makeMap t r=>simp only[W8];rw[Be h]
 | slice t x A u z=>
  simp only[W8]
  rw[h x (by simp[Op.operands]),Be (x:=A) fun y e=>h y (by simp[Op.operands] at e⊢;simp[e]),Be (x:=u) fun y e=>h y (by simp[Op.operands] at e⊢;simp[e]),Be (x:=z) fun y e=>h y (by simp[Op.operands] at e⊢;simp[e])]
 | _=>first
  | (simp[Xs] at k;done)
  | (simp only[Op.operands,List.mem_toArray,List.mem_cons,List.not_mem_nil,or_false,forall_eq_or_imp,forall_eq] at h;simp only[W8,h];done)
  | rfl
def Q0g:List Oper→List Nat→List Nat
 | [],acc=>acc
 | o::a,acc=>Q0g a (acc++[(o.after.toList.filter (Region.binds .any)).foldl (fun s e=>s ||| 2 ^ e.on ||| acc.getD e.on 0) 0])
def Qo (a b:Oper):Bool:=
 match a.dst with
 | some d=>(B3 b).contains d||b.dst==some d
 | none=>false
def Q7q (a:List Nat) (ops:List Oper):Bool:=
 ops.zipIdx.all fun (o,j)=>ops.zipIdx.all fun (q,i)=> !(decide (i<j))|| !(Qo q o||Qo o q)||(a.getD j 0).testBit i
def Lc (ops:List Oper):Bool:=
 ops.zipIdx.all fun (o,i)=>Xs o.op&&(o.after.toList.filter (Region.binds .any)).all (fun e=>decide (e.on<i))&&
  match o.guard with | none=>true | some (j,_)=>(o.after.toList.filter (Region.binds .any)).any (fun e=>e.on==j)
def Q50 (m:Region.Mode) (ops:List Oper):List Nat→List Nat→Bool
 | [],_=>true
 | j::L,seen=>((ops[j]?.map fun o=>o.after.toList).getD []).all (fun e=> !Region.binds m e||seen.contains e.on)&&Q50 m ops L (j::seen)
def Zd (m:Region.Mode) (ops:List Oper) (L:List Nat):Bool:=
 Q50 m ops L []&&(List.range ops.length).all (L.contains ·)&&ops.all (fun o=>o.after.toList.all fun e=> !Region.binds m e||decide (e.on<ops.length))
def X2w (m:Region.Mode) (ops:List Oper):Nat→List Nat→List Nat→List Nat
 | 0,_,seen=>seen.reverse
 | n+1,a,seen=>
  match a.find? (fun j=>((ops[j]?.map fun o=>o.after.toList).getD []).all (fun e=> !Region.binds m e||seen.contains e.on)) with
  | some j=>X2w m ops n (a.erase j) (j::seen)
  | none=>seen.reverse
def Um:List Nat→Bool
 | []=>true
 | x::l=> !l.contains x&&Um l
def A5 (ops:List Oper) (j:Nat):List Nat:=(ops[j]?.map fun o=>(o.after.toList.filter (Region.binds .any)).map (·.on)).getD []
def Ro (ops:List Oper) (L:List Nat):Prop:= ∀a j b,L=a++j::b→ ∀i∈A5 ops j,i∈a
theorem Q61 (f:Edge→Nat) (l:List Edge): ∀(s i:Nat),(l.foldl (fun s e=>s ||| 2 ^ e.on ||| f e) s).testBit i=true→
 s.testBit i=true∨ ∃e∈l,e.on=i∨(f e).testBit i=true:=by
 induction l with
 | nil=>intro s i h;exact .inl h
 | cons e l a=>
  intro s i h
  rcases a _ _ h with h | ⟨c,b,h⟩
  ·simp only[Nat.testBit_or,Bool.or_eq_true] at h
   rcases h with (h | h) | h
   ·exact .inl h
   ·rw[Nat.testBit_two_pow] at h
    exact .inr ⟨e,by simp, .inl (by simpa using h)⟩
   ·exact .inr ⟨e,by simp, .inr h⟩
  ·exact .inr ⟨c,by simp[b],h⟩
theorem Q47 (a:List Oper): ∀(b:List Oper) (acc:List Nat),acc.length+b.length=a.length→(∀k,acc.length≤k→a[k]? =b[k-acc.length]?)→
 (∀j i,j<acc.length→(acc.getD j 0).testBit i=true→ ∃k∈A5 a j,k=i∨(k<j∧(acc.getD k 0).testBit i=true))→
 (∀j,j<a.length→ ∀k∈A5 a j,k<j)→
 ∀j i,j<a.length→((Q0g b acc).getD j 0).testBit i=true→ ∃k∈A5 a j,k=i∨(k<j∧((Q0g b acc).getD k 0).testBit i=true)
 | [],acc,q,_,d,_=>by
  intro j i t h
  exact d j i (by simp at q;omega) h
 | o::b,acc,q,l,d,p=>by
  have v:a[acc.length]? =some o:=by rw[l _ (Nat.le_refl _)];simp
  refine Q47 a b _ (by simp at q⊢;omega) ?_ ?_ p
  ·intro k f
   simp only[List.length_append,List.length_cons,List.length_nil] at f⊢
   rw[l k (by omega)]
   obtain ⟨m,w⟩: ∃m,k-acc.length=m+1:=⟨k-acc.length-1,by omega⟩
   rw[w,List.getElem?_cons_succ]
   congr 1;omega
  ·intro j i t h
   simp only[List.length_append,List.length_cons,List.length_nil] at t
   have c: ∀k,k<acc.length→(acc++[(o.after.toList.filter (Region.binds .any)).foldl (fun s e=>s ||| 2 ^ e.on ||| acc.getD e.on 0) 0]).getD k 0=acc.getD k 0:=by
    intro k f
    simp only[List.getD_eq_getElem?_getD]
    rw[List.getElem?_append_left f]
   by_cases n:j<acc.length
   ·rw[c j n] at h
    obtain ⟨k,f,h⟩:=d j i n h
    exact ⟨k,f,h.imp id fun ⟨y,z⟩=>⟨y,by rw[c k (by omega)];exact z⟩⟩
   ·have r:j=acc.length:=by omega
    subst r
    simp only[List.getD_eq_getElem?_getD,List.getElem?_append_right (Nat.le_refl _),Nat.sub_self,List.getElem?_cons_zero,Option.getD_some] at h
    rcases Q61 (fun e=>acc.getD e.on 0) _ _ _ (by simpa only[List.getD_eq_getElem?_getD] using h) with h | ⟨e,u,h⟩
    ·simp at h
    ·have g:e.on∈A5 a acc.length:=by
      unfold A5;rw[v];simp only[Option.map_some,Option.getD_some,List.mem_map];exact ⟨e,u,rfl⟩
     refine ⟨e.on,g,h.imp id fun h=>?_⟩
     have f:=p acc.length (by simp at q;omega) _ g
     exact ⟨f,by rw[c _ f];exact h⟩
theorem Gz {ops:List Oper} (h:Lc ops=true): ∀j,j<ops.length→ ∀k∈A5 ops j,k<j:=by
 intro j b k a
 simp only[Lc,List.all_eq_true,Bool.and_eq_true] at h
 unfold A5 at a
 rw[List.getElem?_eq_getElem b] at a
 simp only[Option.map_some,Option.getD_some,List.mem_map] at a
 obtain ⟨e,c,rfl⟩:=a
 have:=(h (ops[j],j) (by rw[List.mem_zipIdx_iff_getElem?];simp[b])).1.2 e c
 simpa using this
theorem Q53 {ops:List Oper} (g:Lc ops=true) {L:List Nat} (o:Ro ops L): ∀(j:Nat),j<ops.length→ ∀i b a,L=b++j::a→((Q0g ops []).getD j 0).testBit i=true→i∈b:=by
 intro j
 induction j using Nat.strongRecOn with
 | _ j p=>
  intro d i b a f q
  obtain ⟨k,l,h⟩:=Q47 ops ops [] (by simp) (by simp) (by intro j i d;simp at d) (Gz g) j i d q
  have c:=o b j a f k l
  rcases h with rfl | ⟨e,h⟩
  ·exact c
  ·obtain ⟨m,n,rfl⟩:=List.append_of_mem c
   have:=p k e (by omega) i m (n++j::a) (by rw[f];simp) h
   exact List.mem_append_left _ this
theorem Wo: ∀(n:Nat) (a:List Nat),(∀k,k<n→k∈a)→n≤a.length
 | 0,_,_=>Nat.zero_le _
 | n+1,a,h=>by
  have e:=Wo n (a.erase n) fun k c=>(List.mem_erase_of_ne (by omega)).2 (h k (by omega))
  have d:=List.length_erase_of_mem (h n (by omega))
  have b:=List.length_pos_of_mem (h n (by omega))
  omega
theorem G0: ∀(n:Nat) (l:List Nat),l.Nodup→(∀k∈l,k<n)→l.length≤n
 | 0,l,_,h=>by
  cases l with
  | nil=>simp
  | cons x l=>exact absurd (h x (by simp)) (by omega)
 | n+1,l,c,h=>by
  by_cases b:n∈l
  ·have g:=G0 n (l.erase n) (c.erase n) fun k a=>by
    have f:=h k (List.mem_of_mem_erase a)
    have d:k≠n:=fun e=>by subst e;exact (List.Nodup.not_mem_erase c) a
    omega
   have f:=List.length_erase_of_mem b
   have d:=List.length_pos_of_mem b
   omega
  ·have:=G0 n l c fun k a=>by
    have f:=h k a
    have d:k≠n:=fun e=>by subst e;exact b a
    omega
   omega
theorem Q93 {m:Region.Mode} {e:Edge} (h:Region.binds .any e=true):Region.binds m e=true:=by
 unfold Region.binds at h⊢
 cases a:e.ground<;>rw[a] at h<;>first | rfl | (exact absurd h (by simp<;>rfl)) | (simp at h;cases h)
theorem Q7P {m:Region.Mode} {ops:List Oper} {L:List Nat} (h:Zd m ops L=true) (k:Nat) (b:k<ops.length): ∀e∈(ops[k]?.map fun o=>o.after.toList).getD [],Region.binds m e=true→e.on<ops.length:=by
 intro e a c
 simp only[Zd,Bool.and_eq_true,List.all_eq_true] at h
 rw[List.getElem?_eq_getElem b] at a
 have:=h.2 ops[k] (List.getElem_mem b) e (by simpa using a)
 rw[c] at this
 simpa using this
theorem Q5O {m:Region.Mode} {ops:List Oper} {L:List Nat} (h:Zd m ops L=true): ∀k,k<ops.length→k∈L:=by
 intro k a
 simp only[Zd,Bool.and_eq_true,List.all_eq_true] at h
 simpa using h.1.2 k (by simpa using a)
theorem Q7v (m:Region.Mode) (ops:Array Oper) (O:Lc ops.toList=true) (L0:List Nat) (Q:Zd m ops.toList L0=true): ∀(fuel t:Nat) (listed:Array Bool) (a:List Nat),
 fuel+a.length=ops.size→listed.size=ops.size→(∀i,i<ops.size→(listed.getD i true=true↔i∈a))→a.Nodup→(∀i∈a,i<ops.size)→Ro ops.toList a.reverse→
 (Region.linearise.go m ops fuel t listed a).Nodup∧(Region.linearise.go m ops fuel t listed a).length=ops.size∧Ro ops.toList (Region.linearise.go m ops fuel t listed a)
 | 0,t,listed,a,hf,_,_,Y,_,hr=>by
  simp only[Region.linearise.go]
  exact ⟨List.pairwise_reverse.2 (Y.imp fun h=>Ne.symm h),by simp;omega,hr⟩
 | fuel+1,t,listed,a,hf,C,u,Y,y,hr=>by
  -- one that isn't listed may come
  have ac: ∃k,k<ops.size∧k∉a:=by
   refine Classical.byContradiction fun Z=>?_
   have E: ∀k,k<ops.size→k∈a:=fun k hk=>Classical.byContradiction fun h=>Z ⟨k,hk,h⟩
   have:=Wo ops.size a E
   omega
  simp only[Region.linearise.go]
  split
  ·rename_i i hi
   have l:=List.mem_of_getElem? hi
   simp only[List.mem_filter,List.mem_range,Bool.and_eq_true,Bool.not_eq_true'] at l
   obtain ⟨c,A,n⟩:=l
   have J:i∉a:=fun h=>by rw[(u i c).2 h] at A;cases A
   refine Q7v m ops O L0 Q fuel _ _ _ (by simp;omega) (by simp[C]) ?_ (List.nodup_cons.2 ⟨J,Y⟩) ?_ ?_
   ·intro j hj
    by_cases p:i=j
    ·subst p;simp[Array.getD,C,c]
    ·have:(listed.setIfInBounds i true).getD j true=listed.getD j true:=by
      simp only[Array.getD_eq_getD_getElem?]
      rw[Array.getElem?_setIfInBounds_ne p]
     rw[this,u j hj]
     simp[Ne.symm p]
   ·intro j hj
    rcases List.mem_cons.1 hj with rfl | hj
    ·exact c
    ·exact y j hj
   ·rw[List.reverse_cons]
    intro V j M hL k hk
    rcases List.eq_nil_or_concat M with rfl | ⟨r,x,rfl⟩
    ·have hh:=List.append_inj' hL rfl
     obtain ⟨h1,h2⟩:=hh
     simp only[List.cons.injEq,and_true] at h2
     subst h2;subst h1
     have W:=hk
     unfold A5 at hk
     rw[show ops.toList[i]? =some ops[i] by simp[c]] at hk
     simp only[Option.map_some,Option.getD_some,List.mem_map,List.mem_filter] at hk
     obtain ⟨e,⟨g,U⟩,rfl⟩:=hk
     rw[show ops[i]? =some ops[i] by simp[c]] at n
     simp only[Option.map_some,Option.getD_some,Array.all_eq_true'] at n
     have h4:=n e (by simpa using g)
     simp only[Bool.or_eq_true,Bool.not_eq_true'] at h4
     rcases h4 with h4 | h4
     ·rw[Q93 U] at h4;cases h4
     ·have ao:=Gz O i (by simpa using c) e.on W
      have:listed.getD e.on true=true:=by
       simp only[Array.getD_eq_getD_getElem?] at h4⊢
       rw[Array.getElem?_eq_getElem (by omega)] at h4⊢
       simpa using h4
      simpa using (u e.on (by omega)).1 this
    ·rw[List.concat_eq_append,←List.cons_append,←List.append_assoc] at hL
     have hh:=List.append_inj' hL rfl
     exact hr V j r hh.1 k hk
  ·rename_i q
   exfalso
   obtain ⟨k0,s,H⟩:=ac
   have N:=Q
   simp only[Zd,Bool.and_eq_true] at N
   -- every number of L0 that is none of an operation's has no edges: it may stand there, but isn't looked at
   have f: ∃k,k<ops.size∧k∉a∧ ∀e∈(ops.toList[k]?.map fun o=>o.after.toList).getD [],Region.binds m e=true→e.on∈a∨ops.size≤e.on:=by
    -- the first of L0 that is an operation's number and isn't listed
    have key: ∀(L b:List Nat),Q50 m ops.toList L b=true→(∀k∈b,k∈a∨ops.size≤k)→(∃k∈L,k<ops.size∧k∉a)→
     ∃k,k<ops.size∧k∉a∧ ∀e∈(ops.toList[k]?.map fun o=>o.after.toList).getD [],Region.binds m e=true→e.on∈a∨ops.size≤e.on:=by
     intro L
     induction L with
     | nil=>rintro b _ _ ⟨k,hk,_⟩;simp at hk
     | cons j L ih=>
      rintro b h hs ⟨k,hk,X,w⟩
      simp only[Q50,Bool.and_eq_true,List.all_eq_true] at h
      by_cases hj:j∈a∨ops.size≤j
      ·refine ih (j::b) h.2 (fun x hx=>by rcases List.mem_cons.1 hx with rfl | hx;exact hj;exact hs x hx) ⟨k,?_,X,w⟩
       rcases List.mem_cons.1 hk with rfl | hk
       ·rcases hj with hj | hj
        ·exact absurd hj w
        ·omega
       ·exact hk
      ·have ae:j<ops.size:=by
        refine Nat.lt_of_not_le fun h=>hj (.inr h)
       refine ⟨j,ae,fun h=>hj (.inl h),fun e O R=>?_⟩
       have:=h.1 e O
       rw[R] at this
       exact hs _ (by simpa using this)
    exact key L0 [] N.1.1 (by simp) ⟨k0,Q5O Q k0 (by simpa using s),s,H⟩
   obtain ⟨k,d,af,z⟩:=f
   by_cases D:k∈(List.range ops.size).filter fun i=> !listed.getD i true&&((ops[i]?).map (·.after.all fun e=> !Region.binds m e||listed.getD e.on false)).getD false
   ·have v:=List.length_pos_of_mem D
    have:=List.getElem?_eq_none_iff.1 q
    have:=Nat.mod_lt t v
    omega
   ·refine D ?_
    simp only[List.mem_filter,List.mem_range,Bool.and_eq_true,Bool.not_eq_true']
    refine ⟨d,?_,?_⟩
    ·cases hc:listed.getD k true with
     | false=>rfl
     | true=>exact absurd ((u k d).1 hc) af
    ·rw[show ops[k]? =some ops[k] by simp[d]]
     simp only[Option.map_some,Option.getD_some,Array.all_eq_true']
     intro e g
     simp only[Bool.or_eq_true,Bool.not_eq_true']
     cases R:Region.binds m e with
     | false=>exact .inl rfl
     | true=>
      right
      rw[show ops.toList[k]? =some ops[k] by simp[d]] at z
      rcases z e (by simpa using g) R with h | h
      ·have B:=y _ h
       have:=(u e.on B).2 h
       simp only[Array.getD_eq_getD_getElem?] at this⊢
       rw[Array.getElem?_eq_getElem (by omega)] at this⊢
       simpa using this
      ·exact absurd h (by
        have:=Q7P Q k (by simpa using d) e (by rw[show ops.toList[k]? =some ops[k] by simp[d]];simpa using g) R
        simp at this;omega)
theorem Q4L (b:Bool) (ops:Array Oper) (t:Nat) (c:Lc ops.toList=true) (f: ∀m,∃L,Zd m ops.toList L=true):
 (Region.schedule b ops t).Nodup∧(Region.schedule b ops t).length=ops.size∧Ro ops.toList (Region.schedule b ops t):=by
 have key: ∀m t,(Region.linearise m ops t).Nodup∧(Region.linearise m ops t).length=ops.size∧Ro ops.toList (Region.linearise m ops t):=by
  intro m t
  obtain ⟨L,g⟩:=f m
  refine Q7v m ops c L g _ _ _ _ (by simp) (by simp) ?_ List.nodup_nil (by simp) ?_
  ·intro i d;simp[Array.getD,d]
  ·intro e j a h;simp at h
 unfold Region.schedule
 split<;>exact key _ _
theorem Yo: ∀(ops:List Oper),Um (R8 ops)=true→ ∀(i j:Nat) (a b:Oper) (d:Nat),ops[i]? =some a→ops[j]? =some b→a.dst=some d→b.dst=some d→i=j
 | [],_,i,j,a,b,d,h,_,_,_=>by simp at h
 | o::c,g,i,j,a,b,d,n,m,p,r=>by
  have f: ∀(k:Nat) (q:Oper),c[k]? =some q→q.dst=some d→d∈R8 c:=by
   intro k q u v
   simp only[R8,List.mem_filterMap]
   exact ⟨q,List.mem_of_getElem? u,v⟩
  have l:Um (R8 c)=true:=by
   simp only[R8,List.filterMap_cons] at g
   split at g
   ·exact g
   ·simp only[Um,Bool.and_eq_true] at g;exact g.2
  have e:o.dst=some d→d∉R8 c:=by
   intro s
   simp only[R8,List.filterMap_cons,s,Um,Bool.and_eq_true,Bool.not_eq_true'] at g
   intro t
   have:=g.1
   simp only[List.contains_eq_mem,decide_eq_false_iff_not] at this
   exact this t
  cases i with
  | zero=>
   simp only[List.getElem?_cons_zero,Option.some.injEq] at n
   subst n
   cases j with
   | zero=>rfl
   | succ j=>exact absurd (f j b (by simpa using m) r) (e p)
  | succ i=>
   cases j with
   | zero=>
    simp only[List.getElem?_cons_zero,Option.some.injEq] at m
    subst m
    exact absurd (f i a (by simpa using n) p) (e r)
   | succ j=>rw[Yo c l i j a b d (by simpa using n) (by simpa using m) p r]
theorem Iw (u:Nat→Value): ∀(S:List Ent) (s:Nat),get (A8 u S) s=(getE S s).at u
 | [],s=>by simp[A8,get,getE,Ent.at]
 | e::S,0=>rfl
 | e::S,s+1=>Iw u S s
theorem Fg: ∀(S:List Ent) (s:Nat),getE S s=(S[s]?).getD (.val undef)
 | [],s=>by simp[getE]
 | e::S,0=>rfl
 | e::S,s+1=>by simp only[getE,List.getElem?_cons_succ];exact Fg S s
theorem Q1z: ∀(S:List Ent) (n:Nat) (e:Ent),Q2x S n e=S.set n e
 | [],n,e=>by simp[Q2x]
 | x::S,0,e=>rfl
 | x::S,n+1,e=>by simp only[Q2x,List.set_cons_succ,Q1z S n e]
theorem Q4m {x:Nat}: ∀{l:List Nat},x∈l→x∈Q1G l
 | y::l,h=>by
  simp only[Q1G,List.mem_cons,List.mem_filter]
  by_cases e:x=y
  ·exact .inl e
  ·exact .inr ⟨Q4m ((List.mem_cons.1 h).resolve_left e),by simpa using e⟩
theorem Cu {x:Nat}: ∀{l:List Nat},x∈Q1G l→x∈l
 | y::l,h=>by
  simp only[Q1G,List.mem_cons,List.mem_filter] at h⊢
  exact h.imp id fun h=>Cu h.1
theorem Q4x {S:List Ent} {j:Nat}: ∀{l:List Nat} {s:Nat},s∈l→getE S s= .ref j→j∈Q1y S l
 | x::l,s,h,e=>by
  simp only[Q1y,List.mem_append]
  rcases List.mem_cons.1 h with rfl | h
  ·left;rw[e];simp[Q4W]
  ·right;exact Q4x h e
theorem Bd {S:List Ent} {j:Nat}: ∀{l:List Nat},j∈Q1y S l→ ∃s∈l,getE S s= .ref j
 | x::l,h=>by
  simp only[Q1y,List.mem_append] at h
  rcases h with h | h
  ·refine ⟨x,by simp,?_⟩
   cases a:getE S x with
   | val v=>rw[a] at h;simp[Q4W] at h
   | ref k=>rw[a] at h;simp[Q4W] at h;rw[h]
  ·obtain ⟨s,b,e⟩:=Bd h
   exact ⟨s,by simp[b],e⟩
theorem Q2F: ∀(a:List Nat) (c u:Nat→Value) (k:(Nat→Value)→Prop),Ps a c k→ ∃b,k b∧ ∀x,(x∈a→b x=u x)∧(x∉a→b x=c x)
 | [],c,u,k,h=>⟨c,h,fun x=>⟨fun h=>by simp at h,fun _=>rfl⟩⟩
 | j::a,c,u,k,h=>by
  obtain ⟨b,g,f⟩:=Q2F a _ u k (h (u j))
  refine ⟨b,g,fun x=>⟨fun hx=>?_,fun hx=>?_⟩⟩
  ·by_cases d:x∈a
   ·exact (f x).1 d
   ·rw[(f x).2 d]
    rcases List.mem_cons.1 hx with rfl | hx
    ·simp
    ·exact absurd hx d
  ·rw[(f x).2 (fun h=>hx (List.mem_cons_of_mem _ h))]
   have:x≠j:=fun e=>hx (by simp[e])
   simp[this]
theorem Q2t {e:Sc} {u:Nat→Value} {w:World} {a:Prop}: ∀{d:List Nat},Im e u w a d→(∀j∈d,∀φ,Uz e j=some ([],φ)→φ [] (u j) w)→a
 | [],h,_=>h
 | j::d,h,c=>by
  simp only[Im] at h
  split at h
  ·rename_i φ f
   exact Q2t (h (c j (by simp) φ f)) fun k b=>c k (by simp[b])
  ·exact Q2t h fun k b=>c k (by simp[b])
theorem Q0x {e:Sc} {u:Nat→Value} {w:World} {a:Prop}: ∀{d:List Nat},Q1H e u w a d→(∀j∈d,∀R φ,Uz e j=some (R,φ)→φ (R.map u) (u j) w)→a
 | [],h,_=>h
 | j::d,h,c=>by
  simp only[Q1H] at h
  split at h
  ·rename_i R φ f
   exact Q0x (h (c j (by simp) R φ f)) fun k b=>c k (by simp[b])
  ·exact Q0x h fun k b=>c k (by simp[b])
theorem Ir {a:Sc} {i j:Nat} {φ:List Nat×(List Value→Value→World→Prop)} (h:i≠j):Uz (a++[(i,φ)]) j=Uz a j:=by
 induction a with
 | nil=>simp[Uz,h]
 | cons p a b=>obtain ⟨k,ψ⟩:=p;simp only[List.cons_append,Uz,b]
theorem Mv {a:Sc} {i:Nat} {φ:List Nat×(List Value→Value→World→Prop)} (h:Uz a i=none):Uz (a++[(i,φ)]) i=some φ:=by
 induction a with
 | nil=>simp[Uz]
 | cons p a b=>
  obtain ⟨k,ψ⟩:=p
  simp only[Uz] at h
  split at h
  ·cases h
  ·rename_i c;simp only[List.cons_append,Uz,c,if_false];exact b h
def Sj (S:List Ent) (i:Nat) (o:Oper):Ent:=match mv o with | some x=>entOf S x | none=> .ref i
def O5 (S:List Ent):Nat→List Oper→List Ent
 | _,[]=>S
 | i,o::a=>O5 (putE S o.dst (Sj S i o)) (i+1) a
theorem Q43: ∀(a:List Oper) (S:List Ent) (i k:Nat) (o:Oper),a[k]? =some o→
 O5 S i (a.take (k+1))=putE (O5 S i (a.take k)) o.dst (Sj (O5 S i (a.take k)) (i+k) o)
 | [],_,_,_,_,h=>by simp at h
 | x::a,S,i,0,o,h=>by
  simp only[List.getElem?_cons_zero,Option.some.injEq] at h
  subst h
  simp[O5]
 | x::a,S,i,k+1,o,h=>by
  simp only[List.getElem?_cons_succ] at h
  have:=Q43 a (putE S x.dst (Sj S i x)) (i+1) k o h
  simp only[List.take_succ_cons,O5]
  rw[this,show i+1+k=i+(k+1) from by omega]
def Zc (S:List Ent) (D:List Nat):Prop:= ∀e∈S,∀j,e= .ref j→j∈D
theorem Zc.getE {S:List Ent} {D:List Nat} (h:Zc S D) {s j:Nat} (e:Go.Emb.getE S s= .ref j):j∈D:=by
 rw[Fg] at e
 cases a:S[s]? with
 | none=>rw[a] at e;cases e
 | some x=>rw[a] at e;exact h x (List.mem_of_getElem? a) j e
theorem Zc.putE {S:List Ent} {D:List Nat} (h:Zc S D) (d:Option Nat) {e:Ent} (c: ∀j,e= .ref j→j∈D):Zc (Go.Emb.putE S d e) D:=by
 cases d with
 | none=>exact h
 | some d=>
  intro x a j b
  simp only[Go.Emb.putE,Q1z] at a
  rcases List.mem_or_eq_of_mem_set a with a | rfl
  ·exact h x a j b
  ·exact c j b
theorem Zc.mono {S:List Ent} {D D':List Nat} (h:Zc S D) (c: ∀j∈D,j∈D'):Zc S D':=fun e a j b=>c j (h e a j b)
theorem Zc.entOf {S:List Ent} {D:List Nat} (h:Zc S D) (x:Operand) {j:Nat} (e:Go.Emb.entOf S x= .ref j):j∈D:=by
 cases x with
 | tmp t=>exact h.getE e
 | _=>cases e
theorem Q8z {S:List Ent} {D:List Nat} (h:Zc S D) {u a:Nat→Value} (c: ∀j∈D,a j=u j):A8 a S=A8 u S:=by
 unfold A8
 refine List.map_congr_left fun e b=>?_
 cases e with
 | val v=>rfl
 | ref j=>exact c j (h _ b j rfl)
theorem Q2b {P:Program} {ops:List Oper} {l l':List Value} {o:Oper} (e:Xs o.op=true) (h: ∀s∈H9 ops o++B3 o,get l s=get l' s):runOp P ops l o=runOp P ops l' o:=by
 funext w K
 unfold runOp
 rw[Du e fun x c=>by
  cases x with
  | tmp s=>exact h s (List.mem_append_right _ (by simp only[B3,List.mem_filterMap];exact ⟨.tmp s,by simpa using c,rfl⟩))
  | _=>rfl]
 cases a:o.guard with
 | none=>rfl
 | some q=>
  obtain ⟨j,b⟩:=q
  simp only
  cases f:(ops[j]?).bind (·.dst) with
  | none=>rfl
  | some d=>simp only;rw[h d (List.mem_append_left _ (by simp[H9,a,f]))]
theorem Q2Q {P:Program} {ops:List Oper} {l:List Value} {o:Oper} {w:World} {K d:Value→World→Prop} (a: ∀v w,K v w→d v w) (h:runOp P ops l o w K):runOp P ops l o w d:=by
 unfold runOp at*
 split at h
 ·exact K1 a h
 ·split at h
  ·exact Q0V ((Ls h).imp (fun ⟨c,b⟩=>⟨c,K1 a b⟩) (fun ⟨c,b⟩=>⟨c,a _ _ b⟩))
  ·exact h.elim
theorem Q2P {P:Program} {ops:List Oper} {W3:List Value→World→Prop} {o:Oper} {a:List Oper} {l:List Value} {w:World}
 (h:runOp P ops l o w (fun v w=>Z5 P ops W3 a (put l o.dst v) w)):Z5 P ops W3 (o::a) l w:=by
 simp only[Z5]
 unfold runOp at h
 cases c:o.guard with
 | none=>simp only[c] at h⊢;exact h
 | some q=>
  obtain ⟨j,b⟩:=q
  simp only[c] at h⊢
  split at h
  ·rename_i d e
   first | exact h | (simp only[e];exact h) | (rw[e];exact h)
  ·exact h.elim
structure Whole (P : Program) (ops : List Oper) (T : World → World → Prop) (B : World → Prop) (W3 : List Value → World → Prop) (tail : List Oper) (Φ : Nat → (Nat → Value) → World → Prop) (S : List Ent) (i : Nat) (rest : List Oper) (D : List Nat) : Prop where
  stable : ∀ k o, rest[k]? = some o → mv o = none → ∀ u w w', Φ (i + k) u w → T w w' → Φ (i + k) u w'
  loc : ∀ k o, rest[k]? = some o → mv o = none → ∀ u u', (∀ r ∈ (i + k) :: refs ops (O5 S i (rest.take k)) o, u r = u' r) → Φ (i + k) u = Φ (i + k) u'
  run : ∀ k o, rest[k]? = some o → mv o = none → Xs o.op = true → ∀ u w, B w → (∀ j ∈ refs ops (O5 S i (rest.take k)) o, Φ j u w) →
    runOp P ops (A8 u (O5 S i (rest.take k))) o w (fun v w' => T w w' ∧ ∀ u', (∀ r ∈ refs ops (O5 S i (rest.take k)) o, u' r = u r) → u' (i + k) = v → Φ (i + k) u' w')
  last : ∀ u w, B w → (∀ j ∈ D, Φ j u w) → (∀ k o, rest[k]? = some o → mv o = none → Φ (i + k) u w) → Z5 P ops W3 tail (A8 u (O5 S i rest)) w
theorem Q0H (P:Program) (ops:List Oper) (T:World→World→Prop) (B:World→Prop) (W3:List Value→World→Prop) (tail:List Oper): ∀(f:List Oper) (i:Nat) (S:List Ent) (m:Sc) (done:List Nat),
 Zc S done→(∀j,j∈done→j<i∧ ∃φ,Uz m j=some φ)→(∀j φ,Uz m j=some φ→j<i∧ ∀r∈φ.1,r∈done)→chain P ops T B W3 tail i f S m done→
 ∃Φ:Nat→(Nat→Value)→World→Prop,(∀j R φ,Uz m j=some (R,φ)→Φ j=fun u w=>φ (R.map u) (u j) w)∧Whole P ops T B W3 tail Φ S i f done
 | [],i,S,m,done,J,Q,E,h=>by
  refine ⟨fun j u w=>match Uz m j with | some (R,φ)=>φ (R.map u) (u j) w | none=>True,fun j R φ hj=>by simp[hj],⟨by simp,by simp,by simp,?_⟩⟩
  intro u w hB H _
  obtain ⟨q,t,g⟩:=Q2F done _ u _ h
  have p:=Q0x (t w hB) fun j hj R φ M=>by
   have:=H j hj
   simp only[M] at this
   rw[(g j).1 hj,show R.map q=R.map u from List.map_congr_left fun r d=>(g r).1 ((E j _ M).2 r d)];exact this
  rw[Q8z J fun j hj=>(g j).1 hj,Ii] at p
  exact p
 | o::f,i,S,m,done,J,Q,E,h=>by
  simp only[chain] at h
  cases y:mv o with
  | some x=>
   simp only[y] at h
   have c:Sj S i o=entOf S x:=by simp[Sj,y]
   obtain ⟨Φ,t,g⟩:=Q0H P ops T B W3 tail f (i+1) _ m done (J.putE _ fun j hj=>J.entOf x hj) (fun j hj=>⟨by have:=(Q j hj).1;omega,(Q j hj).2⟩) (fun j φ hj=>⟨by have:=(E j φ hj).1;omega,(E j φ hj).2⟩) h
   refine ⟨Φ,t,⟨?_,?_,?_,?_⟩⟩
   ·intro k l b a
    cases k with
    | zero=>simp only[List.getElem?_cons_zero,Option.some.injEq] at b;subst b;rw[y] at a;cases a
    | succ k=>have:=g.stable k l (by simpa using b) a;rwa [show i+1+k=i+(k+1) from by omega] at this
   ·intro k l b a u q L
    cases k with
    | zero=>simp only[List.getElem?_cons_zero,Option.some.injEq] at b;subst b;rw[y] at a;cases a
    | succ k=>
     simp only[List.take_succ_cons,O5,c] at L
     have:=g.loc k l (by simpa using b) a u q (by rwa [show i+1+k=i+(k+1) from by omega])
     rwa [show i+1+k=i+(k+1) from by omega] at this
   ·intro k l b a z u w hB d
    cases k with
    | zero=>simp only[List.getElem?_cons_zero,Option.some.injEq] at b;subst b;rw[y] at a;cases a
    | succ k=>
     simp only[List.take_succ_cons,O5,c] at d⊢
     have:=g.run k l (by simpa using b) a z u w hB d
     rwa [show i+1+k=i+(k+1) from by omega] at this
   ·intro u w hB H V
    simp only[O5,c]
    refine g.last u w hB H fun k l b a=>?_
    have:=V (k+1) l (by simpa using b) a
    rwa [show i+(k+1)=i+1+k from by omega] at this
  | none=>
   have h': ∃(R:List Nat) (φ:List Value→Value→World→Prop),(∀r∈R,r∈refs ops S o)∧(∀xs,Ss T (φ xs))∧
    (Ps (refs ops S o) (fun _=>undef) fun u=> ∀w,B w→Im m u w (runOp P ops (A8 u S) o w (dk T (φ (R.map u)) w)) (refs ops S o))∧
    chain P ops T B W3 tail (i+1) f (putE S o.dst (.ref i)) (m++[(i,R,φ)]) (done++[i]):=by
    cases O:Q8c o with
    | true=>
     simp only[y,O,Q7B,Q3V] at h
     obtain ⟨φ,t,g,p⟩:=h
     exact ⟨_,φ,fun _ h=>h,t,g,p⟩
    | false=>
     simp only[y,O,Q8X,Q5R] at h
     obtain ⟨φ,t,g,p⟩:=h
     exact ⟨[],fun _=>φ,by simp,fun _=>t,g,p⟩
   clear h
   obtain ⟨R,φ,U,Y,N,h⟩:=h'
   have aa: ∀r∈refs ops S o,r∈done:=fun r d=>by
    obtain ⟨s,_,W⟩:=Bd (Cu d)
    exact J.entOf (.tmp s) W
   have c:Sj S i o= .ref i:=by simp[Sj,y]
   have n:Uz m i=none:=by
    cases H:Uz m i with
    | none=>rfl
    | some ψ=>have:=(E i ψ H).1;omega
   obtain ⟨Φ,t,g⟩:=Q0H P ops T B W3 tail f (i+1) _ (m++[(i,R,φ)]) (done++[i])
    ((J.mono fun j hj=>List.mem_append_left _ hj).putE _ fun j hj=>by cases hj;simp)
    (fun j hj=>by
     rcases List.mem_append.1 hj with hj | hj
     ·obtain ⟨p,ψ,D⟩:=Q j hj
      exact ⟨by omega,ψ,by rw[Ir (by omega)];exact D⟩
     ·simp at hj;subst hj;exact ⟨by omega,(R,φ),Mv n⟩)
    (fun j ψ hj=>by
     by_cases e:i=j
     ·subst e
      rw[Mv n] at hj;cases hj
      exact ⟨by omega,fun r d=>List.mem_append_left _ (aa r (U r d))⟩
     ·rw[Ir e] at hj
      obtain ⟨p,D⟩:=E j ψ hj
      exact ⟨by omega,fun r d=>List.mem_append_left _ (D r d)⟩) h
   have C:Φ i=fun u w=>φ (R.map u) (u i) w:=t i R φ (Mv n)
   have A: ∀j R' ψ,Uz m j=some (R',ψ)→Φ j=fun u w=>ψ (R'.map u) (u j) w:=fun j R' ψ hj=>t j R' ψ (by rw[Ir (by have:=(E j _ hj).1;omega)];exact hj)
   refine ⟨Φ,A,⟨?_,?_,?_,?_⟩⟩
   ·intro k l b a
    cases k with
    | zero=>
     intro u w w' ha X
     rw[Nat.add_zero,C] at ha⊢
     exact Y _ _ _ _ ha X
    | succ k=>have:=g.stable k l (by simpa using b) a;rwa [show i+1+k=i+(k+1) from by omega] at this
   ·intro k l b a u q L
    cases k with
    | zero=>
     simp only[List.getElem?_cons_zero,Option.some.injEq] at b
     subst b
     simp only[List.take_zero,O5,Nat.add_zero] at L
     rw[Nat.add_zero,C]
     funext w
     show φ (R.map u) (u i) w=φ (R.map q) (q i) w
     rw[show R.map u=R.map q from List.map_congr_left fun r d=>L r (List.mem_cons_of_mem _ (U r d)),L i (by simp)]
    | succ k=>
     simp only[List.take_succ_cons,O5,c] at L
     have:=g.loc k l (by simpa using b) a u q (by rwa [show i+1+k=i+(k+1) from by omega])
     rwa [show i+1+k=i+(k+1) from by omega] at this
   ·intro k l b a z u w hB d
    cases k with
    | zero=>
     simp only[List.getElem?_cons_zero,Option.some.injEq] at b
     subst b
     simp only[List.take_zero,O5,Nat.add_zero] at d⊢
     obtain ⟨q,p,D⟩:=Q2F _ _ u _ N
     have h5:=Q2t (p w hB) fun j hj ψ hψ=>by
      have h6:=d j hj
      rw[A j [] ψ hψ] at h6
      rw[(D j).1 hj];exact h6
     rw[Q2b z (l':=A8 u S)] at h5
     ·refine Q2Q ?_ h5
      rintro v w' ⟨X,hf⟩
      refine ⟨X,fun Z ab hi=>?_⟩
      rw[C]
      show φ (R.map Z) (Z i) w'
      rw[hi,show R.map Z=R.map q from List.map_congr_left fun r d=>by rw[ab r (U r d),(D r).1 (U r d)]]
      exact hf
     ·intro s O
      rw[Iw,Iw]
      cases W:getE S s with
      | val v=>rfl
      | ref j=>exact (D j).1 (Q4m (Q4x O W))
    | succ k=>
     simp only[List.take_succ_cons,O5,c] at d⊢
     have:=g.run k l (by simpa using b) a z u w hB d
     rwa [show i+1+k=i+(k+1) from by omega] at this
   ·intro u w hB H V
    simp only[O5,c]
    refine g.last u w hB (fun j hj=>?_) fun k l b a=>?_
    ·rcases List.mem_append.1 hj with hj | hj
     ·exact H j hj
     ·simp at hj;subst hj
      have:=V 0 o (by simp) y
      simpa using this
    ·have:=V (k+1) l (by simpa using b) a
     rwa [show i+(k+1)=i+1+k from by omega] at this
def Qg (os:List Oper) (S0:List Ent) (q:Nat):Ent:=
 match os[q]? with
 | some o=>Sj (O5 S0 0 (os.take q)) q o
 | none=> .val undef
theorem Q7s {os:List Oper} {S0:List Ent} {q:Nat} {o:Oper} (h:os[q]? =some o):O5 S0 0 (os.take (q+1))=putE (O5 S0 0 (os.take q)) o.dst (Qg os S0 q):=by
 rw[Q43 os S0 0 q o h]
 simp[Qg,h]
theorem Q6G (S:List Ent) (d:Option Nat) (e:Ent):(putE S d e).length=S.length:=by
 cases d with
 | none=>rfl
 | some d=>simp[putE,Q1z]
theorem Kl (os:List Oper) (S0:List Ent): ∀q,q≤os.length→(O5 S0 0 (os.take q)).length=S0.length
 | 0,_=>by simp[O5]
 | q+1,h=>by rw[Q7s (List.getElem?_eq_getElem (by omega)),Q6G,Kl os S0 q (by omega)]
theorem Se {os:List Oper} {S0:List Ent} (t:Um (R8 os)=true) (n: ∀d∈R8 os,d<S0.length): ∀q,q≤os.length→
 (∀p,p<q→ ∀o d,os[p]? =some o→o.dst=some d→(O5 S0 0 (os.take q))[d]? =some (Qg os S0 p))∧
  (∀s,(∀p,p<q→ ∀o,os[p]? =some o→o.dst≠some s)→(O5 S0 0 (os.take q))[s]? =S0[s]?)
 | 0,_=>⟨fun p k=>absurd k (by omega),fun s _=>by simp[O5]⟩
 | q+1,h=>by
  obtain ⟨r,u⟩:=Se t n q (by omega)
  have g:os[q]? =some os[q]:=List.getElem?_eq_getElem (by omega)
  have j:=Kl os S0 q (by omega)
  rw[Q7s g]
  cases b:os[q].dst with
  | none=>
   refine ⟨fun p k o d a c=>?_,fun s l=>u s fun p k=>l p (by omega)⟩
   by_cases e:p=q
   ·subst e;rw[g] at a;cases a;rw[b] at c;cases c
   ·exact r p (by omega) o d a c
  | some i=>
   have m:i<S0.length:=n i (by simp only[R8,List.mem_filterMap];exact ⟨os[q],List.getElem_mem _,b⟩)
   simp only[putE,Q1z]
   refine ⟨fun p k o d a c=>?_,fun s l=>?_⟩
   ·by_cases e:p=q
    ·subst e;rw[g] at a;cases a;rw[b] at c;cases c
     rw[List.getElem?_set_self (by rw[j];exact m)]
    ·have f:i≠d:=by
      rintro rfl
      exact e (Yo os t p q o os[q] i a g c b)
     rw[List.getElem?_set_ne f]
     exact r p (by omega) o d a c
   ·have f:i≠s:=fun e=>l q (by omega) os[q] g (by rw[b,e])
    rw[List.getElem?_set_ne f]
    exact u s fun p k=>l p (by omega)
def Na (os:List Oper) (p:Nat):Bool:=
 match os[p]? with
 | some o=>match mv o with
  | some (.tmp s)=> !(R8 os).contains s
  | some _=>true
  | none=>false
 | none=>false
theorem X2A {P:Program} {o:Oper} {x:Operand} (h:mv o=some x) (l:List Value) (w:World) (K:Value→World→Prop):o.guard=none∧W8 P l o w K=K (ev l x) w:=by
 unfold mv at h
 split at h
 ·cases h
 ·rename_i b
  refine ⟨b,?_⟩
  split at h
  ·rename_i y a;cases h;simp only[W8,a]
  ·rename_i y a;cases h;simp only[W8,a]
  ·cases h
theorem Q6t {P:Program} {ops:List Oper} {W3:List Value→World→Prop} {o:Oper} {c a:List Oper} {l l':List Value} {w:World} (r:Xs o.op=true) (n: ∀s∈H9 ops o++B3 o,get l' s=get l s)
 (f: ∀v w,Z5 P ops W3 c (put l o.dst v) w→Z5 P ops W3 a (put l' o.dst v) w) (h:Z5 P ops W3 (o::c) l w):Z5 P ops W3 (o::a) l' w:=by
 have m:W8 P l' o=W8 P l o:=Du r fun x p=>by
  cases x with
  | tmp s=>exact n s (List.mem_append_right _ (by simp only[B3,List.mem_filterMap];exact ⟨.tmp s,by simpa using p,rfl⟩))
  | _=>rfl
 simp only[Z5] at h⊢
 cases e:o.guard with
 | none=>simp only[e] at h⊢;rw[m];exact K1 f h
 | some q=>
  obtain ⟨j,b⟩:=q
  simp only[e] at h⊢
  cases g:(ops[j]?).bind (·.dst) with
  | none=>simp only[g] at h⊢;exact f _ _ h
  | some d=>
   simp only[g] at h⊢
   rw[n d (List.mem_append_left _ (by simp[H9,e,g])),m]
   exact Q0V ((Ls h).imp (fun ⟨i,k⟩=>⟨i,K1 f k⟩) (fun ⟨i,k⟩=>⟨i,f _ _ k⟩))
structure At (os : List Oper) (l0 : List Value) (pre : List Nat) (l : List Value) (u : Nat → Value) : Prop where
  len : l.length = l0.length
  done : ∀ p ∈ pre, ∀ o d, os[p]? = some o → o.dst = some d → l[d]? = some ((Qg os (l0.map .val) p).at u)
  rest : ∀ s, (∀ p ∈ pre, ∀ o, os[p]? = some o → o.dst ≠ some s) → l[s]? = l0[s]?
  refs : ∀ p ∈ pre, ∀ r, Qg os (l0.map .val) p = .ref r → r ∈ pre ∧ ∃ o, os[r]? = some o ∧ mv o = none
theorem X40 {P:Program} {ops os:List Oper} {T:World→World→Prop} {B:World→Prop} {W3:List Value→World→Prop} {m:Nat} {C:List Value} {Φ:Nat→(Nat→Value)→World→Prop}
 (an:Nat→Nat→Bool) (br: ∀o∈os,Xs o.op=true) (hn:Um (R8 os)=true) (hd: ∀d∈R8 os,d<C.length)
 (af: ∀p q a b,p<q→os[p]? =some a→os[q]? =some b→(Qo a b||Qo b a)=true→an p q=true)
 (hg: ∀q o j b,os[q]? =some o→o.guard=some (j,b)→ ∃p,p<q∧os[p]? =ops[j]? ∧an p q=true)
 (hm:m≤os.length) (ak: ∀q,m≤q→q<os.length→ ∀p,p<q→an p q=true∨(p<m∧Na os p=true))
 (hT: ∀w w',B w→T w w'→B w') (hW:Whole P ops T B W3 (os.drop m) Φ (C.map .val) 0 (os.take m) [])
 (L:List Nat) (H:L.Nodup) (bn:L.length=os.length) (ac: ∀q∈L,q<os.length)
 (hC: ∀c q f,L=c++q::f→ ∀p,an p q=true→p<os.length→p∈c):
 ∀(f c:List Nat),L=c++f→(∀q∈c,q<m)→ ∀(l:List Value) (u:Nat→Value) (w:World),At os C c l u→B w→
  (∀r∈c,∀o,os[r]? =some o→mv o=none→Φ r u w∧ ∀j∈refs ops (O5 (C.map .val) 0 (os.take r)) o,j∈c)→Z5 P ops W3 (f.filterMap (os[·]?)) l w:=by
 have ba: ∀d∈R8 os,d<(C.map Ent.val).length:=by simpa using hd
 have a3: ∀q,q≤m→(os.take m).take q=os.take q:=fun q hq=>by rw[List.take_take,Nat.min_eq_left hq]
 have X: ∀q,q<m→(os.take m)[q]? =os[q]? :=fun q hq=>by rw[List.getElem?_take_of_lt hq]
 -- when all of the first part is done
 have co: ∀(c f:List Nat),L=c++f→(∀q∈c,q<m)→(∀q,q<m→q∈c)→ ∀l u w,At os C c l u→B w→
  (∀r∈c,∀o,os[r]? =some o→mv o=none→Φ r u w∧ ∀j∈refs ops (O5 (C.map .val) 0 (os.take r)) o,j∈c)→Z5 P ops W3 (f.filterMap (os[·]?)) l w:=by
  intro c f E D ao l u w hA hB hΦ
  have b1: ∀(f c:List Nat),L=c++f→m≤c.length→(∀q,q∈c↔q<c.length)→f.filterMap (os[·]?)=os.drop c.length:=by
   intro f
   induction f with
   | nil=>
    intro c E _ _
    rw[List.append_nil] at E
    rw[←E,bn];simp
   | cons q f ih=>
    intro c E c9 a4
    have cu:q∉c:=by
     rw[E] at H
     intro h
     exact (List.nodup_append.1 H).2.2 q h q (by simp) rfl
    have cw:c.length≤q:=Nat.le_of_not_lt fun h=>cu ((a4 q).2 h)
    have U:=ac q (by rw[E];simp)
    have ct:q=c.length:=by
     refine Nat.le_antisymm (Nat.le_of_not_lt fun h=>?_) cw
     have:=hC c q f E c.length ((ak q (by omega) U _ h).resolve_right (by omega)) (by omega)
     have:=(a4 _).1 this
     omega
    subst ct
    rw[List.filterMap_cons,List.getElem?_eq_getElem U]
    simp only
    rw[ih (c++[c.length]) (by rw[E];simp) (by simp;omega) (by intro x;simp only[List.mem_append,a4,List.mem_singleton,List.length_append,List.length_cons,List.length_nil];omega)]
    simp only[List.length_append,List.length_cons,List.length_nil]
    rw[←List.drop_eq_getElem_cons U]
  have bh:c.length=m:=by
   have J:=G0 m c (by rw[E] at H;exact (List.nodup_append.1 H).1) D
   have R:=Wo m c ao
   omega
  have J:=b1 f c E (by omega) (fun q=>by rw[bh];exact ⟨D q,ao q⟩)
  rw[J,bh]
  have R:=hW.last u w hB (by simp) fun k o hk t=>by
   have a5:k<m:=by
    have:=(List.getElem?_eq_some_iff.1 hk).1
    simp at this;omega
   rw[Nat.zero_add]
   rw[X k a5] at hk
   exact (hΦ k (ao k a5) o hk t).1
  have h3:l=A8 u (O5 (C.map .val) 0 (os.take m)):=by
   obtain ⟨g1,g2⟩:=Se hn ba m hm
   apply List.ext_getElem?
   intro s
   rw[A8,List.getElem?_map]
   by_cases hs: ∃p,p<m∧ ∃o,os[p]? =some o∧o.dst=some s
   ·obtain ⟨p,hp,o,i,z⟩:=hs
    rw[hA.done p (ao p hp) o s i z,g1 p hp o s i z];rfl
   ·have ad: ∀p,p<m→ ∀o,os[p]? =some o→o.dst≠some s:=fun p hp o i z=>hs ⟨p,hp,o,i,z⟩
    rw[hA.rest s (fun p hp=>ad p (D p hp)),g2 s ad,List.getElem?_map]
    cases C[s]? <;>rfl
  rw[h3];exact R
 -- moves that come late, among the tail
 have b6: ∀(f c:List Nat) (k:Nat),L=c++f→m≤k→k≤os.length→(∀q,m≤q→(q∈c↔q<k))→(∀p∈f,p<m→Na os p=true)→
  ∀(l lf:List Value) (w:World),l.length=C.length→lf.length=C.length→(∀s,(∀p∈f,p<m→ ∀o,os[p]? =some o→o.dst≠some s)→l[s]? =lf[s]?)→
   (∀p∈f,p<m→ ∀o d x,os[p]? =some o→mv o=some x→o.dst=some d→lf[d]? =some (ev C x))→(∀s,(R8 os).contains s=false→l[s]? =C[s]?)→
   Z5 P ops W3 (os.drop k) lf w→Z5 P ops W3 (f.filterMap (os[·]?)) l w:=by
  intro f
  induction f with
  | nil=>
   intro c k E a7 bk ab _ l lf w hl bc ar _ _ h
   rw[List.append_nil] at E
   have hk:k=os.length:=by
    refine Nat.le_antisymm bk (Nat.le_of_not_lt fun D=>?_)
    have cp:k∉c:=fun e=>by have:=(ab k a7).1 e;omega
    have J:=G0 os.length (k::c) (List.nodup_cons.2 ⟨cp,E▸H⟩) (fun x hx=>by
     rcases List.mem_cons.1 hx with rfl | hx
     ·exact D
     ·exact ac x (by rw[E];exact hx))
    simp at J
    rw[E] at bn;omega
   have:l=lf:=List.ext_getElem? fun s=>ar s (by simp)
   rw[this]
   rw[hk,List.drop_length] at h
   exact h
  | cons q f ih=>
   intro c k E a7 bk ab al l lf w hl bc ar a2 aa h
   have O:q∉c:=by
    rw[E] at H
    intro h
    exact (List.nodup_append.1 H).2.2 q h q (by simp) rfl
   have cm:q∉f:=by
    rw[E] at H
    exact (List.nodup_cons.1 (List.nodup_append.1 H).2.1).1
   have U:=ac q (by rw[E];simp)
   have A:os[q]? =some os[q]:=List.getElem?_eq_getElem U
   have b3:L=(c++[q])++f:=by rw[E];simp
   rw[List.filterMap_cons,A]
   simp only
   by_cases Z:q<m
   ·-- a late move
    have D:=al q (by simp) Z
    unfold Na at D
    rw[A] at D
    simp only at D
    cases t:mv os[q] with
    | none=>rw[t] at D;cases D
    | some x=>
     rw[t] at D
     have hx:ev l x=ev C x:=by
      cases x with
      | tmp s=>
       simp only[Bool.not_eq_true'] at D
       simp only[ev,get,List.getD_eq_getElem?_getD,aa s D]
      | _=>rfl
     obtain ⟨a8,ax⟩:=X2A (P:=P) t l w (fun v w=>Z5 P ops W3 (f.filterMap (os[·]?)) (put l os[q].dst v) w)
     simp only[Z5,a8]
     rw[ax,hx]
     refine ih (c++[q]) k b3 a7 bk (fun q' a1=>?_) (fun p hp=>al p (by simp[hp])) _ lf w ?_ bc (fun s hs=>?_) (fun p hp=>a2 p (by simp[hp])) (fun s hs=>?_) h
     ·rw[←ab q' a1];simp only[List.mem_append,List.mem_singleton]
      exact ⟨fun e=>e.resolve_right (by omega), .inl⟩
     ·cases g:os[q].dst<;>simp[put,hl]
     ·cases g:os[q].dst with
      | none=>
       refine ar s fun p hp M o i=>?_
       rcases List.mem_cons.1 hp with rfl | hp
       ·rw[A] at i;cases i;rw[g];simp
       ·exact hs p hp M o i
      | some d=>
       have aq:d<C.length:=hd d (by simp only[R8,List.mem_filterMap];exact ⟨os[q],List.getElem_mem _,g⟩)
       simp only[put]
       by_cases e:d=s
       ·subst e
        rw[List.getElem?_set_self (by rw[hl];exact aq)]
        exact (a2 q (by simp) Z os[q] d x A t g).symm
       ·rw[List.getElem?_set_ne e]
        refine ar s fun p hp M o i=>?_
        rcases List.mem_cons.1 hp with rfl | hp
        ·rw[A] at i;cases i;rw[g];simpa using e
        ·exact hs p hp M o i
     ·cases g:os[q].dst with
      | none=>exact aa s hs
      | some d=>
       have aj:(R8 os).contains d=true:=by
        rw[List.contains_iff_mem];simp only[R8,List.mem_filterMap];exact ⟨os[q],List.getElem_mem _,g⟩
       simp only[put]
       rw[List.getElem?_set_ne (by rintro rfl;rw[hs] at aj;cases aj)]
       exact aa s hs
   ·have Z:m≤q:=by omega
    have cr:q=k:=by
     have J:k≤q:=Nat.le_of_not_lt fun e=>O ((ab q Z).2 e)
     refine Nat.le_antisymm (Nat.le_of_not_lt fun e=>?_) J
     have:=hC c q f E k ((ak q Z U k e).resolve_right (by omega)) (by omega)
     have:=(ab k a7).1 this
     omega
    subst cr
    rw[List.drop_eq_getElem_cons U] at h
    have b5: ∀p∈f,p<m→an p q=true→False:=fun p hp M hb=>by
     have:=hC c q f E p hb (by omega)
     rw[E] at H
     exact (List.nodup_append.1 H).2.2 p this p (by simp[hp]) rfl
    refine Q6t (br _ (List.getElem_mem _)) (fun s hs=>?_) (fun v w' hv=>?_) h
    ·have:l[s]? =lf[s]? :=ar s fun p hp M o i z=>by
      rcases List.mem_cons.1 hp with rfl | hp
      ·omega
      refine b5 p hp M ?_
      rcases List.mem_append.1 hs with hs | hs
      ·unfold H9 at hs
       split at hs
       ·simp at hs
       ·rename_i j b bw
        split at hs
        ·rename_i d bv
         simp only[List.mem_singleton] at hs
         subst hs
         obtain ⟨p',ap,bp,hb⟩:=hg q os[q] j b A bw
         obtain ⟨o',bo,b8⟩:=Option.bind_eq_some_iff.1 bv
         have:=Yo os hn p' p o' o s (by rw[bp,bo]) i b8 z
         subst this;exact hb
        ·simp at hs
      ·exact af p q o os[q] (by omega) i A (by simp only[Qo,z,Bool.or_eq_true];left;left;simpa using hs)
     simp only[get,List.getD_eq_getElem?_getD,this]
    ·refine ih (c++[q]) (q+1) b3 (by omega) (by omega) (fun q' a1=>?_) (fun p hp=>al p (by simp[hp])) _ _ w' ?_ ?_ (fun s hs=>?_) (fun p hp M o d x i bb z=>?_) (fun s hs=>?_) hv
     ·simp only[List.mem_append,List.mem_singleton,ab q' a1];omega
     ·cases g:os[q].dst<;>simp[put,hl]
     ·cases g:os[q].dst<;>simp[put,bc]
     ·have hb:l[s]? =lf[s]? ∨os[q].dst=some s:=by
       left
       refine ar s fun p hp M o i=>?_
       rcases List.mem_cons.1 hp with rfl | hp
       ·omega
       ·exact hs p hp M o i
      cases g:os[q].dst with
      | none=>
       rcases hb with hb | hb
       ·exact hb
       ·rw[g] at hb;cases hb
      | some d=>
       simp only[put]
       by_cases e:d=s
       ·subst e
        have aq:d<C.length:=hd d (by simp only[R8,List.mem_filterMap];exact ⟨os[q],List.getElem_mem _,g⟩)
        rw[List.getElem?_set_self (by rw[hl];exact aq),List.getElem?_set_self (by rw[bc];exact aq)]
       ·rw[List.getElem?_set_ne e,List.getElem?_set_ne e]
        rcases hb with hb | hb
        ·exact hb
        ·rw[g] at hb;cases hb;exact absurd rfl e
     ·have cd:=a2 p (by simp[hp]) M o d x i bb z
      cases g:os[q].dst with
      | none=>exact cd
      | some d'=>
       have Y:d'≠d:=by
        rintro rfl
        have:=Yo os hn p q o os[q] d' i A z g
        omega
       simp only[put]
       rw[List.getElem?_set_ne Y];exact cd
     ·cases g:os[q].dst with
      | none=>exact aa s hs
      | some d=>
       have aj:(R8 os).contains d=true:=by
        rw[List.contains_iff_mem];simp only[R8,List.mem_filterMap];exact ⟨os[q],List.getElem_mem _,g⟩
       simp only[put]
       rw[List.getElem?_set_ne (by rintro rfl;rw[hs] at aj;cases aj)]
       exact aa s hs
 intro f
 induction f with
 | nil=>
  intro c E D l u w hA hB hΦ
  refine co c [] E D ?_ l u w hA hB hΦ
  intro q hq
  rw[List.append_nil] at E
  refine Classical.byContradiction fun az=>?_
  have J:=G0 os.length (q::c) (List.nodup_cons.2 ⟨az,E▸H⟩) (fun k hk=>by
   rcases List.mem_cons.1 hk with rfl | hk
   ·omega
   ·exact ac k (by rw[E];exact hk))
  simp at J
  rw[E] at bn;omega
 | cons q f ih=>
  intro c E D l u w hA hB hΦ
  have O:q∉c:=by
   rw[E] at H
   intro h
   exact (List.nodup_append.1 H).2.2 q h q (by simp) rfl
  have U:=ac q (by rw[E];simp)
  by_cases Z:m≤q
  ·-- the tail begins
   have am: ∀p,p<m→p∉c→Na os p=true:=fun p hp bs=>by
    rcases ak q Z U p (by omega) with h | h
    ·exact absurd (hC c q f E p h (by omega)) bs
    ·exact h.2
   have bi: ∀p,Na os p=true→ ∀o,os[p]? =some o→ ∃x,mv o=some x∧ ∀s,x= .tmp s→(R8 os).contains s=false:=by
    intro p hp o i
    unfold Na at hp
    rw[i] at hp
    simp only at hp
    cases N:mv o with
    | none=>rw[N] at hp;cases hp
    | some x=>
     refine ⟨x,rfl,fun s hs=>?_⟩
     subst hs
     rw[N] at hp;simpa using hp
   obtain ⟨g1,g2⟩:=Se hn ba m hm
   have bd: ∀s,(R8 os).contains s=false→ ∀(p:Nat) o,os[p]? =some o→o.dst≠some s:=by
    intro s hs p o i z
    have:(R8 os).contains s=true:=by
     rw[List.contains_iff_mem];simp only[R8,List.mem_filterMap]
     exact ⟨o,List.mem_of_getElem? i,z⟩
    rw[hs] at this;cases this
   refine b6 (q::f) c m E (Nat.le_refl _) hm (fun q' a1=>⟨fun e=>D q' e,fun e=>absurd a1 (by omega)⟩) (fun p hp M=>am p M fun e=>by
    rw[E] at H
    exact (List.nodup_append.1 H).2.2 p e p hp rfl) l (A8 u (O5 (C.map .val) 0 (os.take m))) w hA.len (by simp[A8,Kl os _ m hm]) (fun s hs=>?_) (fun p hp M o d x i bb z=>?_) (fun s hs=>?_) ?_
   ·rw[A8,List.getElem?_map]
    by_cases av: ∃p,p<m∧ ∃o,os[p]? =some o∧o.dst=some s
    ·obtain ⟨p,hp,o,i,z⟩:=av
     by_cases V:p∈c
     ·rw[hA.done p V o s i z,g1 p hp o s i z];rfl
     ·exfalso
      have b9:p∈L:=by
       refine Classical.byContradiction fun az=>?_
       have J:=G0 os.length (p::L) (List.nodup_cons.2 ⟨az,H⟩) (fun k hk=>by
        rcases List.mem_cons.1 hk with rfl | hk
        ·omega
        ·exact ac k hk)
       simp at J;omega
      rw[E] at b9
      rcases List.mem_append.1 b9 with h | h
      ·exact V h
      ·exact hs p h hp o i z
    ·have ad: ∀p,p<m→ ∀o,os[p]? =some o→o.dst≠some s:=fun p hp o i z=>av ⟨p,hp,o,i,z⟩
     rw[hA.rest s (fun p hp=>ad p (D p hp)),g2 s ad,List.getElem?_map]
     cases C[s]? <;>rfl
   ·have V:p∉c:=fun e=>by
     rw[E] at H
     exact (List.nodup_append.1 H).2.2 p e p hp rfl
    rw[A8,List.getElem?_map,g1 p M o d i z]
    simp only[Option.map_some,Option.some.injEq]
    have W:Qg os (C.map .val) p=entOf (O5 (C.map .val) 0 (os.take p)) x:=by simp[Qg,i,Sj,bb]
    rw[W]
    obtain ⟨x',cg,cv⟩:=bi p (am p M V) o i
    rw[bb] at cg;cases cg
    cases x with
    | tmp s=>
     have hs:=cv s rfl
     obtain ⟨_,k2⟩:=Se (S0:=C.map .val) hn ba p (by omega)
     simp only[entOf]
     rw[Fg,k2 s (fun p' _ o' bo=>bd s hs p' o' bo),List.getElem?_map]
     simp only[ev,get,List.getD_eq_getElem?_getD]
     cases C[s]? <;>rfl
    | _=>rfl
   ·exact hA.rest s fun p _ o i=>bd s hs p o i
   ·refine hW.last u w hB (by simp) fun k o hk t=>?_
    have a5:k<m:=by
     have:=(List.getElem?_eq_some_iff.1 hk).1
     simp at this;omega
    rw[Nat.zero_add]
    rw[X k a5] at hk
    refine (hΦ k (Classical.byContradiction fun bs=>?_) o hk t).1
    obtain ⟨x,hx,_⟩:=bi k (am k a5 bs) o hk
    rw[t] at hx;cases hx
  ·have Z:q<m:=by omega
   have A:os[q]? =some os[q]:=List.getElem?_eq_getElem U
   obtain ⟨g1,g2⟩:=Se (S0:=C.map .val) hn ba q (by omega)
   -- what a slot holds that this operation reads
   have ae: ∀s,(∃p o,os[p]? =some o∧o.dst=some s∧p<q∧an p q=true)∨s∈B3 os[q]→
    get l s=(getE (O5 (C.map .val) 0 (os.take q)) s).at u∧ ∀r,getE (O5 (C.map .val) 0 (os.take q)) s= .ref r→r∈c∧ ∃o,os[r]? =some o∧mv o=none:=by
    intro s hs
    have ad:(∀p∈c,∀o,os[p]? =some o→o.dst≠some s)→(∀p,p<q→ ∀o,os[p]? =some o→o.dst≠some s)→
     get l s=(getE (O5 (C.map .val) 0 (os.take q)) s).at u∧ ∀r,getE (O5 (C.map .val) 0 (os.take q)) s= .ref r→r∈c∧ ∃o,os[r]? =some o∧mv o=none:=by
     intro J R
     rw[Fg,g2 s R,List.getElem?_map]
     simp only[get,List.getD_eq_getElem?_getD,hA.rest s J]
     cases C[s]? with
     | none=>exact ⟨rfl,fun r hr=>by cases hr⟩
     | some v=>exact ⟨rfl,fun r hr=>by cases hr⟩
    have bg: ∀p o,os[p]? =some o→o.dst=some s→p<q→p∈c→
     get l s=(getE (O5 (C.map .val) 0 (os.take q)) s).at u∧ ∀r,getE (O5 (C.map .val) 0 (os.take q)) s= .ref r→r∈c∧ ∃o,os[r]? =some o∧mv o=none:=by
     intro p o hp i ap V
     rw[Fg,g1 p ap o s hp i]
     simp only[get,List.getD_eq_getElem?_getD,hA.done p V o s hp i,Option.getD_some]
     first | exact ⟨rfl,hA.refs p V⟩ | exact ⟨trivial,hA.refs p V⟩
    rcases hs with ⟨p,o,hp,i,ap,hb⟩ | hs
    ·exact bg p o hp i ap (hC c q f E p hb (by omega))
    ·by_cases av: ∃(p:Nat) (o:Oper),os[p]? =some o∧o.dst=some s
     ·obtain ⟨p,o,hp,i⟩:=av
      have cy:=(List.getElem?_eq_some_iff.1 hp).1
      have aa: ∀p' o',os[p']? =some o'→o'.dst=some s→p'=p:=fun p' o' J R=>Yo os hn p' p o' o s J hp R i
      rcases Nat.lt_trichotomy p q with h | h | h
      ·have hb:=af p q o os[q] h hp A (by simp only[Qo,i,Bool.or_eq_true];left;left;simpa using hs)
       exact bg p o hp i h (hC c q f E p hb (by omega))
      ·subst h
       exact ad (fun p' ah o' J R=>by rw[aa p' o' J R] at ah;exact O ah) (fun p' ah o' J R=>by rw[aa p' o' J R] at ah;omega)
      ·refine ad (fun p' ah o' J R=>?_) (fun p' ah o' J R=>by rw[aa p' o' J R] at ah;omega)
       have e:=aa p' o' J R
       subst e
       have hb:=af q p' os[q] o' h A J (by simp only[Qo,R,Bool.or_eq_true];right;left;simpa using hs)
       obtain ⟨p1,p2,V⟩:=List.append_of_mem ah
       have:=hC p1 p' (p2++q::f) (by rw[E,V];simp) q hb U
       exact O (by rw[V];exact List.mem_append_left _ this)
     ·exact ad (fun p _ o J R=>av ⟨p,o,J,R⟩) (fun p _ o J R=>av ⟨p,o,J,R⟩)
   have bq: ∀s∈H9 ops os[q]++B3 os[q],(∃p o,os[p]? =some o∧o.dst=some s∧p<q∧an p q=true)∨s∈B3 os[q]:=by
    intro s hs
    rcases List.mem_append.1 hs with hs | hs
    ·left
     unfold H9 at hs
     split at hs
     ·simp at hs
     ·rename_i j b bw
      split at hs
      ·rename_i d bv
       simp only[List.mem_singleton] at hs
       subst hs
       obtain ⟨p,ap,bp,hb⟩:=hg q os[q] j b A bw
       obtain ⟨o,i,z⟩:=Option.bind_eq_some_iff.1 bv
       exact ⟨p,o,by rw[bp,i],z,ap,hb⟩
      ·simp at hs
    ·exact .inr hs
   have ay:=X q Z
   rw[A] at ay
   rw[List.filterMap_cons,A]
   simp only
   -- the state behind it
   have step: ∀(v:Value) (u':Nat→Value) (w':World),(∀p∈c,(Qg os (C.map .val) p).at u'=(Qg os (C.map .val) p).at u)→v=(Qg os (C.map .val) q).at u'→
    (∀r,Qg os (C.map .val) q= .ref r→r∈q::c∧ ∃o,os[r]? =some o∧mv o=none)→B w'→(∀r∈q::c,∀o,os[r]? =some o→mv o=none→Φ r u' w'∧ ∀j∈refs ops (O5 (C.map .val) 0 (os.take r)) o,j∈q::c)→
    Z5 P ops W3 (f.filterMap (os[·]?)) (put l os[q].dst v) w':=by
    intro v u' w' hu hv hr cs cf
    have Q: ∀x,x∈c++[q]↔x∈q::c:=by intro x;simp[or_comm]
    refine ih (c++[q]) (by rw[E];simp) (fun x hx=>by rcases List.mem_cons.1 ((Q x).1 hx) with rfl | hx;exact Z;exact D x hx) _ u' w' ?_ cs (fun r hr o i N=>⟨(cf r ((Q r).1 hr) o i N).1,fun j hj=>(Q j).2 ((cf r ((Q r).1 hr) o i N).2 j hj)⟩)
    have aw: ∀p∈c++[q],∀r,Qg os (C.map .val) p= .ref r→r∈c++[q]∧ ∃o,os[r]? =some o∧mv o=none:=by
     intro p hp r bu
     rcases List.mem_cons.1 ((Q p).1 hp) with rfl | hp
     ·exact ⟨(Q r).2 (hr r bu).1,(hr r bu).2⟩
     ·obtain ⟨J,R⟩:=hA.refs p hp r bu
      exact ⟨List.mem_append_left _ J,R⟩
    cases g:os[q].dst with
    | none=>
     refine ⟨hA.len,?_,?_,aw⟩
     ·intro p hp o d i z
      rcases List.mem_cons.1 ((Q p).1 hp) with rfl | hp
      ·rw[A] at i;cases i;rw[g] at z;cases z
      ·rw[hu p hp];exact hA.done p hp o d i z
     ·intro s hs;exact hA.rest s fun p hp=>hs p (List.mem_append_left _ hp)
    | some d0=>
     have aq:d0<C.length:=hd d0 (by simp only[R8,List.mem_filterMap];exact ⟨os[q],List.getElem_mem _,g⟩)
     refine ⟨by simp[put,hA.len],?_,?_,aw⟩
     ·intro p hp o d i z
      rcases List.mem_cons.1 ((Q p).1 hp) with rfl | hp2
      ·rw[A] at i;cases i
       rw[g] at z;cases z
       simp only[put]
       rw[List.getElem?_set_self (by rw[hA.len];exact aq),hv]
      ·have Y:d0≠d:=by
        rintro rfl
        have:=Yo os hn p q o os[q] d0 i A z g
        subst this;exact O hp2
       simp only[put]
       rw[List.getElem?_set_ne Y,hu p hp2]
       exact hA.done p hp2 o d i z
     ·intro s hs
      have Y:d0≠s:=fun e=>hs q (by simp) os[q] A (by rw[g,e])
      simp only[put]
      rw[List.getElem?_set_ne Y]
      exact hA.rest s fun p hp=>hs p (List.mem_append_left _ hp)
   cases t:mv os[q] with
   | some x=>
    have W:Qg os (C.map .val) q=entOf (O5 (C.map .val) 0 (os.take q)) x:=by simp[Qg,A,Sj,t]
    -- a move: what the operand holds
    have hx:ev l x=(entOf (O5 (C.map .val) 0 (os.take q)) x).at u∧ ∀r,entOf (O5 (C.map .val) 0 (os.take q)) x= .ref r→r∈c∧ ∃o,os[r]? =some o∧mv o=none:=by
     cases x with
     | tmp s=>
      have hs:s∈B3 os[q]:=by
       unfold mv at t
       split at t
       ·cases t
       ·simp only[B3,List.mem_filterMap]
        split at t
        ·rename_i y hy;cases t;exact ⟨.tmp s,by rw[hy];simp[Op.operands],rfl⟩
        ·rename_i y hy;cases t;exact ⟨.tmp s,by rw[hy];simp[Op.operands],rfl⟩
        ·cases t
      exact ae s (.inr hs)
     | _=>exact ⟨rfl,fun r hr=>by cases hr⟩
    have a8:os[q].guard=none:=by
     unfold mv at t
     split at t
     ·cases t
     ·assumption
    simp only[Z5,a8]
    have ax:W8 P l os[q] w (fun v w=>Z5 P ops W3 (f.filterMap (os[·]?)) (put l os[q].dst v) w)=Z5 P ops W3 (f.filterMap (os[·]?)) (put l os[q].dst (ev l x)) w:=by
     unfold mv at t
     rw[a8] at t
     simp only at t
     split at t
     ·rename_i y hy;cases t;simp only[W8,hy]
     ·rename_i y hy;cases t;simp only[W8,hy]
     ·cases t
    rw[ax]
    refine step _ u w (fun _ _=>rfl) (by rw[W];exact hx.1) (fun r hr=>by
     rw[W] at hr
     obtain ⟨J,R⟩:=hx.2 r hr
     exact ⟨List.mem_cons_of_mem _ J,R⟩) hB (fun r hr o i N=>by
     rcases List.mem_cons.1 hr with rfl | hr
     ·rw[A] at i;cases i;rw[t] at N;cases N
     ·exact ⟨(hΦ r hr o i N).1,fun j hj=>List.mem_cons_of_mem _ ((hΦ r hr o i N).2 j hj)⟩)
   | none=>
    have W:Qg os (C.map .val) q= .ref q:=by simp[Qg,A,Sj,t]
    have be:=hW.run q os[q] ay t (br _ (List.getElem_mem _)) u w hB
    rw[a3 q (by omega),Nat.zero_add] at be
    have cn:=hW.stable
    have bm:=be (fun j hj=>by
     obtain ⟨s,hs,he⟩:=Bd (Cu hj)
     obtain ⟨J,o,R,h3⟩:=(ae s (bq s hs)).2 j he
     exact (hΦ j J o R h3).1)
    have cb: ∀j∈refs ops (O5 (C.map .val) 0 (os.take q)) os[q],j∈c:=fun j hj=>by
     obtain ⟨s,hs,he⟩:=Bd (Cu hj)
     exact ((ae s (bq s hs)).2 j he).1
    refine Q2P ?_
    rw[Q2b (br _ (List.getElem_mem _)) (l':=A8 u (O5 (C.map .val) 0 (os.take q))) (fun s hs=>by rw[Iw];exact (ae s (bq s hs)).1)]
    refine Q2Q ?_ bm
    intro v w' ⟨ch,hφ⟩
    have Y: ∀r∈c,r≠q:=fun r hr e=>O (e▸hr)
    refine step v (fun n=>if n=q then v else u n) w' ?_ (by rw[W];simp[Ent.at]) (fun r hr=>by rw[W] at hr;cases hr;exact ⟨by simp,os[q],A,t⟩) (hT w w' hB ch) ?_
    ·intro p hp
     cases he:Qg os (C.map .val) p with
     | val x=>rfl
     | ref r=>
      have:=Y r (hA.refs p hp r he).1
      simp[Ent.at,this]
    ·intro r hr o i N
     rcases List.mem_cons.1 hr with rfl | hr
     ·rw[A] at i;cases i
      exact ⟨hφ _ (fun x hx=>by simp[Y x (cb x hx)]) (by simp),fun j hj=>List.mem_cons_of_mem _ (cb j hj)⟩
     ·obtain ⟨f1,f2⟩:=hΦ r hr o i N
      have b2:=D r hr
      have b0:=Y r hr
      have hl:=hW.loc r o (by rw[X r b2];exact i) N (fun n=>if n=q then v else u n) u (fun x hx=>by
       rw[a3 r (by omega),Nat.zero_add] at hx
       have:x≠q:=by
        rcases List.mem_cons.1 hx with rfl | hx
        ·exact b0
        ·exact Y x (f2 x hx)
       simp[this])
      have hs:=cn r o (by rw[X r b2];exact i) N
      rw[Nat.zero_add] at hs hl
      refine ⟨?_,fun j hj=>List.mem_cons_of_mem _ (f2 j hj)⟩
      rw[hl]
      exact hs _ _ _ f1 ch
def X34:Op→Bool
 | .move _ | .assign _ | .fieldAddr .. | .indexAddr .. | .field .. | .index .. | .binOp .. | .unOp .. | .extract .. | .pick .. | .makeFunc .. | .nilCheck _ | .slice .. =>true
 | _=>false
def ready (ops:List Oper) (a:List Nat) (j:Nat):Bool:=(A5 ops j).all (a.contains ·)
def X2X (ops:List Oper) (j:Nat):Bool:=match ops[j]? with | some o=>X34 o.op | none=>false
def Q8I (ops:List Oper):Nat→List Nat→List Nat→List Nat
 | 0,_,a=>a.reverse
 | n+1,b,a=>
  match b.find? (fun j=>X2X ops j&&ready ops a j) with
  | some j=>Q8I ops n (b.erase j) (j::a)
  | none=>match b.find? (ready ops a) with
   | some j=>Q8I ops n (b.erase j) (j::a)
   | none=>a.reverse
def I8 (ops:List Oper):List Nat:=Q8I ops ops.length (List.range ops.length) []
def Qf (ops:List Oper) (a:List Nat) (p q:Nat):Bool:=((Q0g ops []).getD (a.getD q 0) 0).testBit (a.getD p 0)
def U8 (ops:List Oper) (a:List Nat):List Oper:=a.map fun i=>ops.getD i default
def cutA (ops:List Oper) (a:List Nat):Nat→Nat
 | 0=>0
 | j+1=>if (List.range j).all (fun i=>Qf ops a i j||Na (U8 ops a) i) then cutA ops a j else j+1
def X4a (ops:List Oper) (a:List Nat) (c n:Nat):Bool:=(List.range n).all fun q=>(List.range q).all fun p=>decide (p<c)||Qf ops a p q
def Re (ops:List Oper) (a:List Nat) (n:Nat):Nat:=if X4a ops a (cutA ops a n) n then cutA ops a n else n
theorem Q4l (ops:List Oper) (a:List Nat): ∀n,cutA ops a n≤n∧ ∀q,cutA ops a n≤q→q<n→ ∀p,p<q→Qf ops a p q=true∨Na (U8 ops a) p=true
 | 0=>⟨Nat.le_refl _,fun q _ h=>by omega⟩
 | j+1=>by
  obtain ⟨g,f⟩:=Q4l ops a j
  simp only[cutA]
  split
  ·rename_i h
   refine ⟨by omega,fun q c b p d=>?_⟩
   by_cases e:q=j
   ·subst e
    simpa using List.all_eq_true.1 h p (by simpa using d)
   ·exact f q c (by omega) p d
  ·exact ⟨Nat.le_refl _,fun q c b=>by omega⟩
theorem Q8r (ops:List Oper) (a:List Nat) (n:Nat):Re ops a n≤n∧ ∀q,Re ops a n≤q→q<n→ ∀p,p<q→Qf ops a p q=true∨(p<Re ops a n∧Na (U8 ops a) p=true):=by
 obtain ⟨i,g⟩:=Q4l ops a n
 unfold Re
 split
 ·rename_i f
  refine ⟨i,fun q d b p e=>?_⟩
  by_cases c:p<cutA ops a n
  ·exact (g q d b p e).imp id fun h=>⟨c,h⟩
  ·left
   have:=List.all_eq_true.1 (List.all_eq_true.1 f q (by simpa using b)) p (by simpa using e)
   simpa [c] using this
 ·exact ⟨Nat.le_refl _,fun q d b=>by omega⟩
def X10 (ops:List Oper) (a:List Nat):Bool:=
 a.length==ops.length&&(List.range ops.length).all (a.contains ·)&&Um a&&a.all (fun i=>decide (i<ops.length))&&
  (List.range ops.length).all fun q=>(List.range q).all fun p=> !Qf ops a q p
def Rt (ops:List Oper) (n:Nat):Bool:=
 Lc ops&&Q7q (Q0g ops []) ops&&Um (R8 (U8 ops (I8 ops)))&&(R8 (U8 ops (I8 ops))).all (fun d=>decide (d<n))&&
  (Zd .any ops (List.range ops.length)&&Zd .text ops (List.range ops.length)&&Zd .gc ops (X2w .gc ops ops.length (List.range ops.length) []))&&X10 ops (I8 ops)
theorem Q19: ∀{l:List Nat},Um l=true→l.Nodup
 | [],_=>List.nodup_nil
 | x::l,h=>by
  simp only[Um,Bool.and_eq_true,Bool.not_eq_true'] at h
  exact List.nodup_cons.2 ⟨by simpa using h.1,Q19 h.2⟩
theorem Q6o {ops:List Oper}: ∀(b:List Oper) (a:List Nat),a.length+b.length=ops.length→(∀k,a.length≤k→ops[k]? =b[k-a.length]?)→
 (∀j k,j<a.length→k∈A5 ops j→(a.getD j 0).testBit k=true)→ ∀j k,j<ops.length→k∈A5 ops j→((Q0g b a).getD j 0).testBit k=true
 | [],a,n,_,c=>fun j k p d=>c j k (by simp at n;omega) d
 | o::b,a,n,f,c=>by
  have r:ops[a.length]? =some o:=by rw[f _ (Nat.le_refl _)];simp
  refine Q6o b _ (by simp at n⊢;omega) ?_ ?_
  ·intro k d
   simp only[List.length_append,List.length_cons,List.length_nil] at d⊢
   rw[f k (by omega)]
   obtain ⟨m,t⟩: ∃m,k-a.length=m+1:=⟨k-a.length-1,by omega⟩
   rw[t,List.getElem?_cons_succ]
   congr 1;omega
  ·intro j k p d
   simp only[List.length_append,List.length_cons,List.length_nil] at p
   by_cases g:j<a.length
   ·simp only[List.getD_eq_getElem?_getD,List.getElem?_append_left g]
    simpa only[List.getD_eq_getElem?_getD] using c j k g d
   ·have i:j=a.length:=by omega
    subst i
    simp only[List.getD_eq_getElem?_getD,List.getElem?_append_right (Nat.le_refl _),Nat.sub_self,List.getElem?_cons_zero,Option.getD_some]
    unfold A5 at d
    rw[r] at d
    simp only[Option.map_some,Option.getD_some,List.mem_map] at d
    obtain ⟨e,q,rfl⟩:=d
    have key: ∀(l:List Edge) (s:Nat),(e∈l∨s.testBit e.on=true)→(l.foldl (fun s e=>s ||| 2 ^ e.on ||| (a[e.on]?).getD 0) s).testBit e.on=true:=by
     intro l
     induction l with
     | nil=>intro s h;simpa using h
     | cons x l u=>
      intro s h
      refine u _ ?_
      rcases h with h | h
      ·rcases List.mem_cons.1 h with rfl | h
       ·right;simp
       ·exact .inl h
      ·right;simp[h]
    exact key _ _ (.inl q)
theorem Cf {α β:Type} {f g:α→Option β}: ∀{l:List α},(∀x∈l,f x=g x)→l.filterMap f=l.filterMap g
 | [],_=>rfl
 | x::l,h=>by
  rw[List.filterMap_cons,List.filterMap_cons,h x (by simp),Cf fun y a=>h y (by simp[a])]
structure Arr (ops : List Oper) (ord : List Nat) (L : List Nat) : Prop where
  hpl : ∀ o ∈ U8 ops ord, Xs o.op = true
  hclash : ∀ p q a b, p < q → (U8 ops ord)[p]? = some a → (U8 ops ord)[q]? = some b → (Qo a b || Qo b a) = true → Qf ops ord p q = true
  hg : ∀ q o j b, (U8 ops ord)[q]? = some o → o.guard = some (j, b) → ∃ p, p < q ∧ (U8 ops ord)[p]? = ops[j]? ∧ Qf ops ord p q = true
  hn : L.Nodup
  hlt : ∀ q ∈ L, q < (U8 ops ord).length
  hC : ∀ pre q post, L = pre ++ q :: post → ∀ p, Qf ops ord p q = true → p < (U8 ops ord).length → p ∈ pre
  hLl : L.length = (U8 ops ord).length
theorem Q4o {ops:Array Oper} {n:Nat} (ag:Rt ops.toList n=true) (b:Bool) (t:Nat): ∃L,(Region.schedule b ops t).filterMap (ops[·]?)=L.filterMap ((U8 ops.toList (I8 ops.toList))[·]?)∧Arr ops.toList (I8 ops.toList) L∧(U8 ops.toList (I8 ops.toList)).length=ops.toList.length:=by
 simp only[Rt,Bool.and_eq_true] at ag
 obtain ⟨⟨⟨⟨⟨Y,hc⟩,hn⟩,hd⟩,⟨bh,bg⟩,be⟩,R⟩:=ag
 generalize I8 ops.toList=c at*
 simp only[X10,Bool.and_eq_true,beq_iff_eq] at R
 obtain ⟨⟨⟨⟨ad,X⟩,az⟩,N⟩,J⟩:=R
 have ae:=Q19 az
 have aj:(U8 ops.toList c).length=ops.toList.length:=by simp[U8,ad]
 have f: ∀p,p<ops.toList.length→c.getD p 0<ops.toList.length:=by
  intro p V
  simp only[List.getD_eq_getElem?_getD]
  rw[List.getElem?_eq_getElem (by omega)]
  have:=List.all_eq_true.1 N c[p] (List.getElem_mem _)
  simpa using this
 have d: ∀p,p<ops.toList.length→(U8 ops.toList c)[p]? =ops.toList[c.getD p 0]? :=by
  intro p V
  have r:=f p V
  simp only[List.getD_eq_getElem?_getD] at r
  rw[List.getElem?_eq_getElem (by omega:p<c.length)] at r
  simp only[Option.getD_some] at r
  simp only[U8,List.getElem?_map,List.getD_eq_getElem?_getD]
  rw[List.getElem?_eq_getElem (by omega:p<c.length)]
  simp only[Option.map_some,Option.getD_some]
  rw[List.getElem?_eq_getElem r]
  simp
 obtain ⟨am,O,A⟩:=Q4L b ops t Y (fun m=>by cases m<;>exact ⟨_,by assumption⟩)
 have l:=Q20 b ops t
 generalize Region.schedule b ops t=L0 at am O A l⊢
 have C: ∀i,i<ops.toList.length→i∈c:=fun i B=>by simpa using List.all_eq_true.1 X i (by simpa using B)
 have g: ∀i,i<ops.toList.length→c.idxOf i<ops.toList.length∧c.getD (c.idxOf i) 0=i:=by
  intro i B
  have r:=List.idxOf_lt_length_of_mem (C i B)
  refine ⟨by omega,?_⟩
  simp only[List.getD_eq_getElem?_getD]
  rw[List.getElem?_eq_getElem r]
  simp
 have s: ∀p,p<ops.toList.length→c.idxOf (c.getD p 0)=p:=by
  intro p V
  simp only[List.getD_eq_getElem?_getD]
  rw[List.getElem?_eq_getElem (by omega:p<c.length)]
  simp only[Option.getD_some]
  exact List.Nodup.idxOf_getElem ae p (by omega)
 have ak: ∀p q,p<q→q<ops.toList.length→Qf ops.toList c q p=false:=by
  intro p q W u
  have:=List.all_eq_true.1 (List.all_eq_true.1 J q (by simpa using u)) p (by simpa using W)
  simpa using this
 have aq:L0.filterMap (ops[·]?)=(L0.map (c.idxOf ·)).filterMap ((U8 ops.toList c)[·]?):=by
  rw[List.filterMap_map]
  refine Cf fun i B=>?_
  have:=l i B
  have r:=g i (by simpa using this)
  simp only[Function.comp]
  rw[d _ r.1,r.2]
  simp
 refine ⟨L0.map (c.idxOf ·),aq,⟨?_,?_,?_,?_,?_,?_,by simp[O,ad,U8]⟩,aj⟩
 ·intro o ho
  simp only[U8,List.mem_map] at ho
  obtain ⟨i,B,rfl⟩:=ho
  have v:i<ops.toList.length:=by simpa using List.all_eq_true.1 N i B
  simp only[Lc,List.all_eq_true,Bool.and_eq_true] at Y
  have:=(Y (ops.toList[i],i) (by rw[List.mem_zipIdx_iff_getElem?];simpa using v)).1.1
  rw[List.getD_eq_getElem?_getD,List.getElem?_eq_getElem v]
  exact this
 ·intro p q a b' W ha D H
  have V:p<ops.toList.length:=by have:=(List.getElem?_eq_some_iff.1 ha).1;omega
  have u:q<ops.toList.length:=by have:=(List.getElem?_eq_some_iff.1 D).1;omega
  rw[d p V] at ha
  rw[d q u] at D
  have Z: ∀i i' x x',i<i'→ops.toList[i]? =some x→ops.toList[i']? =some x'→(Qo x x'||Qo x' x)=true→((Q0g ops.toList []).getD i' 0).testBit i=true:=by
   intro i i' x x' a5 hx ap H
   simp only[Q7q,List.all_eq_true] at hc
   have:=hc (x',i') (by rw[List.mem_zipIdx_iff_getElem?];simpa using ap) (x,i) (by rw[List.mem_zipIdx_iff_getElem?];simpa using hx)
   simp only[a5,H,decide_true,Bool.not_true,Bool.false_or,Bool.or_self] at this
   exact this
  have al:c.getD p 0≠c.getD q 0:=by
   intro e
   have:=s p V
   rw[e,s q u] at this
   omega
  rcases Nat.lt_or_gt_of_ne al with h | h
  ·exact Z _ _ a b' h ha D H
  ·have r:=Z _ _ b' a h D ha (by rw[Bool.or_comm];exact H)
   have w:=ak p q W u
   unfold Qf at w
   rw[r] at w;cases w
 ·intro q o j b' u a0
  have E:q<ops.toList.length:=by have:=(List.getElem?_eq_some_iff.1 u).1;omega
  rw[d q E] at u
  have M:j∈A5 ops.toList (c.getD q 0):=by
   have ai:=Y
   simp only[Lc,List.all_eq_true,Bool.and_eq_true] at ai
   have:=(ai (o,c.getD q 0) (by rw[List.mem_zipIdx_iff_getElem?];simpa using u)).2
   rw[a0] at this
   simp only[List.any_eq_true] at this
   obtain ⟨e,a1,av⟩:=this
   unfold A5
   rw[u]
   simp only[Option.map_some,Option.getD_some,List.mem_map]
   exact ⟨e,a1,by simpa using av⟩
  have a6:=Gz Y _ (f q E) j M
  have hj:j<ops.toList.length:=by have:=f q E;omega
  have D:=Q6o (ops:=ops.toList) ops.toList [] (by simp) (by simp) (by intro j k hj;simp at hj) _ j (f q E) M
  obtain ⟨r,w⟩:=g j hj
  have Q:Qf ops.toList c (c.idxOf j) q=true:=by unfold Qf;rw[w];exact D
  refine ⟨c.idxOf j,?_,by rw[d _ r,w],Q⟩
  rcases Nat.lt_trichotomy (c.idxOf j) q with h | h | h
  ·exact h
  ·rw[←h,w] at a6;omega
  ·have:=ak q _ h r
   rw[Q] at this;cases this
 ·refine List.pairwise_map.2 (am.imp_of_mem ?_)
  intro x y hx hy a7 aw
  have r:=(g x (by simpa using l x hx)).2
  have w:=(g y (by simpa using l y hy)).2
  exact a7 (by rw[←r,←w,aw])
 ·intro q u
  simp only[List.mem_map] at u
  obtain ⟨i,B,rfl⟩:=u
  have:=(g i (by simpa using l i B)).1
  omega
 ·intro bc q bb hL p D V
  rw[List.map_eq_append_iff] at hL
  obtain ⟨ah,ax,ab,aa,z⟩:=hL
  rw[List.map_eq_cons_iff] at z
  obtain ⟨i,U,hr,B,a3⟩:=z
  subst hr B aa
  have v:i<ops.toList.length:=by simpa using l i (by rw[ab];simp)
  obtain ⟨r,w⟩:=g i v
  unfold Qf at D
  rw[w] at D
  have a2:p<ops.toList.length:=by omega
  have:=Q53 Y A i v (c.getD p 0) ah U ab D
  rw[List.mem_map]
  exact ⟨c.getD p 0,this,s p a2⟩
theorem X1H (P:Program) (ops:Array Oper) (T:World→World→Prop) (B:World→Prop) (W3:List Value→World→Prop) (i:List Value) (g:Rt ops.toList i.length=true)
 (A: ∀w w',B w→T w w'→B w')
 (h:chain P ops.toList T B W3 ((U8 ops.toList (I8 ops.toList)).drop (Re ops.toList (I8 ops.toList) ops.toList.length)) 0
  ((U8 ops.toList (I8 ops.toList)).take (Re ops.toList (I8 ops.toList) ops.toList.length)) (i.map .val) [] [])
 (b:Bool) (t:Nat) (w:World) (J:B w):Z5 P ops.toList W3 ((Region.schedule b ops t).filterMap (ops[·]?)) i w:=by
 obtain ⟨L,n,c,o⟩:=Q4o g b t
 simp only[Rt,Bool.and_eq_true] at g
 obtain ⟨⟨⟨⟨⟨l,Q⟩,H⟩,C⟩,⟨N,z⟩,D⟩,r⟩:=g
 generalize I8 ops.toList=a at*
 obtain ⟨Φ,_,E⟩:=Q0H P ops.toList T B W3 _ _ 0 (i.map .val) [] [] (by intro e l j s;simp only[List.mem_map] at l;obtain ⟨v,_,rfl⟩:=l;cases s) (by simp) (by simp[Uz]) h
 rw[n]
 obtain ⟨k,f⟩:=Q8r ops.toList a ops.toList.length
 exact X40 (os:=U8 ops.toList a) (m:=Re ops.toList a ops.toList.length) (T:=T) (B:=B) (Φ:=Φ) (Qf ops.toList a) c.hpl H (fun d u=>by simpa using List.all_eq_true.1 C d u) c.hclash c.hg (by omega)
  (fun q M y p O=>f q M (by omega) p O) A E L c.hn c.hLl c.hlt c.hC _ [] rfl (by simp) i (fun _=>undef) w
  ⟨rfl,by simp,fun _ _=>rfl,by simp⟩ J (by simp)
def Uq {α:Type} (P:Program) (s:Sem α):Prop:= ∀w v w',s.run P w= .ok v w'→w'=w
section
variable {P : Program} {α β : Type}
theorem Nf (a:α):Uq P (Pure.pure a:Sem α):=fun w v w' h=>by simp at h;exact h.2.symm
theorem Q6R (m:String):Uq P (stuck m:Sem α):=fun w v w' h=>by simp at h
theorem Ye {s:Sem α} {f:α→Sem β} (c:Uq P s) (d: ∀a,Uq P (f a)):Uq P (s>>=f):=fun w v w' h=>by
 rw[Sem.run_bind] at h
 cases b:s.run P w with
 | halt x w1=>rw[b] at h;simp[Result.andThen] at h
 | ok a w1=>
  rw[b] at h
  have:=c _ _ _ b
  subst this
  exact d a _ _ _ h
theorem Q3r (a:Addr) (m:Mode):Uq P (load a m):=fun w v w' h=>by
 unfold load at h
 simp only[Sem.run] at h
 split at h
 ·cases h;rfl
 ·split at h
  ·cases h;rfl
  ·cases h
theorem Q3E (t:TypeId):Uq P (typeInfo t):=fun w v w' h=>by
 unfold typeInfo at h
 simp only[Sem.run_bind,run_program,Result.andThen_ok] at h
 split at h<;>simp at h
 exact h.2.symm
theorem Q2s (t:TypeId):Uq P (underlying t):=fun w v w' h=>by
 unfold underlying at h
 simp only[Sem.run_bind,run_program,Result.andThen_ok] at h
 split at h<;>simp at h
 exact h.2.symm
theorem Q6y (t:TypeId):Uq P (isAgg t):=by
 unfold isAgg
 refine Ye (Q2s t) fun d=>?_
 split<;>exact Nf _
theorem Q55 (t:TypeId):Uq P (sizeOf t):=Ye (Q3E t) fun _=>Nf _
theorem Q24 (a:Addr): ∀(n i:Nat) (b:Array Value),Uq P (loadCellsFrom a i n b)
 | 0,i,b=>Nf _
 | n+1,i,b=>Ye (Q3r _ _) fun v=>Q24 a n (i+1) _
theorem Q4R (t:TypeId) (a:Addr):Uq P (loadVar t a):=by
 unfold loadVar
 refine Ye (Q6y t) fun b=>?_
 split
 ·exact Ye (Q55 t) fun n=>Ye (Q24 a n 0 #[]) fun cs=>Nf _
 ·exact Q3r _ _
theorem Q5a (t:TypeId) (v:Value):Uq P (Instr.loadAt t v):=by
 unfold Instr.loadAt
 refine Ye ?_ fun a=>Q4R t a
 unfold Instr.sureAddr
 split
 ·exact Nf _
 ·exact Q6R _
def Ur (P:Program) (s:Sem α):Prop:= ∀w v w1,s.run P w= .ok v w1→w1=w∧ ∀w',s.run P w'= .ok v w'
theorem Ui (a:α):Ur P (Pure.pure a:Sem α):=fun w v w' h=>by simp at h⊢;exact ⟨h.2.symm,h.1⟩
theorem Nd (m:String):Ur P (stuck m:Sem α):=fun w v w' h=>by simp at h
theorem Qq {s:Sem α} {f:α→Sem β} (e:Ur P s) (j: ∀a,Ur P (f a)):Ur P (s>>=f):=fun w v w' h=>by
 rw[Sem.run_bind] at h
 cases b:s.run P w with
 | halt x w1=>rw[b] at h;simp[Result.andThen] at h
 | ok a w1=>
  rw[b] at h
  obtain ⟨rfl,i⟩:=e _ _ _ b
  obtain ⟨d,g⟩:=j a _ _ _ h
  refine ⟨d,fun c=>?_⟩
  rw[Sem.run_bind,i c]
  exact g c
theorem Q4N (t:TypeId):Ur P (typeInfo t):=fun w v w' h=>by
 unfold typeInfo at h⊢
 simp only[Sem.run_bind,run_program,Result.andThen_ok] at h⊢
 split at h<;>simp at h
 rename_i i a
 refine ⟨h.2.symm,fun w'=>?_⟩
 simp[a,h.1]
theorem Bg (t:TypeId):Ur P (underlying t):=fun w v w' h=>by
 unfold underlying at h⊢
 simp only[Sem.run_bind,run_program,Result.andThen_ok] at h⊢
 split at h<;>simp at h
 rename_i i a
 refine ⟨h.2.symm,fun w'=>?_⟩
 simp[a,h.1]
theorem Q0K (v:Value) (i:Nat):Ur P (Instr.extract v i):=by
 unfold Instr.extract
 split
 ·split
  ·exact Ui _
  ·exact Nd _
 ·exact Nd _
theorem Q8P (v:Value):Ur P (Instr.sureAddr v):=by
 unfold Instr.sureAddr
 split
 ·exact Ui _
 ·exact Nd _
theorem Q3S {s:Sem α} (h: ∀w v w',s.run P w≠ .ok v w'):Ur P s:=fun w v w' e=>absurd e (h w v w')
theorem Q3P {s:Sem α} {f:α→Sem β} (c: ∀a w v w',(f a).run P w≠ .ok v w'): ∀w v w',(s>>=f).run P w≠ .ok v w':=fun w v w' h=>by
 rw[Sem.run_bind] at h
 cases b:s.run P w with
 | halt x w1=>rw[b] at h;simp[Result.andThen] at h
 | ok a w1=>rw[b] at h;exact c a _ _ _ h
theorem Q2Y (e:Int×Int×Bool×BoundsCode): ∀w v w',(runtimePanic (.bounds e.1 e.2.1 e.2.2.1 e.2.2.2):Sem α).run P w≠ .ok v w':=by
 unfold runtimePanic
 exact Q3P fun p=>fun w v w' h=>by cases h
theorem Q2j (k:IntKind) (x y:Int) (c:BoundsCode):Ur P (boundsPanic k x y c:Sem α):=Q3S (by
 unfold boundsPanic
 dsimp only
 split
 ·exact Q3P fun b=>Q2Y (_,_,_,_)
 ·exact Q3P fun b=>Q2Y (_,_,_,_))
theorem Q0G (t:TypeId) (x i:Value):Ur P (Instr.indexAt t x i):=by
 unfold Instr.indexAt
 refine Qq ?_ fun q=>?_
 ·unfold asIntOf
  split
  ·exact Ui _
  ·exact Q3S fun w v w' h=>by cases h
  ·exact Nd _
 refine Qq (Bg t) fun d=>?_
 dsimp only
 have key: ∀(z:Option Addr×Nat×TypeId),Ur P (match z with
  | (base,b,elem)=>do
   let __do_lift←underlying t
   have c:Bool:=decide (b≤1)&&match __do_lift with
    | TypeDesc.array b elem=>true
    | x=>false
   match base with
    | some a=>
     if 0≤q.snd∧q.snd< ↑b then do
      let __do_lift←sizeOf elem
      pure (Value.pointer (some (a.add (q.snd.toNat*__do_lift))))
     else
      if c=true then unsupported (Unsupported.noEntry "op/indexAddr.an index out of range at an array of length 0 or 1 (ledger 616)")
      else boundsPanic q.fst q.snd (↑b) BoundsCode.index
    | none=>boundsPanic q.fst q.snd 0 BoundsCode.index):=by
  rintro ⟨base,b,elem⟩
  dsimp only
  refine Qq (Bg t) fun g=>?_
  cases base with
  | none=>exact Q2j _ _ _ _
  | some a=>
   dsimp only
   by_cases e:0≤q.snd∧q.snd< ↑b
   ·rw[if_pos e]
    exact Qq (Qq (Q4N _) fun _=>Ui _) fun n=>Ui _
   ·rw[if_neg e]
    by_cases f:(decide (b≤1)&&match g with
     | TypeDesc.array b elem=>true
     | x=>false)=true
    ·rw[if_pos f]
     exact Q3S fun w v w' h=>by cases h
    ·rw[if_neg f]
     exact Q2j _ _ _ _
 split
 ·exact Qq (Q8P _) fun a=>Qq (Ui _) key
 ·exact Qq (Ui _) key
 ·exact Qq (Nd _) key
def Q3K (o:Oper):Bool:=match o.op with | .move _ | .assign _ | .load .. | .extract .. | .indexAddr .. =>true | _=>false
def Q8e (o:Oper):Bool:=match o.op with | .move _ | .assign _ | .extract .. | .indexAddr .. =>true | _=>false
theorem Q2V {s:Sem Value} {w:World} {K:Value→World→Prop} (h:op P (sv s) w K): ∃v w',s.run P w= .ok v w'∧K v w':=by
 rw[P9] at h
 unfold K9 sv at h
 rw[Sem.run_bind] at h
 cases a:s.run P w with
 | halt x w1=>rw[a] at h;exact h.elim
 | ok v w1=>rw[a] at h;exact ⟨v,w1,rfl,h⟩
theorem Q3s {s:Sem Value} {v:Value} {w w':World} {K:Value→World→Prop} (h:s.run P w= .ok v w') (k:K v w'):op P (sv s) w K:=by
 rw[P9]
 unfold K9 sv
 rw[Sem.run_bind,h]
 exact k
theorem Q6m {l:List Value} {o:Oper} {w:World} {K:Value→World→Prop} (h:Q3K o=true) (e:W8 P l o w K): ∃v,K v w∧ ∀c,c v w→W8 P l o w c:=by
 obtain ⟨d,p,j,pos,i,g⟩:=o
 cases p<;>(first | (simp[Q3K] at h;done) | skip)<;>simp only[W8] at e⊢
 ·exact ⟨_,e,fun c a=>a⟩
 ·exact ⟨_,e,fun c a=>a⟩
 ·obtain ⟨v,w',b,f⟩:=Q2V e
  have:=Q5a _ _ _ _ _ b
  subst this
  exact ⟨v,f,fun c a=>Q3s b a⟩
 ·obtain ⟨v,w',b,f⟩:=Q2V e
  have:=(Q0G _ _ _ _ _ _ b).1
  subst this
  exact ⟨v,f,fun c a=>Q3s b a⟩
 ·obtain ⟨v,w',b,f⟩:=Q2V e
  have:=(Q0K _ _ _ _ _ b).1
  subst this
  exact ⟨v,f,fun c a=>Q3s b a⟩
theorem Q5j {l:List Value} {o:Oper} {w:World} {K:Value→World→Prop} (h:Q8e o=true) (c:W8 P l o w K): ∃v,K v w∧ ∀w' b,b v w'→W8 P l o w' b:=by
 obtain ⟨d,p,k,pos,j,g⟩:=o
 cases p<;>(first | (simp[Q8e] at h;done) | skip)<;>simp only[W8] at c⊢
 ·exact ⟨_,c,fun w' b a=>a⟩
 ·exact ⟨_,c,fun w' b a=>a⟩
 ·obtain ⟨v,w',f,i⟩:=Q2V c
  obtain ⟨rfl,e⟩:=Q0G _ _ _ _ _ _ f
  exact ⟨v,i,fun w' b a=>Q3s (e w') a⟩
 ·obtain ⟨v,w',f,i⟩:=Q2V c
  obtain ⟨rfl,e⟩:=Q0K _ _ _ _ _ f
  exact ⟨v,i,fun w' b a=>Q3s (e w') a⟩
end
structure Swap (ops : List Oper) (a b : Oper) : Prop where
  pa : Xs a.op = true
  pb : Xs b.op = true
  ga : a.guard = none
  ab : ∀ d, a.dst = some d → d ∉ H9 ops b ++ B3 b
  ba : ∀ d, b.dst = some d → d ∉ H9 ops a ++ B3 a
  dd : ∀ d, a.dst = some d → b.dst ≠ some d
  gb : ∀ j c, b.guard = some (j, c) → ((ops[j]?).bind (·.dst)).isSome = true
  rd : (Q3K a = true ∧ Q3K b = true ∧ b.guard = none) ∨ Q8e a = true
section
variable {P : Program} {ops : List Oper} {W3 : List Value → World → Prop}
theorem Q2C {l:List Value} {d:Option Nat} {v:Value} {s:Nat} (h: ∀e,d=some e→e≠s):get (put l d v) s=get l s:=by
 cases d with
 | none=>rfl
 | some e=>simp only[put,get,List.getD_eq_getElem?_getD,List.getElem?_set_ne (h e rfl)]
theorem Q9J {l:List Value} {d e:Option Nat} {v u:Value} (h: ∀x,d=some x→e≠some x):put (put l d v) e u=put (put l e u) d v:=by
 cases d with
 | none=>rfl
 | some d=>cases e with
  | none=>rfl
  | some e=>simp only[put];exact List.set_comm _ _ (by intro a;subst a;exact h d rfl rfl)
theorem Q4k {o:Oper} {s:Nat} (a:Operand.tmp s∈o.op.operands):s∈B3 o:=by
 simp only[B3,List.mem_filterMap]
 exact ⟨.tmp s,by simpa using a,rfl⟩
theorem Q6A {a b:Oper} {R:List Oper} {l:List Value} {w:World} (M:Swap ops a b) (h:Z5 P ops W3 (a::b::R) l w):Z5 P ops W3 (b::a::R) l w:=by
 obtain ⟨pa,X,Q,D,Z,V,N,H⟩:=M
 have y: ∀v,W8 P (put l a.dst v) b=W8 P l b:=fun v=>Du X fun x p=>by
  cases x with
  | tmp s=>exact Q2C fun e k f=>D e k (List.mem_append_right _ (f▸Q4k p))
  | _=>rfl
 have n: ∀v,W8 P (put l b.dst v) a=W8 P l a:=fun v=>Du pa fun x p=>by
  cases x with
  | tmp s=>exact Q2C fun e k f=>Z e k (List.mem_append_right _ (f▸Q4k p))
  | _=>rfl
 have o: ∀v u,put (put l b.dst u) a.dst v=put (put l a.dst v) b.dst u:=fun v u=>(Q9J V).symm
 simp only[Z5,Q] at h⊢
 cases m:b.guard with
 | none=>
  simp only[m] at h⊢
  rcases H with ⟨W,U,_⟩ | fa
  ·obtain ⟨J,g,i⟩:=Q6m W h
   rw[y] at g
   obtain ⟨B,L,O⟩:=Q6m U g
   refine O _ ?_
   rw[n]
   exact i _ (by rw[o];exact L)
  ·obtain ⟨J,g,i⟩:=Q5j fa h
   rw[y] at g
   refine K1 (fun B w' r=>?_) g
   rw[n]
   exact i w' _ (by rw[o];exact r)
 | some q=>
  obtain ⟨j,c⟩:=q
  rcases H with ⟨_,_,E⟩ | fa
  ·rw[m] at E;cases E
  obtain ⟨d,C⟩:=Option.isSome_iff_exists.1 (N j c m)
  have z:d∈H9 ops b:=by simp[H9,m,C]
  have Y: ∀v,get (put l a.dst v) d=get l d:=fun v=>Q2C fun e k f=>D e k (List.mem_append_left _ (f▸z))
  simp only[m,C] at h⊢
  obtain ⟨J,g,i⟩:=Q5j fa h
  rw[y,Y] at g
  refine Q0V ((Ls g).imp (fun ⟨A,t⟩=>⟨A,K1 (fun B w' r=>?_) t⟩) (fun ⟨A,t⟩=>⟨A,?_⟩))
  ·rw[n];exact i w' _ (by rw[o];exact r)
  ·rw[n];exact i w _ (by rw[o];exact t)
theorem Q2g {a:Oper} {R R':List Oper} {l:List Value} {w:World} (b: ∀l w,Z5 P ops W3 R l w→Z5 P ops W3 R' l w) (h:Z5 P ops W3 (a::R) l w):Z5 P ops W3 (a::R') l w:=by
 simp only[Z5] at h⊢
 cases i:a.guard with
 | none=>simp only[i] at h⊢;exact K1 (fun v w e=>b _ _ e) h
 | some q=>
  obtain ⟨j,c⟩:=q
  simp only[i] at h⊢
  cases k:(ops[j]?).bind (·.dst) with
  | none=>simp only[k] at h⊢;exact b _ _ h
  | some d=>
   simp only[k] at h⊢
   exact Q0V ((Ls h).imp (fun ⟨g,f⟩=>⟨g,K1 (fun m w' e=>b _ _ e) f⟩) (fun ⟨g,f⟩=>⟨g,b _ _ f⟩))
theorem Q0c {q:Oper} {R:List Oper}: ∀(A:List Oper) {l:List Value} {w:World},(∀a∈A,Swap ops a q)→Z5 P ops W3 (A++q::R) l w→Z5 P ops W3 (q::(A++R)) l w
 | [],_,_,_,h=>h
 | a::A,l,w,c,h=>Q6A (c a (by simp)) (Q2g (R:=A++q::R) (fun _ _ h=>Q0c A (fun b d=>c b (by simp[d])) h) h)
theorem Mh: ∀(A:List Oper) {B:List Oper} {l:List Value} {w:World},Z5 P ops W3 (A++B) l w=Z5 P ops (fun l w=>Z5 P ops W3 B l w) A l w
 | [],B,l,w=>rfl
 | a::A,B,l,w=>by
  simp only[List.cons_append,Z5]
  split
  ·congr 1;funext v w;exact Mh A
  ·split
   ·congr 1;funext v w;exact Mh A
   ·exact Mh A
theorem Q8o {A B B':List Oper} {l:List Value} {w:World} (c: ∀l w,Z5 P ops W3 B l w→Z5 P ops W3 B' l w): ∀{l:List Value} {w:World},Z5 P ops W3 (A++B) l w→Z5 P ops W3 (A++B') l w:=by
 induction A with
 | nil=>exact fun h=>c _ _ h
 | cons a A b=>exact fun h=>Q2g (fun _ _ h=>b h) h
theorem Q7x (os:List Oper) (i:Nat→Nat→Bool) (o: ∀p q a b,p<q→os[p]? =some a→os[q]? =some b→i p q=false→Swap ops a b):
 ∀(n:Nat) (W3:List Value→World→Prop) (L:List Nat) (l:List Value) (w:World),L.Nodup→L.length=n→(∀q∈L,q<n)→n≤os.length→L.Pairwise (fun q p=>p<q→i p q=false)→
  Z5 P ops W3 (os.take n) l w→Z5 P ops W3 (L.filterMap (os[·]?)) l w
 | 0,W3,L,l,w,v,E,g,C,H,h=>by
  have:L=[]:=List.eq_nil_of_length_eq_zero E
  subst this;exact h
 | n+1,W3,L,l,w,v,E,g,C,H,h=>by
  have O:n∈L:=Classical.byContradiction fun s=>by
   have Q:=G0 n L v fun k M=>by
    have m:=g k M
    have J:k≠n:=fun e=>s (e▸M)
    omega
   omega
  obtain ⟨A,B,rfl⟩:=List.append_of_mem O
  have d:n<os.length:=by omega
  have f:os[n]? =some os[n]:=List.getElem?_eq_getElem d
  have r:=List.nodup_append.1 v
  have D:n∉B:=(List.nodup_cons.1 r.2.1).1
  have z:n∉A:=fun e=>r.2.2 n e n (by simp) rfl
  have V:os.take (n+1)=os.take n++[os[n]]:=(List.take_append_getElem d).symm
  rw[V,Mh] at h
  have u: ∀q∈A++B,q<n:=fun q N=>by
   have Q:q<n+1:=g q (by rcases List.mem_append.1 N with h | h<;>simp[h])
   have m:q≠n:=fun e=>by
    subst e
    rcases List.mem_append.1 N with h | h
    ·exact z h
    ·exact D h
   omega
  have c:(A++B).Sublist (A++n::B):=List.Sublist.append (List.Sublist.refl A) (List.sublist_cons_self n B)
  have m:=Q7x os i o n _ (A++B) l w (v.sublist c) (by simp at E⊢;omega) u (by omega) (H.sublist c) h
  rw[←Mh] at m
  rw[List.filterMap_append,List.append_assoc] at m
  rw[List.filterMap_append,List.filterMap_cons,f]
  refine Q8o (l:=l) (w:=w) (fun l w J=>?_) m
  have:=Q0c (R:=[]) (B.filterMap (os[·]?)) (fun a W=>?_) J
  ·rwa [List.append_nil] at this
  ·obtain ⟨p,t,y⟩:=List.mem_filterMap.1 W
   have j:=u p (List.mem_append_right _ t)
   refine o p n a _ j y f ?_
   have U:=(List.pairwise_append.1 H).2.1
   exact (List.pairwise_cons.1 U).1 p t j
end
def X1n (ops:List Oper) (a b:Oper):Bool:=
 (match a.guard with | none=>true | some _=>false)&&(match b.guard with | none=>true | some (j,_)=>match (ops[j]?).bind (·.dst) with | some _=>true | none=>false)&&
  ((Q3K a&&Q3K b&&(match b.guard with | none=>true | some _=>false))||Q8e a)
def X49 (o:Oper):Bool:=match o.op with | .call c=>(match c.callee with | .value (.func _)=>true | _=>false) | _=>false
def Q81 (ops:List Oper) (a:List Nat):Bool:=
 ops.any Q8c&&ops.any X49&&(List.range ops.length).all fun q=>(List.range q).all fun p=>Qf ops a p q||X1n ops (ops.getD (a.getD p 0) default) (ops.getD (a.getD q 0) default)
theorem Gs {α:Type} {R:α→α→Prop}: ∀(a b:List α) {L:List α},L=b++a→(∀b q a,L=b++q::a→ ∀p∈a,R q p)→a.Pairwise R
 | [],_,_,_,_=>List.Pairwise.nil
 | q::a,b,L,c,h=>List.pairwise_cons.2 ⟨h b q a c,Gs a (b++[q]) (by rw[c];simp) h⟩
theorem X2r (P:Program) (ops:Array Oper) (W3:List Value→World→Prop) (V:List Value) (z:Rt ops.toList V.length=true) (J:Q81 ops.toList (I8 ops.toList)=true)
 (b:Bool) (t:Nat) (w:World) (h:Z5 P ops.toList W3 (U8 ops.toList (I8 ops.toList)) V w):Z5 P ops.toList W3 ((Region.schedule b ops t).filterMap (ops[·]?)) V w:=by
 obtain ⟨L,ab,m,ai⟩:=Q4o z b t
 simp only[Rt,Bool.and_eq_true] at z
 obtain ⟨⟨⟨⟨⟨he,hc⟩,hn⟩,R⟩,⟨ap,ax⟩,aq⟩,af⟩:=z
 generalize I8 ops.toList=f at*
 rw[ab]
 refine Q7x (U8 ops.toList f) (Qf ops.toList f) (fun p q a k A u r D=>?_) _ W3 L V w m.hn rfl (fun q hq=>by rw[m.hLl];exact m.hlt q hq) (by rw[m.hLl];exact Nat.le_refl _) ?_ (by rw[m.hLl,List.take_length];exact h)
 ·have X:q<ops.toList.length:=by have:=(List.getElem?_eq_some_iff.1 r).1;omega
  have av:p<ops.toList.length:=by omega
  have v: ∀i o,(U8 ops.toList f)[i]? =some o→ops.toList.getD (f.getD i 0) default=o:=by
   intro i o B
   unfold U8 at B
   rw[List.getElem?_map] at B
   cases Z:f[i]? with
   | none=>rw[Z] at B;cases B
   | some x=>
    rw[Z] at B
    simp only[Option.map_some,Option.some.injEq] at B
    rw[List.getD_eq_getElem?_getD (l:=f),Z];exact B
  have y:(Qo a k||Qo k a)=false:=by
   cases C:Qo a k||Qo k a with
   | false=>rfl
   | true=>rw[m.hclash p q a k A u r C] at D;cases D
  rw[Bool.or_eq_false_iff] at y
  simp only[Q81,Bool.and_eq_true] at J
  have hs:=List.all_eq_true.1 (List.all_eq_true.1 J.2 q (by simpa using X)) p (by simpa using A)
  rw[D,Bool.false_or,v p a u,v q k r] at hs
  simp only[X1n,Bool.and_eq_true,Bool.or_eq_true] at hs
  obtain ⟨⟨g1,U⟩,g3⟩:=hs
  have H:a.guard=none:=by
   cases C:a.guard with
   | none=>rfl
   | some _=>rw[C] at g1;cases g1
  have c1: ∀d,a.dst=some d→d∉B3 k∧k.dst≠some d:=fun d R=>by
   have:=y.1
   unfold Qo at this
   rw[R] at this
   simp only[Bool.or_eq_false_iff] at this
   exact ⟨fun e=>by simp[e] at this,fun e=>by simp[e] at this⟩
  have c2: ∀d,k.dst=some d→d∉B3 a:=fun d R=>by
   have:=y.2
   unfold Qo at this
   rw[R] at this
   simp only[Bool.or_eq_false_iff] at this
   exact fun e=>by simp[e] at this
  refine ⟨m.hpl a (List.mem_of_getElem? u),m.hpl k (List.mem_of_getElem? r),H,fun d g=>?_,fun d g=>?_,fun d g=>(c1 d g).2,fun j c n=>?_,?_⟩
  ·rw[List.mem_append,not_or]
   refine ⟨fun e=>?_,(c1 d g).1⟩
   unfold H9 at e
   cases n:k.guard with
   | none=>rw[n] at e;simp at e
   | some q0=>
    obtain ⟨j,c⟩:=q0
    obtain ⟨p',am,N,Q⟩:=m.hg q k j c r n
    rw[n] at e
    simp only at e
    cases s:ops.toList[j]?.map (·.dst) with
    | none=>
     cases M:ops.toList[j]? with
     | none=>rw[M] at e;simp at e
     | some Y=>rw[M] at s;cases s
    | some dj=>
     cases M:ops.toList[j]? with
     | none=>rw[M] at s;cases s
     | some Y=>
      rw[M] at e N
      simp only[Option.bind_some] at e
      cases E:Y.dst with
      | none=>rw[E] at e;simp at e
      | some d2=>
       rw[E] at e
       simp only[List.mem_singleton] at e
       subst e
       have:=Yo (U8 ops.toList f) hn p' p Y a d N u E g
       subst this
       rw[Q] at D;cases D
  ·rw[List.mem_append,not_or]
   exact ⟨fun e=>by simp[H9,H] at e,c2 d g⟩
  ·rw[n] at U
   simp only at U
   cases C:(ops.toList[j]?).bind (·.dst) with
   | none=>rw[C] at U;cases U
   | some _=>rfl
  ·rcases g3 with ⟨⟨g3,g4⟩,g5⟩ | g3
   ·refine .inl ⟨g3,g4,?_⟩
    cases C:k.guard with
    | none=>rfl
    | some _=>rw[C] at g5;cases g5
   ·exact .inr g3
 ·refine Gs L [] (L:=L) rfl fun W q O hL p hp A=>?_
  cases D:Qf ops.toList f p q with
  | false=>rfl
  | true=>
   have h1:=m.hC W q O hL p D (m.hlt p (by rw[hL];simp[hp]))
   have h2:=m.hn
   rw[hL] at h2
   exact absurd rfl ((List.nodup_append.1 h2).2.2 p h1 p (by simp[hp]))
theorem X1j: ∃f:World→(World→Prop)→Prop,f=fun w A=>A w.drew:=⟨_,rfl⟩
noncomputable def sq:World→(World→Prop)→Prop:=Classical.choose X1j
theorem X3z:sq=fun w A=>A w.drew:=Classical.choose_spec X1j
def Q4V:List Ent→Nat→Ent→(List Ent→Prop)→Prop
 | [],_,_,k=>k []
 | _::l,0,e,k=>k (e::l)
 | x::l,n+1,e,k=>Q4V l n e (fun l'=>k (x::l'))
def Q4Y (S:List Ent) (d:Option Nat) (e:Ent) (k:List Ent→Prop):Prop:=
 match d with
 | some d=>Q4V S d e k
 | none=>k S
def Q7R:List Ent→Nat→(Ent→Prop)→Prop
 | [],_,k=>k (.val undef)
 | x::_,0,k=>k x
 | _::l,n+1,k=>Q7R l n k
def Q9W (S:List Ent) (x:Operand) (k:Ent→Prop):Prop:=
 match x with
 | .tmp t=>Q7R S t k
 | .const v=>k (.val v)
 | .global g=>k (.val (.pointer (some ⟨g,0,none⟩)))
 | .func f=>k (.val (.func (.func f) #[] #[]))
def Q1j (u:Nat→Value):List Ent→(List Value→Prop)→Prop
 | [],k=>k []
 | .val v::S,k=>Q1j u S (fun l=>k (v::l))
 | .ref j::S,k=>Q1j u S (fun l=>k (u j::l))
def Q89:List Value→(List Ent→Prop)→Prop
 | [],k=>k []
 | v::l,k=>Q89 l (fun S=>k (.val v::S))
theorem Q5K: ∀(S:List Ent) (n:Nat) (e:Ent) (k:List Ent→Prop),Q4V S n e k=k (Q2x S n e)
 | [],_,_,_=>rfl
 | _::_,0,_,_=>rfl
 | _::l,n+1,e,k=>by simp only[Q4V,Q2x,Q5K l n e]
theorem Q2r (S:List Ent) (d:Option Nat) (e:Ent) (k:List Ent→Prop):Q4Y S d e k=k (putE S d e):=by
 cases d with
 | none=>rfl
 | some d=>exact Q5K S d e k
theorem Q5i: ∀(S:List Ent) (n:Nat) (k:Ent→Prop),Q7R S n k=k (getE S n)
 | [],_,_=>rfl
 | _::_,0,_=>rfl
 | _::l,n+1,k=>Q5i l n k
theorem Q8M (S:List Ent) (x:Operand) (k:Ent→Prop):Q9W S x k=k (entOf S x):=by
 cases x with
 | tmp t=>exact Q5i S t k
 | _=>rfl
theorem Q2p (u:Nat→Value): ∀(S:List Ent) (k:List Value→Prop),Q1j u S k=k (A8 u S)
 | [],_=>rfl
 | .val v::S,k=>by simp only[Q1j,Q2p u S];rfl
 | .ref j::S,k=>by simp only[Q1j,Q2p u S];rfl
theorem Q78: ∀(l:List Value) (k:List Ent→Prop),Q89 l k=k (l.map .val)
 | [],_=>rfl
 | v::l,k=>by simp only[Q89,Q78 l];rfl
noncomputable def Sk (P:Program) (ops:List Oper) (T:World→World→Prop) (B:World→Prop) (W3:List Value→World→Prop) (tail:List Oper):Nat→List Oper→List Ent→Sc→List Nat→Prop
 | _,[],S,b,done=>Ps done (fun _=>undef) fun u=> ∀w,B w→Q1H b u w (Q1j u S fun l=>Qb P ops W3 tail l w) done
 | i,o::a,S,b,done=>
  match mv o with
  | some x=>Q9W S x fun e=>Q4Y S o.dst e fun S=>Sk P ops T B W3 tail (i+1) a S b done
  | none=>match Q8c o with
   | true=>Ry T (fun φ=>Ps (refs ops S o) (fun _=>undef) fun u=> ∀w,B w→Im b u w (runOp P ops (A8 u S) o w (dk T (φ ((refs ops S o).map u)) w)) (refs ops S o))
    (fun φ=>Q4Y S o.dst (.ref i) fun c=>Sk P ops T B W3 tail (i+1) a c (b++[(i,refs ops S o,φ)]) (done++[i]))
   | false=>Q6 T (fun φ=>Ps (refs ops S o) (fun _=>undef) fun u=> ∀w,B w→Im b u w (runOp P ops (A8 u S) o w (dk T φ w)) (refs ops S o))
    (fun φ=>Q4Y S o.dst (.ref i) fun c=>Sk P ops T B W3 tail (i+1) a c (b++[(i,[],fun _=>φ)]) (done++[i]))
theorem Cx (P:Program) (ops:List Oper) (T:World→World→Prop) (B:World→Prop) (W3:List Value→World→Prop) (tail:List Oper): ∀(a:List Oper) (i:Nat) (S:List Ent) (b:Sc) (done:List Nat),
 Sk P ops T B W3 tail i a S b done=chain P ops T B W3 tail i a S b done
 | [],i,S,b,done=>by simp only[Sk,chain,Q2p]
 | o::a,i,S,b,done=>by
  simp only[Sk,chain]
  split
  ·rw[Q8M,Q2r,Cx]
  ·split
   ·congr 1
    funext φ
    rw[Q2r,Cx]
   ·congr 1
    funext φ
    rw[Q2r,Cx]
noncomputable def X17 (P:Program) (ops:List Oper) (W3:List Value→World→Prop) (l:List Value) (w:World):Prop:=
 dr w fun T B=>Q89 l fun S=>Sk P ops T B W3 ((U8 ops (I8 ops)).drop (Re ops (I8 ops) ops.length)) 0 ((U8 ops (I8 ops)).take (Re ops (I8 ops) ops.length)) S [] []
def Q1C (a b:List Nat):Bool:=a.all (b.contains ·)&&b.all (a.contains ·)
theorem So {a b:List Nat} (h:Q1C a b=true) (i:Nat):a.contains i=b.contains i:=by
 simp only[Q1C,Bool.and_eq_true,List.all_eq_true] at h
 rw[Bool.eq_iff_iff]
 constructor
 ·intro c;exact h.1 i (by simpa using c)
 ·intro c;exact h.2 i (by simpa using c)
abbrev V6:=List (Option (List Nat×List Nat))
def V6.slots (a:V6):List (Option (List Nat)):=a.map (·.map (·.1))
theorem V6.slots_get (a:V6) (k:Nat):a.slots.getD k none=(a.getD k none).map (·.1):=by
 simp only[V6.slots,List.getD_eq_getElem?_getD,List.getElem?_map]
 cases a[k]? <;>rfl
noncomputable def Wq (P:Program) (b:V6) (a:List (Option (List Nat))):Nat→Code→He→List Value→World→Prop
 | _, .skip,Q,l,w=>Q .normal l w
 | _, .label _,Q,l,w=>Q .normal l w
 | _, .exit id,Q,l,w=>Q (.exit id) l w
 | _, .ret,Q,l,w=>Q .ret l w
 | _, .region _ ops false,Q,l,w=>Qb P ops.toList (fun l w=>Q .normal l w) ops.toList l w
 | _, .region _ ops true,Q,l,w=>match Rt ops.toList l.length with
  | true=>match Q81 ops.toList (I8 ops.toList) with
   | true=>sq w fun w=>Qb P ops.toList (fun l w=>Q .normal l w) (U8 ops.toList (I8 ops.toList)) l w
   | false=>X17 P ops.toList (fun l w=>Q .normal l w) l w
  | false=>False
 | k, .seq x y,Q,l,w=>match b.getD k none with
  | none=>Wq P b a (k+1) x (thn (fun l w=>Wq P b a (k+1+Qn x) y Q l w) Q) l w
  | some (f,g)=>match Q1C g (O3 a (k+1) x) with
   | true=>jn w (fun J w=>Wq P b a (k+1) x (thn (fun l' w'=>J (Db l' f) w') Q) l w)
    (fun z d w=>Fq f g z d 0 l fun l=>Wq P b a (k+1+Qn x) y Q l w)
   | false=>False
 | k, .cond c x y,Q,l,w=>X1 (ev l c) (Wq P b a k x Q l w) (Wq P b a (k+Qn x) y Q l w)
 | k, .block id c,Q,l,w=>Wq P b a k c (Q3b id Q) l w
 | k, .loop c,Q,l,w=>match b.getD k none with
  | none=>False
  | some (f,g)=>match Q1C g (O3 a (k+1) c) with
   | true=>lp (Db l f) w (fun e x d w=>Fq f g x d 0 l fun l=>Wq P b a (k+1) c (thn (fun l' w'=>e (Db l' f) w') Q) l w)
   | false=>False
 | _,_,_,_,_=>False
theorem Q0e {next a:List Value→World→Prop} {Q b:He} (d: ∀l w,next l w→a l w) (c: ∀e l w,Q e l w→b e l w): ∀e l w,thn next Q e l w→thn a b e l w:=by
 intro e l w h;cases e<;>first | exact d _ _ h | exact c _ _ _ h
theorem X0F (P:Program) (r:V6) (c:Code): ∀(k:Nat) (Q j:He) (l:List Value) (w:World),(∀e l w,Q e l w→j e l w)→
 Wq P r r.slots k c Q l w→Oy P r.slots k c j l w:=by
 induction c with
 | skip=>intro k Q j l w g h;exact g _ _ _ h
 | label n=>intro k Q j l w g h;exact g _ _ _ h
 | exit id=>intro k Q j l w g h;exact g _ _ _ h
 | ret=>intro k Q j l w g h;exact g _ _ _ h
 | goto n=>intro k Q j l w g h;exact h.elim
 | refuse s=>intro k Q j l w g h;exact h.elim
 | scope c=>intro k Q j l w g h;exact h.elim
 | rangeFunc f p a b=>intro k Q j l w g h;exact h.elim
 | region id ops A=>
  intro k Q j l w g h
  cases A with
  | true=>
   simp only[Wq] at h
   split at h
   ·rename_i C
    intro t
    have v:Z5 P ops.toList (fun l w=>Q .normal l w) ((Region.schedule (P.follows .mixedOrders) ops t).filterMap (ops[·]?)) l w.drew:=by
     split at h
     ·rename_i R
      simp only[X3z,Ii] at h
      exact X2r P ops _ l C R _ t _ h
     ·simp only[X17,X11,Q8k,Q78,Cx] at h
      obtain ⟨T,B,h0,Y,h⟩:=h
      exact X1H P ops T B _ l C Y h (P.follows .mixedOrders) t w.drew h0
    refine Uh P _ _ _ (R8 ops.toList) l _ _ _ ?_ (Ql.refl _ _) (fun l w M _=>g _ _ _ M) v
    intro o D d v
    simp only[List.mem_filterMap] at D
    obtain ⟨i,_,hi⟩:=D
    simp only[R8,List.contains_eq_mem,List.mem_filterMap,decide_eq_true_eq]
    exact ⟨o,by simpa using Array.mem_of_getElem? hi,v⟩
   ·exact h.elim
  | false=>
   simp only[Wq] at h
   rw[Ii] at h
   refine Uh P _ _ _ (R8 ops.toList) l _ _ _ ?_ (Ql.refl _ _) (fun l w M _=>g _ _ _ M) h
   intro o D d v
   simp only[R8,List.contains_eq_mem,List.mem_filterMap,decide_eq_true_eq]
   exact ⟨o,D,v⟩
 | seq x y m q=>
  intro k Q j l w g h
  simp only[Wq,Oy] at h⊢
  rw[V6.slots_get]
  split at h
  ·rename_i u
   simp only[u,Option.map_none]
   exact m _ _ _ _ _ (Q0e (fun l w h=>q _ _ _ _ _ g h) g) h
  ·rename_i X wr u
   simp only[u,Option.map_some]
   split at h
   ·rename_i H
    obtain ⟨J,Z,h2⟩:=Q5y h
    refine Zv J (m _ _ _ _ _ (Q0e (fun l w h=>h) g) Z) fun z d w hz=>?_
    have V:=h2 z d w hz
    rw[Q4j,Cy _ _ _ (So H)] at V
    exact q _ _ _ _ _ g V
   ·exact h.elim
 | cond c x y m q=>
  intro k Q j l w g h
  exact Q4v (m k _ _ _ _ g) (q _ _ _ _ _ g) h
 | block id c U=>
  intro k Q j l w g h
  refine U k _ _ _ _ ?_ h
  intro e l' w' E
  cases e with
  | exit af=>simp only[Q3b] at E⊢;split<;>rename_i O<;>simp only[O,if_true,if_false] at E<;>exact g _ _ _ E
  | _=>exact g _ _ _ E
 | loop c U=>
  intro k Q j l w g h
  simp only[Wq,Oy] at h⊢
  split at h
  ·exact h.elim
  ·rename_i X wr u
   have N:(r.slots.getD k none).getD []=X:=by rw[V6.slots_get,u];rfl
   split at h
   ·rename_i H
    subst N
    refine Q4h (fun L x d w W=>?_) h
    rw[Q4j,Cy _ _ _ (So H)] at W
    exact U _ _ _ _ _ (Q0e (fun l w h=>h) g) W
   ·exact h.elim
def Q2X (P:Program) (t:TypeId) (a:Value) (w:World) (K:Value→Prop):Prop:= ∃v,(do loadVar t (←asAddr a):Sem Value).run P w= .ok v w∧K v
theorem Q2H: ∃f:Program→TypeId→Value→World→(Value→Prop)→Prop,f=Q2X:=⟨_,rfl⟩
noncomputable def Y8:Program→TypeId→Value→World→(Value→Prop)→Prop:=Classical.choose Q2H
theorem Q3n:Y8=Q2X:=Classical.choose_spec Q2H
noncomputable def Q5h (P:Program) (l:List Value) (K:List Value→World→Prop):List ResultVar→List Value→World→Prop
 | [],b,w=>K b.reverse w
 | .tmp t::c,b,w=>Q5h P l K c (get l t::b) w
 | .cell a t::c,b,w=>Y8 P t (get l a) w fun v=>Q5h P l K c (v::b) w
def Q32:List Value→Value
 | [v]=>v
 | vs=> .tuple vs.toArray
noncomputable def results (P:Program) (a:List ResultVar) (K:Value→World→Prop) (l:List Value) (w:World):Prop:=
 Q5h P l (fun vs w=>K (Q32 vs) w) a [] w
noncomputable def Q86 (P:Program) (fn:Func) (K:Value→World→Prop):He
 | .normal,l,w | .ret,l,w=>results P fn.results.toList K l w
 | _,_,_=>False
def X0l (K:Value→World→Prop) (e:Ending) (w:World):Prop:=match e with | .returned v=>K v w | _=>False
theorem Q68 (a:Array Value) (t:Nat):a.getD t undef=get a.toList t:=by
 simp[get,List.getD_eq_getElem?_getD]
theorem Q9X (vs:List Value):(if h:vs.toArray.size=1 then vs.toArray[0] else Value.tuple vs.toArray)=Q32 vs:=by
 match vs with
 | []=>rfl
 | [v]=>rfl
 | _::_::_=>rfl
theorem Q2D (P:Program) (l:List Value) (K:List Value→World→Prop) (f:ResultVar→Sem Value)
 (d: ∀t,f (.tmp t)=Pure.pure (get l t)) (c: ∀a t,f (.cell a t)=(do loadVar t (←asAddr (get l a)))): ∀(e:List ResultVar) (b:List Value) (w:World),Q5h P l K e b w→
 ∃vs,(e.mapM f).run P w= .ok vs w∧K (b.reverse++vs) w
 | [],b,w,h=>⟨[],by simp,by rw[List.append_nil];exact h⟩
 | .tmp t::e,b,w,h=>by
  obtain ⟨vs,i,g⟩:=Q2D P l K f d c e _ w h
  refine ⟨get l t::vs,?_,by simpa using g⟩
  rw[List.mapM_cons,d]
  simp[i]
 | .cell a t::e,b,w,h=>by
  simp only[Q5h,Q3n] at h
  obtain ⟨v,j,h⟩:=h
  obtain ⟨vs,i,g⟩:=Q2D P l K f d c e _ w h
  refine ⟨v::vs,?_,by simpa using g⟩
  rw[List.mapM_cons,c,Sem.run_bind,j]
  simp[i]
def X2K (a:Array Value):ResultVar→Sem Value
 | .tmp t=>Pure.pure (a.getD t undef)
 | .cell b t=>do loadVar t (←asAddr (a.getD b undef))
theorem Q5f (fn:Func) (a:Array Value):Go.results fn a=(do
 let vs←fn.results.mapM (X2K a)
 Pure.pure (if h:vs.size=1 then vs[0] else .tuple vs)):=by
 unfold Go.results
 congr 1
theorem Q2h (P:Program) (fn:Func) (K:Value→World→Prop) (a:Array Value) (w:World) (h:results P fn.results.toList K a.toList w):
 ∃v,(Go.results fn a).run P w= .ok v w∧K v w:=by
 rw[Q5f,Array.mapM_eq_mapM_toList]
 obtain ⟨vs,c,b⟩:=Q2D P a.toList (fun vs w=>K (Q32 vs) w) (X2K a) (fun t=>by rw[←Q68];rfl) (fun d t=>by rw[←Q68];rfl) fn.results.toList [] w h
 refine ⟨Q32 vs,?_,by simpa using b⟩
 rw[Sem.run_bind,Sem.run_map,c]
 simp only[Result.andThen_ok,Sem.run_pure,Q9X]
def Q0b (fn:Func) (a:List Value):List Value:=a++List.replicate (fn.ntmps-a.length) undef
theorem Q5e {P:Program} {f:FuncId} {fn:Func} {c:Code} {b:List Value} {w:World} {K:Value→World→Prop} (d:List (Option (List Nat)))
 (k:P.funcs[f]? =some fn) (j:fn.body=some c) (h:Oy P d 0 c (Q86 P fn K) (Q0b fn b) w):Calls P f b.toArray w (X0l K):=by
 refine calls_of_wp k j (wp_mono (Q9y P d c 0 (Q86 P fn K) _ w rfl ?_) ?_)
 ·have:(b.toArray++Array.replicate (fn.ntmps-b.toArray.size) undef).toList=Q0b fn b:=by simp[Q0b]
  simp only[this];exact h
 ·intro e a w ⟨i,g⟩
  cases e with
  | normal=>exact ⟨i,Q2h P fn K _ _ g⟩
  | ret=>exact ⟨i,Q2h P fn K _ _ g⟩
  | _=>exact g.elim
theorem Wl {P:Program} {f:FuncId} {fn:Func} {a:List Value} {w:World} {K:Value→World→Prop}
 (k:P.funcs[f]? =some fn) (d:fn.body.isSome=true) (j:(fn.name== "runtime.NumGoroutine")=false) (h:Calls P f a.toArray w (X0l K)):Q1 P f a w K:=by
 have g:(callFunc f a.toArray).run P w= .ok (.enter f a.toArray) w:=by
  unfold callFunc
  simp only[Sem.run_bind,run_program,Result.andThen_ok,k,j,Bool.false_eq_true,if_false]
  cases b:fn.body with
  | none=>rw[b] at d;cases d
  | some c=>simp
 unfold Q1
 rw[P9]
 unfold K9
 rw[g]
 refine h.mono fun e w' i=>?_
 cases e<;>exact i
theorem Q3J {P:Program} {f:FuncId} {fn:Func} {a:List Value} {w:World} {K:Value→World→Prop}
 (k:P.funcs[f]? =some fn) (d:fn.body.isSome=true) (j:(fn.name== "runtime.NumGoroutine")=false) (h:Q1 P f a w K):Calls P f a.toArray w (X0l K):=by
 have g:(callFunc f a.toArray).run P w= .ok (.enter f a.toArray) w:=by
  unfold callFunc
  simp only[Sem.run_bind,run_program,Result.andThen_ok,k,j,Bool.false_eq_true,if_false]
  cases b:fn.body with
  | none=>rw[b] at d;cases d
  | some c=>simp
 unfold Q1 at h
 rw[P9] at h
 unfold K9 at h
 rw[g] at h
 refine Calls.mono h fun e w' i=>?_
 cases e<;>exact i
theorem X1E {P:Program} {f:FuncId} {fn:Func} {b:List Value} {w:World} {K:Value→World→Prop} (a:V6)
 (g:P.funcs[f]? =some fn) (e:fn.body.isSome=true) (i:(fn.name== "runtime.NumGoroutine")=false)
 (h:Wq P a a.slots 0 (fn.body.getD .skip) (Q86 P fn K) (Q0b fn b) w):Q1 P f b w K:=by
 refine Wl g e i ?_
 obtain ⟨c,d⟩:=Option.isSome_iff_exists.1 e
 rw[d] at h
 exact Q5e a.slots g d (X0F P a c 0 _ _ _ _ (fun _ _ _ h=>h) h)
theorem Q9 {P:Program} {f:FuncId} {fn:Func} {a:List Value} {w:World} {K:Value→World→Prop} {g:Prop} (b:V6)
 (i:P.funcs[f]? =some fn) (d:fn.body.isSome=true) (e:(fn.name== "runtime.NumGoroutine")=false)
 (c:g=Wq P b b.slots 0 (fn.body.getD .skip) (Q86 P fn K) (Q0b fn a) w) (h:g):Q1 P f a w K:=
 X1E b i d e (c▸h)
theorem Z7 {P:Program} {f:FuncId} {first caps:List Value} {a:List Value} {w:World} {K:Value→World→Prop} (h:Q1 P f (first++a++caps) w K):Z3 P (.func (.func f) first.toArray caps.toArray) a w K:=by
 simpa [Z3,Q1,Deferred.ofValue,invoke,pure_bind,List.append_toArray] using h
end Go.Emb

namespace Go.Proofs.YtjdiakhipmggjaaGreatDoor
noncomputable abbrev P : Program := Tryz.prog
namespace F
abbrev c7 : Nat := 8
abbrev cN : Nat := 12
abbrev ay : Nat := 13
abbrev aH : Nat := 14
abbrev cO : Nat := 15
abbrev c1 : Nat := 16
abbrev c2 : Nat := 17
abbrev a7 : Nat := 18
abbrev aO : Nat := 19
abbrev az : Nat := 20
abbrev bL : Nat := 21
abbrev b6 : Nat := 22
abbrev aP : Nat := 23
abbrev ag : Nat := 24
abbrev bM : Nat := 25
abbrev b7 : Nat := 26
abbrev aA : Nat := 27
abbrev an : Nat := 28
abbrev cv : Nat := 29
abbrev aQ : Nat := 30
abbrev ce : Nat := 31
abbrev c3 : Nat := 32
abbrev aI : Nat := 33
abbrev aR : Nat := 34
abbrev bC : Nat := 35
abbrev a2 : Nat := 36
abbrev aS : Nat := 37
abbrev bl : Nat := 39
abbrev c4 : Nat := 40
abbrev cF : Nat := 41
abbrev cy : Nat := 42
abbrev cz : Nat := 43
abbrev j : Nat := 44
abbrev bd : Nat := 45
abbrev p : Nat := 46
abbrev bm : Nat := 47
abbrev bn : Nat := 48
abbrev b8 : Nat := 49
abbrev aT : Nat := 50
abbrev aF : Nat := 51
abbrev aB : Nat := 52
abbrev o : Nat := 53
abbrev cs : Nat := 54
abbrev bD : Nat := 55
abbrev bN : Nat := 56
abbrev be : Nat := 57
abbrev bo : Nat := 58
abbrev bO : Nat := 59
abbrev bP : Nat := 60
abbrev bQ : Nat := 61
abbrev bR : Nat := 62
abbrev bS : Nat := 63
abbrev b2 : Nat := 64
abbrev aJ : Nat := 65
abbrev aC : Nat := 66
abbrev b9 : Nat := 67
abbrev cS : Nat := 68
abbrev s : Nat := 69
abbrev aU : Nat := 70
abbrev aV : Nat := 71
abbrev aD : Nat := 72
abbrev k : Nat := 73
abbrev ao : Nat := 74
abbrev l : Nat := 75
abbrev bE : Nat := 76
abbrev cG : Nat := 77
abbrev cA : Nat := 78
abbrev a8 : Nat := 79
abbrev ac : Nat := 80
abbrev c8 : Nat := 81
abbrev h : Nat := 82
abbrev ba : Nat := 83
abbrev w : Nat := 84
abbrev c9 : Nat := 85
abbrev c : Nat := 86
abbrev y : Nat := 87
abbrev aG : Nat := 88
abbrev bp : Nat := 89
abbrev aj : Nat := 90
abbrev ak : Nat := 91
abbrev b1 : Nat := 92
abbrev a : Nat := 93
abbrev aK : Nat := 94
abbrev cg : Nat := 95
abbrev bf : Nat := 96
abbrev c5 : Nat := 97
abbrev a9 : Nat := 98
abbrev bq : Nat := 99
abbrev br : Nat := 100
abbrev b : Nat := 101
abbrev bg : Nat := 102
abbrev ah : Nat := 103
abbrev b3 : Nat := 104
abbrev bb : Nat := 105
abbrev a0 : Nat := 106
abbrev a1 : Nat := 107
abbrev aL : Nat := 108
abbrev aN : Nat := 109
abbrev bs : Nat := 110
abbrev x : Nat := 111
abbrev bF : Nat := 113
abbrev z : Nat := 114
abbrev cw : Nat := 115
abbrev bG : Nat := 116
abbrev q : Nat := 117
abbrev e : Nat := 118
abbrev a3 : Nat := 119
abbrev af : Nat := 120
abbrev cn : Nat := 121
abbrev co : Nat := 122
abbrev aa : Nat := 123
abbrev ai : Nat := 124
abbrev aW : Nat := 125
abbrev cp : Nat := 126
abbrev aE : Nat := 127
abbrev cq : Nat := 128
abbrev ap : Nat := 129
abbrev cr : Nat := 130
abbrev aq : Nat := 131
abbrev bB : Nat := 132
abbrev bT : Nat := 133
abbrev al : Nat := 134
abbrev bc : Nat := 135
abbrev ad : Nat := 136
abbrev ae : Nat := 137
abbrev v : Nat := 138
abbrev ca : Nat := 139
abbrev i : Nat := 140
abbrev ch : Nat := 141
abbrev g : Nat := 142
abbrev cP : Nat := 143
abbrev cC : Nat := 144
abbrev aX : Nat := 145
abbrev bH : Nat := 146
abbrev bI : Nat := 147
abbrev bt : Nat := 148
abbrev bu : Nat := 149
abbrev bv : Nat := 150
abbrev aY : Nat := 151
abbrev bh : Nat := 152
abbrev aZ : Nat := 153
abbrev r : Nat := 154
abbrev cx : Nat := 155
abbrev cT : Nat := 156
abbrev ci : Nat := 157
abbrev am : Nat := 158
abbrev cQ : Nat := 159
abbrev d : Nat := 160
abbrev ar : Nat := 161
abbrev cj : Nat := 162
abbrev c6 : Nat := 163
abbrev ck : Nat := 164
abbrev ct : Nat := 165
abbrev f : Nat := 166
abbrev cb : Nat := 167
abbrev bW : Nat := 168
abbrev bX : Nat := 169
abbrev bU : Nat := 170
abbrev bj : Nat := 171
abbrev au : Nat := 172
abbrev bk : Nat := 173
abbrev cH : Nat := 174
abbrev av : Nat := 175
abbrev cU : Nat := 179
abbrev cf : Nat := 180
abbrev u : Nat := 181
abbrev a4 : Nat := 182
abbrev b4 : Nat := 183
abbrev aM : Nat := 184
abbrev bJ : Nat := 185
abbrev bw : Nat := 186
abbrev ax : Nat := 187
abbrev b0 : Nat := 190
abbrev cD : Nat := 191
abbrev cc : Nat := 192
abbrev cl : Nat := 193
abbrev m : Nat := 194
abbrev bY : Nat := 195
abbrev cm : Nat := 196
abbrev cL : Nat := 197
abbrev n : Nat := 198
abbrev bZ : Nat := 199
abbrev ab : Nat := 202
abbrev b5 : Nat := 203
abbrev cd : Nat := 204
abbrev a5 : Nat := 208
abbrev cM : Nat := 209
abbrev cE : Nat := 210
abbrev cI : Nat := 211
abbrev a6 : Nat := 212
abbrev bx : Nat := 215
abbrev cV : Nat := 219
abbrev cu : Nat := 220
abbrev t : Nat := 221
abbrev cR : Nat := 222
abbrev cB : Nat := 224
abbrev bz : Nat := 225
abbrev bA : Nat := 226
abbrev aw : Nat := 227
abbrev bK : Nat := 228
abbrev cJ : Nat := 229
abbrev bi : Nat := 230
abbrev c0 : Nat := 231
abbrev cK : Nat := 232
abbrev bV : Nat := 233
end F
namespace T
abbrev x : Nat := 0
abbrev a0 : Nat := 2
abbrev e : Nat := 3
abbrev u : Nat := 4
abbrev a3 : Nat := 5
abbrev c : Nat := 9
abbrev av : Nat := 12
abbrev an : Nat := 21
abbrev r : Nat := 22
abbrev y : Nat := 23
abbrev i : Nat := 26
abbrev a5 : Nat := 29
abbrev g : Nat := 33
abbrev f : Nat := 37
abbrev aq : Nat := 43
abbrev a1 : Nat := 44
abbrev a : Nat := 46
abbrev n : Nat := 51
abbrev h : Nat := 54
abbrev k : Nat := 65
abbrev o : Nat := 69
abbrev ak : Nat := 74
abbrev l : Nat := 76
abbrev m : Nat := 78
abbrev a2 : Nat := 80
abbrev z : Nat := 82
abbrev j : Nat := 83
abbrev b : Nat := 85
abbrev a4 : Nat := 88
abbrev a7 : Nat := 91
abbrev v : Nat := 94
abbrev q : Nat := 95
abbrev s : Nat := 96
abbrev d : Nat := 98
abbrev p : Nat := 100
abbrev ac : Nat := 120
abbrev ao : Nat := 126
abbrev w : Nat := 136
abbrev a9 : Nat := 139
abbrev ae : Nat := 140
abbrev a8 : Nat := 146
abbrev a6 : Nat := 148
abbrev au : Nat := 154
abbrev aj : Nat := 156
abbrev al : Nat := 157
abbrev aa : Nat := 165
abbrev ag : Nat := 168
abbrev t : Nat := 172
abbrev ax : Nat := 184
abbrev ab : Nat := 190
abbrev ah : Nat := 197
abbrev ai : Nat := 200
abbrev ar : Nat := 203
abbrev am : Nat := 205
abbrev aw : Nat := 220
abbrev ad : Nat := 225
abbrev af : Nat := 226
abbrev ap : Nat := 235
abbrev ay : Nat := 241
end T
namespace G
abbrev b : Nat := 0
abbrev e : Nat := 1
abbrev d : Nat := 2
abbrev a : Nat := 3
abbrev c : Nat := 4
end G
end Go.Proofs.YtjdiakhipmggjaaGreatDoor

set_option maxRecDepth 100000
namespace Go.Proofs.YtjdiakhipmggjaaGreatDoor
open Go.Emb
def Q6c:V6:=[none,none,none,none,some ([1,10],[1,3,10,11,12,13,14,15,16,17,18]),none,none,none,none,none]
def Q0y (w:World) (K:Value→World→Prop):Prop:= H1 P T.b [(0,(.string ⟨#[79,98,106,101,99,116]⟩))] w fun j w=>H1 P T.o [(0,(.string ⟨#[119,104,97,116]⟩)),(1,(.string ⟨#[116,101,120,116]⟩))] w fun n w=>buildSlice P T.k 1 [(0,n)] w fun m w=>H1 P T.b [(0,(.string ⟨#[70,97,117,108,116]⟩)),(1,(.string ⟨#[79,98,106,101,99,116]⟩)),(6,m)] w fun l w=>buildSlice P T.i 2 [(0,j),(1,l)] w fun k w=>Q2 P T.ao (.pointer (some ⟨G.b,0,none⟩)) w fun i w=>lp (α:=Value×Value) (k,(.int .i64 0)) w fun a b o w=>Q3 P .lss T.e (.tmp 10) (.const (.int .i64 6)) b.2 (.int .i64 6) w fun e w=>X1 e (S9 P T.ao i b.2 w fun d w=>H1 P T.b [(0,d),(1,(.string ⟨#[70,97,117,108,116]⟩)),(5,(.bool true))] w fun f w=>buildSlice P T.i 1 [(0,f)] w fun c w=>X3 P .append [T.i,T.i] T.i [false,false] [b.1,c] w fun h w=>Q3 P .add T.e (.tmp 10) (.const (.int .i64 1)) b.2 (.int .i64 1) w fun g w=>a (h,g) w) (K b.1 w)
theorem Q6f {w:World} {K:Value→World→Prop} (h:Q0y w K):Q1 P F.cF [] w K:=Q9 Q6c Tryz.func41 rfl (by decide) (by kernel_rfl) h
def Q5g:V6:=[none,none,none,some ([8],[2,4,8,9,10,11,12,13,14,15,16,17,18,19,20,21,22,23,24,25,26,27,28,29,30,31,32,33]),none,none,none,none,none,none,none]
def Q0D (a0:Value) (w:World) (K:Value→World→Prop):Prop:= box P T.b a0 w fun b w=>fieldAddr P T.b b 7 w fun Z w=>Q2 P T.j Z w fun W w=>X3 P .len [T.j] T.e [false] [W] w fun Y w=>lp (α:=Value) (.int .i64 0) w fun h A d_ w=>Q3 P .lss T.e (.tmp 8) (.tmp 7) A Y w fun X w=>X1 X (indexAddr P T.j W A w fun N w=>Q2 P T.d N w fun B w=>V9 P T.d w fun a w=>Y0 P T.d a B w fun _u w=>fieldAddr P T.d a 1 w fun M w=>Q2 P T.h M w fun O w=>X3 P .len [T.h] T.e [false] [O] w fun u w=>Q3 P .gtr T.e (.tmp 14) (.const (.int .i64 32)) u (.int .i64 32) w fun e w=>Q0 e false w (fieldAddr P T.d a 6) fun p w=>Q0 e false w (Q2 P T.s p) fun C w=>Q0 e false w (X3 P .len [T.s] T.e [false] [C]) fun v w=>Q0 e false w (Q3 P .gtr T.e (.tmp 19) (.const (.int .i64 32)) v (.int .i64 32)) fun j w=>pick P e (.bool true) j w fun c w=>Q0 c false w (fieldAddr P T.d a 5) fun L w=>Q0 c false w (Q2 P T.q L) fun q w=>Q0 c false w (X3 P .len [T.q] T.e [false] [q]) fun m w=>Q0 c false w (Q3 P .gtr T.e (.tmp 25) (.const (.int .i64 200)) m (.int .i64 200)) fun n w=>pick P c (.bool true) n w fun g w=>Q0 g false w (fieldAddr P T.d a 4) fun H w=>Q0 g false w (Q2 P T.e H) fun r w=>Q0 g false w (Q3 P .gtr T.e (.tmp 30) (.const (.int .i64 64)) r (.int .i64 64)) fun U w=>pick P g (.bool true) U w fun y w=>X1 y (K (.bool true) w) (Q3 P .add T.e (.tmp 8) (.const (.int .i64 1)) A (.int .i64 1) w fun D w=>h D w)) (fieldAddr P T.b b 2 w fun E w=>Q2 P T.h E w fun l w=>X3 P .len [T.h] T.e [false] [l] w fun R w=>Q3 P .gtr T.e (.tmp 36) (.const (.int .i64 32)) R (.int .i64 32) w fun d w=>Q0 d false w (fieldAddr P T.b b 6) fun V w=>Q0 d false w (Q2 P T.k V) fun z w=>Q0 d false w (X3 P .len [T.k] T.e [false] [z]) fun J w=>Q0 d false w (Q3 P .gtr T.e (.tmp 41) (.const (.int .i64 32)) J (.int .i64 32)) fun i w=>pick P d (.bool true) i w fun f w=>Q0 f false w (fieldAddr P T.b b 7) fun o w=>Q0 f false w (Q2 P T.j o) fun s w=>Q0 f false w (X3 P .len [T.j] T.e [false] [s]) fun Q w=>Q0 f false w (Q3 P .gtr T.e (.tmp 47) (.const (.int .i64 32)) Q (.int .i64 32)) fun t w=>pick P f (.bool true) t w fun k w=>K k w)
theorem Q5t {a:Value} {w:World} {K:Value→World→Prop} (h:Q0D a w K):Q1 P F.cG [a] w K:=Q9 Q5g Tryz.func77 rfl (by decide) (by kernel_rfl) h
def Xt:V6:=[none,none,none,some ([8],[4,5,8,9,10,11,12,13,14,15,16,17,18]),none,none,none,none,none,none,none]
def B1 (g j:Value) (w:World) (K:Value→World→Prop):Prop:= X3 P .len [T.j] T.e [false] [g] w fun i w=>lp (α:=Value) (.int .i64 0) w fun a b k w=>Q3 P .lss T.e (.tmp 8) (.tmp 7) b i w fun h w=>X1 h (indexAddr P T.j g b w fun d w=>Q2 P T.d d w fun f w=>Z3 P j [f] w fun c w=>X1 c (K b w) (Q3 P .add T.e (.tmp 8) (.const (.int .i64 1)) b (.int .i64 1) w fun e w=>a e w)) (K (.int .i64 (-1)) w)
theorem Xr {a b:Value} {w:World} {K:Value→World→Prop} (h:B1 a b w K):Q1 P F.g [a,b] w K:=Q9 Xt Tryz.func142 rfl (by decide) (by kernel_rfl) h
def S6 (c d:Value) (w:World) (K:Value→World→Prop):Prop:= Q1 P F.g [c,d] w fun b w=>Q3 P .geq T.e (.tmp 7) (.const (.int .i64 0)) b (.int .i64 0) w fun a w=>K a w
theorem Qi {a b:Value} {w:World} {K:Value→World→Prop} (h:S6 a b w K):Q1 P F.a [a,b] w K:=Q9 (List.replicate 2 none) Tryz.func93 rfl (by decide) (by kernel_rfl) h
def Mn:V6:=[none,none,none,some ([8],[4,5,8,9,10,11,12,13,14,15,16,17,18]),none,none,none,none,none,none,none]
def Qj (g j:Value) (w:World) (K:Value→World→Prop):Prop:= X3 P .len [T.h] T.e [false] [g] w fun i w=>lp (α:=Value) (.int .i64 0) w fun a b k w=>Q3 P .lss T.e (.tmp 8) (.tmp 7) b i w fun h w=>X1 h (indexAddr P T.h g b w fun d w=>Q2 P T.c d w fun f w=>Q3 P .eql T.c (.tmp 11) (.tmp 15) j f w fun c w=>X1 c (K b w) (Q3 P .add T.e (.tmp 8) (.const (.int .i64 1)) b (.int .i64 1) w fun e w=>a e w)) (K (.int .i64 (-1)) w)
theorem Mo {a b:Value} {w:World} {K:Value→World→Prop} (h:Qj a b w K):Q1 P F.ar [a,b] w K:=Q9 Mn Tryz.func161 rfl (by decide) (by kernel_rfl) h
def T5 (c d:Value) (w:World) (K:Value→World→Prop):Prop:= Q1 P F.ar [c,d] w fun b w=>Q3 P .geq T.e (.tmp 7) (.const (.int .i64 0)) b (.int .i64 0) w fun a w=>K a w
theorem Vr {a b:Value} {w:World} {K:Value→World→Prop} (h:T5 a b w K):Q1 P F.af [a,b] w K:=Q9 (List.replicate 2 none) Tryz.func120 rfl (by decide) (by kernel_rfl) h
def Cv (c:Value) (w:World) (K:Value→World→Prop):Prop:= box P T.d c w fun a w=>fieldAddr P T.d a 3 w fun d w=>Q2 P T.u d w fun b w=>K b w
theorem Q3l {a:Value} {w:World} {K:Value→World→Prop} (h:Cv a w K):Q1 P F.cn [a] w K:=Q9 (List.replicate 2 none) Tryz.func121 rfl (by decide) (by kernel_rfl) h
def Bf (d:Value) (w:World) (K:Value→World→Prop):Prop:= box P T.d d w fun a w=>fieldAddr P T.d a 3 w fun e w=>Q2 P T.u e w fun b w=>J6 P .not b w fun c w=>K c w
theorem Q30 {a:Value} {w:World} {K:Value→World→Prop} (h:Bf a w K):Q1 P F.co [a] w K:=Q9 (List.replicate 2 none) Tryz.func122 rfl (by decide) (by kernel_rfl) h
def Ve:V6:=[none,none,none,some ([8],[4,5,8,9,10,11,12,13,14,15,16,17,18]),none,none,none,none,none,none,none]
def P8 (g j:Value) (w:World) (K:Value→World→Prop):Prop:= X3 P .len [T.h] T.e [false] [g] w fun i w=>lp (α:=Value) (.int .i64 0) w fun a b k w=>Q3 P .lss T.e (.tmp 8) (.tmp 7) b i w fun h w=>X1 h (indexAddr P T.h g b w fun d w=>Q2 P T.c d w fun f w=>Z3 P j [f] w fun c w=>X1 c (K b w) (Q3 P .add T.e (.tmp 8) (.const (.int .i64 1)) b (.int .i64 1) w fun e w=>a e w)) (K (.int .i64 (-1)) w)
theorem Vd {a b:Value} {w:World} {K:Value→World→Prop} (h:P8 a b w K):Q1 P F.v [a,b] w K:=Q9 Ve Tryz.func138 rfl (by decide) (by kernel_rfl) h
def I7 (c d:Value) (w:World) (K:Value→World→Prop):Prop:= Q1 P F.v [c,d] w fun b w=>Q3 P .geq T.e (.tmp 7) (.const (.int .i64 0)) b (.int .i64 0) w fun a w=>K a w
theorem Jf {a b:Value} {w:World} {K:Value→World→Prop} (h:I7 a b w K):Q1 P F.c [a,b] w K:=Q9 (List.replicate 2 none) Tryz.func86 rfl (by decide) (by kernel_rfl) h
def Vu (d e:Value) (w:World) (K:Value→World→Prop):Prop:= Q2 P T.a4 e w fun a w=>Z3 P a [d] w fun c w=>J6 P .not c w fun b w=>K b w
theorem Bu {a b:Value} {w:World} {K:Value→World→Prop} (h:Vu a b w K):Q1 P F.cj [a,b] w K:=Q9 (List.replicate 2 none) Tryz.func162 rfl (by decide) (by kernel_rfl) h
def Ml (e f:Value) (w:World) (K:Value→World→Prop):Prop:= box P T.a4 f w fun a w=>E8 P (.func F.cj) [] [a] w fun d w=>Q1 P F.c [e,d] w fun c w=>J6 P .not c w fun b w=>K b w
theorem Pf {a b:Value} {w:World} {K:Value→World→Prop} (h:Ml a b w K):Q1 P F.aa [a,b] w K:=Q9 (List.replicate 2 none) Tryz.func123 rfl (by decide) (by kernel_rfl) h
def Q8q:V6:=[none,none,none,some ([],[4,6,9,10,11,12,13,14,15]),none,none,none,none,none,none]
def Q3t (h i:Value) (w:World) (K:Value→World→Prop):Prop:= rng P T.c h w fun g w=>lp (α:=Unit) () w fun a k j w=>W3 P g true T.x w fun f w=>ext P f 0 w fun b w=>X1 b (ext P f 2 w fun d w=>Z3 P i [d] w fun c w=>J6 P .not c w fun e w=>X1 e (K (.bool false) w) (a () w)) (K (.bool true) w)
theorem Q7L {a b:Value} {w:World} {K:Value→World→Prop} (h:Q3t a b w K):Q1 P F.cD [a,b] w K:=Q9 Q8q Tryz.func191 rfl (by decide) (by kernel_rfl) h
def Q0s (b:Value) (w:World) (K:Value→World→Prop):Prop:= Q3 P .geq T.an (.tmp 3) (.const (.int .i32 65)) b (.int .i32 65) w fun a w=>Q0 a true w (fun w J=>J b w) fun e w=>Q0 a true w (Q3 P .leq T.an (.tmp 6) (.const (.int .i32 90)) e (.int .i32 90)) fun d w=>pick P a d (.bool false) w fun c w=>K c w
theorem Q5Q {a:Value} {w:World} {K:Value→World→Prop} (h:Q0s a w K):Q1 P F.ck [a] w K:=Q9 (List.replicate 2 none) Tryz.func164 rfl (by decide) (by kernel_rfl) h
def Q17 (b:Value) (w:World) (K:Value→World→Prop):Prop:= Q3 P .geq T.an (.tmp 3) (.const (.int .i32 97)) b (.int .i32 97) w fun a w=>Q0 a true w (fun w J=>J b w) fun e w=>Q0 a true w (Q3 P .leq T.an (.tmp 6) (.const (.int .i32 122)) e (.int .i32 122)) fun d w=>pick P a d (.bool false) w fun c w=>K c w
theorem Q6g {a:Value} {w:World} {K:Value→World→Prop} (h:Q17 a w K):Q1 P F.cl [a] w K:=Q9 (List.replicate 2 none) Tryz.func193 rfl (by decide) (by kernel_rfl) h
def Tg (c:Value) (w:World) (K:Value→World→Prop):Prop:= Q1 P F.ck [c] w fun e w=>Q0 e false w (fun w J=>J c w) fun l w=>Q0 e false w (Q1 P F.cl [l]) fun k w=>pick P e (.bool true) k w fun b w=>Q0 b false w (fun w J=>J c w) fun f w=>Q0 b false w (Q3 P .geq T.an (.tmp 10) (.const (.int .i32 48)) f (.int .i32 48)) fun i w=>Q0 b false w (fun w J=>J i w) fun a w=>Q0 a true w (fun w J=>J c w) fun h w=>Q0 a true w (Q3 P .leq T.an (.tmp 13) (.const (.int .i32 57)) h (.int .i32 57)) fun g w=>Q0 b false w (pick P a g (.bool false)) fun j w=>pick P b (.bool true) j w fun d w=>K d w
theorem Q4M {a:Value} {w:World} {K:Value→World→Prop} (h:Tg a w K):Q1 P F.cc [a] w K:=Q9 (List.replicate 2 none) Tryz.func192 rfl (by decide) (by kernel_rfl) h
def Q2d (c:Value) (w:World) (K:Value→World→Prop):Prop:= Q3 P .eql T.c (.tmp 3) (.const (.string ⟨#[]⟩)) c (.string ⟨#[]⟩) w fun d w=>Q0 d false w (fun w J=>J c w) fun p w=>Q0 d false w (X3 P .len [T.c] T.e [false] [p]) fun o w=>Q0 d false w (Q3 P .gtr T.e (.tmp 7) (.const (.int .i64 32)) o (.int .i64 32)) fun n w=>pick P d (.bool true) n w fun b w=>Q0 b false w (fun w J=>J c w) fun j w=>Q0 b false w (S9 P T.c j (.int .i64 0)) fun l w=>Q0 b false w (Q3 P .geq T.a3 (.tmp 12) (.const (.int .u8 48)) l (.int .u8 48)) fun m w=>Q0 b false w (fun w J=>J m w) fun a w=>Q0 a true w (fun w J=>J c w) fun g w=>Q0 a true w (S9 P T.c g (.int .i64 0)) fun f w=>Q0 a true w (Q3 P .leq T.a3 (.tmp 16) (.const (.int .u8 57)) f (.int .u8 57)) fun h w=>Q0 b false w (pick P a h (.bool false)) fun k w=>pick P b (.bool true) k w fun i w=>X1 i (K (.bool false) w) (Q1 P F.cD [c,(.func (.func F.cc) #[] #[])] w fun e w=>K e w)
theorem Q6Z {a:Value} {w:World} {K:Value→World→Prop} (h:Q2d a w K):Q1 P F.c6 [a] w K:=Q9 (List.replicate 5 none) Tryz.func163 rfl (by decide) (by kernel_rfl) h
def Q18 (c:Value) (w:World) (K:Value→World→Prop):Prop:= Q1 P F.c6 [c] w fun a w=>Q0 a true w (fun w J=>J c w) fun g w=>Q0 a true w (S9 P T.c g (.int .i64 0)) fun f w=>Q0 a true w (conv P T.a3 T.an f) fun e w=>Q0 a true w (Q1 P F.ck [e]) fun d w=>pick P a d (.bool false) w fun b w=>K b w
theorem Q64 {a:Value} {w:World} {K:Value→World→Prop} (h:Q18 a w K):Q1 P F.ai [a] w K:=Q9 (List.replicate 2 none) Tryz.func124 rfl (by decide) (by kernel_rfl) h
def Lk (o m n:Value) (w:World) (K:Value→World→Prop):Prop:= dr w fun a b=>Q6 a (fun d=> ∀w,b w→Q2 P T.ac m w (dk a d w)) fun d=>Q6 a (fun g=> ∀c w,b w→d c w→Z3 P c [o] w (dk a g w)) fun g=>Q6 a (fun e=> ∀w,b w→Q2 P T.ac m w (dk a e w)) fun e=>Q6 a (fun i=> ∀w,b w→Q2 P T.c n w (dk a i w)) fun i=>∀c l k j w,b w→d c w→g l w→e k w→i j w→ Z3 P k [j] w fun f w=>Q3 P .eql T.c (.tmp 7) (.tmp 10) l f w fun h w=>K h w
theorem Fl {b c a:Value} {w:World} {K:Value→World→Prop} (h:Lk b c a w K):Q1 P F.ct [b,c,a] w K:=Q9 (List.replicate 2 none) Tryz.func165 rfl (by decide) (by kernel_rfl) h
def Aw:V6:=[none,none,none,some ([9],[4,5,6,9,10,11,12,13,14,15,16,17,18,19]),none,none,none,none,none,none,none]
def Dd (j n:Value) (w:World) (K:Value→World→Prop):Prop:= box P T.ac n w fun a w=>X3 P .len [T.h] T.e [false] [j] w fun m w=>lp (α:=Value) (.int .i64 0) w fun c d o w=>Q3 P .lss T.e (.tmp 9) (.tmp 8) d m w fun g w=>X1 g (indexAddr P T.h j d w fun f w=>Q2 P T.c f w fun h w=>V9 P T.c w fun b w=>Y0 P T.c b h w fun _u w=>R6 P T.h j none (some d) none w fun e w=>E8 P (.func F.ct) [] [a,b] w fun l w=>Q1 P F.c [e,l] w fun k w=>X1 k (K (.bool false) w) (Q3 P .add T.e (.tmp 9) (.const (.int .i64 1)) d (.int .i64 1) w fun i w=>c i w)) (K (.bool true) w)
theorem Ae {a b:Value} {w:World} {K:Value→World→Prop} (h:Dd a b w K):Q1 P F.aW [a,b] w K:=Q9 Aw Tryz.func125 rfl (by decide) (by kernel_rfl) h
def Q2L (a:Value) (w:World) (K:Value→World→Prop):Prop:= K a w
theorem Q3m {a:Value} {w:World} {K:Value→World→Prop} (h:Q2L a w K):Q1 P F.cp [a] w K:=Q9 (List.replicate 2 none) Tryz.func126 rfl (by decide) (by kernel_rfl) h
def Yn:V6:=[none,none,none,some ([8],[4,5,8,9,10,11,12,13,14,15,16,17,18]),none,none,none,none,none,none,none]
def F0 (g j:Value) (w:World) (K:Value→World→Prop):Prop:= X3 P .len [T.k] T.e [false] [g] w fun i w=>lp (α:=Value) (.int .i64 0) w fun a b k w=>Q3 P .lss T.e (.tmp 8) (.tmp 7) b i w fun h w=>X1 h (indexAddr P T.k g b w fun d w=>Q2 P T.o d w fun f w=>Z3 P j [f] w fun c w=>X1 c (K b w) (Q3 P .add T.e (.tmp 8) (.const (.int .i64 1)) b (.int .i64 1) w fun e w=>a e w)) (K (.int .i64 (-1)) w)
theorem Yi {a b:Value} {w:World} {K:Value→World→Prop} (h:F0 a b w K):Q1 P F.i [a,b] w K:=Q9 Yn Tryz.func140 rfl (by decide) (by kernel_rfl) h
def C6 (c d:Value) (w:World) (K:Value→World→Prop):Prop:= Q1 P F.i [c,d] w fun b w=>Q3 P .geq T.e (.tmp 7) (.const (.int .i64 0)) b (.int .i64 0) w fun a w=>K a w
theorem Xc {a b:Value} {w:World} {K:Value→World→Prop} (h:C6 a b w K):Q1 P F.f [a,b] w K:=Q9 (List.replicate 2 none) Tryz.func166 rfl (by decide) (by kernel_rfl) h
def Ug (r p q:Value) (w:World) (K:Value→World→Prop):Prop:= box P T.o r w fun b w=>dr w fun a c=>Q6 a (fun f=> ∀w,c w→Q2 P T.aa p w (dk a f w)) fun f=>Q6 a (fun g=> ∀w,c w→Q2 P T.o b w (dk a g w)) fun g=>Q6 a (fun i=> ∀e d w,c w→f e w→g d w→Z3 P e [d] w (dk a i w)) fun i=>Q6 a (fun h=> ∀w,c w→Q2 P T.aa p w (dk a h w)) fun h=>Q6 a (fun k=> ∀w,c w→Q2 P T.o q w (dk a k w)) fun k=>∀e d o n m w,c w→f e w→g d w→i o w→h n w→k m w→ Z3 P n [m] w fun l w=>Q3 P .eql T.c (.tmp 7) (.tmp 10) o l w fun j w=>K j w
theorem Su {b c a:Value} {w:World} {K:Value→World→Prop} (h:Ug b c a w K):Q1 P F.cb [b,c,a] w K:=Q9 (List.replicate 2 none) Tryz.func167 rfl (by decide) (by kernel_rfl) h
def Bq:V6:=[none,none,none,some ([9],[4,5,6,9,10,11,12,13,14,15,16,17,18,19]),none,none,none,none,none,none,none]
def Vi (j n:Value) (w:World) (K:Value→World→Prop):Prop:= box P T.aa n w fun a w=>X3 P .len [T.k] T.e [false] [j] w fun m w=>lp (α:=Value) (.int .i64 0) w fun c d o w=>Q3 P .lss T.e (.tmp 9) (.tmp 8) d m w fun g w=>X1 g (indexAddr P T.k j d w fun f w=>Q2 P T.o f w fun h w=>V9 P T.o w fun b w=>Y0 P T.o b h w fun _u w=>R6 P T.k j none (some d) none w fun e w=>E8 P (.func F.cb) [] [a,b] w fun l w=>Q1 P F.f [e,l] w fun k w=>X1 k (K (.bool false) w) (Q3 P .add T.e (.tmp 9) (.const (.int .i64 1)) d (.int .i64 1) w fun i w=>c i w)) (K (.bool true) w)
theorem Fb {a b:Value} {w:World} {K:Value→World→Prop} (h:Vi a b w K):Q1 P F.aE [a,b] w K:=Q9 Bq Tryz.func127 rfl (by decide) (by kernel_rfl) h
def Cw (c:Value) (w:World) (K:Value→World→Prop):Prop:= box P T.o c w fun a w=>fieldAddr P T.o a 0 w fun d w=>Q2 P T.c d w fun b w=>K b w
theorem Q3d {a:Value} {w:World} {K:Value→World→Prop} (h:Cw a w K):Q1 P F.cq [a] w K:=Q9 (List.replicate 2 none) Tryz.func128 rfl (by decide) (by kernel_rfl) h
def Zz (r p q:Value) (w:World) (K:Value→World→Prop):Prop:= box P T.d r w fun b w=>dr w fun a c=>Q6 a (fun f=> ∀w,c w→Q2 P T.a9 p w (dk a f w)) fun f=>Q6 a (fun g=> ∀w,c w→Q2 P T.d b w (dk a g w)) fun g=>Q6 a (fun i=> ∀e d w,c w→f e w→g d w→Z3 P e [d] w (dk a i w)) fun i=>Q6 a (fun h=> ∀w,c w→Q2 P T.a9 p w (dk a h w)) fun h=>Q6 a (fun k=> ∀w,c w→Q2 P T.d q w (dk a k w)) fun k=>∀e d o n m w,c w→f e w→g d w→i o w→h n w→k m w→ Z3 P n [m] w fun l w=>Q3 P .eql T.c (.tmp 7) (.tmp 10) o l w fun j w=>K j w
theorem Hz {b c a:Value} {w:World} {K:Value→World→Prop} (h:Zz b c a w K):Q1 P F.bW [b,c,a] w K:=Q9 (List.replicate 2 none) Tryz.func168 rfl (by decide) (by kernel_rfl) h
def Cp:V6:=[none,none,none,some ([9],[4,5,6,9,10,11,12,13,14,15,16,17,18,19]),none,none,none,none,none,none,none]
def Uw (j n:Value) (w:World) (K:Value→World→Prop):Prop:= box P T.a9 n w fun a w=>X3 P .len [T.j] T.e [false] [j] w fun m w=>lp (α:=Value) (.int .i64 0) w fun c d o w=>Q3 P .lss T.e (.tmp 9) (.tmp 8) d m w fun g w=>X1 g (indexAddr P T.j j d w fun f w=>Q2 P T.d f w fun h w=>V9 P T.d w fun b w=>Y0 P T.d b h w fun _u w=>R6 P T.j j none (some d) none w fun e w=>E8 P (.func F.bW) [] [a,b] w fun l w=>Q1 P F.a [e,l] w fun k w=>X1 k (K (.bool false) w) (Q3 P .add T.e (.tmp 9) (.const (.int .i64 1)) d (.int .i64 1) w fun i w=>c i w)) (K (.bool true) w)
theorem Ch {a b:Value} {w:World} {K:Value→World→Prop} (h:Uw a b w K):Q1 P F.ap [a,b] w K:=Q9 Cp Tryz.func129 rfl (by decide) (by kernel_rfl) h
def Cs (c:Value) (w:World) (K:Value→World→Prop):Prop:= box P T.d c w fun a w=>fieldAddr P T.d a 0 w fun d w=>Q2 P T.c d w fun b w=>K b w
theorem Q2T {a:Value} {w:World} {K:Value→World→Prop} (h:Cs a w K):Q1 P F.cr [a] w K:=Q9 (List.replicate 2 none) Tryz.func130 rfl (by decide) (by kernel_rfl) h
def Jc (f g:Value) (w:World) (K:Value→World→Prop):Prop:= box P T.o f w fun a w=>Q2 P T.ag g w fun b w=>Q2 P T.o a w fun e w=>Z3 P b [e] w fun d w=>J6 P .not d w fun c w=>K c w
theorem Rb {a b:Value} {w:World} {K:Value→World→Prop} (h:Jc a b w K):Q1 P F.bX [a,b] w K:=Q9 (List.replicate 2 none) Tryz.func169 rfl (by decide) (by kernel_rfl) h
def Vb (e f:Value) (w:World) (K:Value→World→Prop):Prop:= box P T.ag f w fun a w=>E8 P (.func F.bX) [] [a] w fun d w=>Q1 P F.f [e,d] w fun c w=>J6 P .not c w fun b w=>K b w
theorem Cm {a b:Value} {w:World} {K:Value→World→Prop} (h:Vb a b w K):Q1 P F.aq [a,b] w K:=Q9 (List.replicate 2 none) Tryz.func131 rfl (by decide) (by kernel_rfl) h
def Q0E (f:Value) (w:World) (K:Value→World→Prop):Prop:= Q3 P .eql T.c (.tmp 3) (.const (.string ⟨#[105,110,116]⟩)) f (.string ⟨#[105,110,116]⟩) w fun b w=>Q0 b false w (fun w J=>J f w) fun h w=>Q0 b false w (Q3 P .eql T.c (.tmp 6) (.const (.string ⟨#[98,111,111,108]⟩)) h (.string ⟨#[98,111,111,108]⟩)) fun g w=>pick P b (.bool true) g w fun c w=>Q0 c false w (fun w J=>J f w) fun d w=>Q0 c false w (Q3 P .eql T.c (.tmp 10) (.const (.string ⟨#[116,101,120,116]⟩)) d (.string ⟨#[116,101,120,116]⟩)) fun e w=>pick P c (.bool true) e w fun a w=>K a w
theorem Q5X {a:Value} {w:World} {K:Value→World→Prop} (h:Q0E a w K):Q1 P F.aN [a] w K:=Q9 (List.replicate 2 none) Tryz.func109 rfl (by decide) (by kernel_rfl) h
def Ux (i l:Value) (w:World) (K:Value→World→Prop):Prop:= X3 P .len [T.c] T.e [false] [i] w fun o w=>X3 P .len [T.c] T.e [false] [l] w fun n w=>Q3 P .geq T.e (.tmp 6) (.tmp 8) o n w fun a w=>Q0 a true w (fun w J=>J i w) fun h w=>Q0 a true w (fun w J=>J i w) fun c w=>Q0 a true w (X3 P .len [T.c] T.e [false] [c]) fun e w=>Q0 a true w (fun w J=>J l w) fun d w=>Q0 a true w (X3 P .len [T.c] T.e [false] [d]) fun j w=>Q0 a true w (Q3 P .sub T.e (.tmp 13) (.tmp 15) e j) fun b w=>Q0 a true w (R6 P T.c h (some b) none none) fun m w=>Q0 a true w (fun w J=>J l w) fun k w=>Q0 a true w (Q3 P .eql T.c (.tmp 17) (.tmp 18) m k) fun f w=>pick P a f (.bool false) w fun g w=>K g w
theorem Cn {a b:Value} {w:World} {K:Value→World→Prop} (h:Ux a b w K):Q1 P F.ab [a,b] w K:=Q9 (List.replicate 2 none) Tryz.func202 rfl (by decide) (by kernel_rfl) h
def Oz (b c:Value) (w:World) (K:Value→World→Prop):Prop:= Q1 P F.ab [b,c] w fun a w=>K a w
theorem Ah {a b:Value} {w:World} {K:Value→World→Prop} (h:Oz a b w K):Q1 P F.bJ [a,b] w K:=Q9 (List.replicate 2 none) Tryz.func185 rfl (by decide) (by kernel_rfl) h
def Ue (a f:Value) (w:World) (K:Value→World→Prop):Prop:= Q1 P F.ab [a,f] w fun g w=>X1 g (X3 P .len [T.c] T.e [false] [a] w fun c w=>X3 P .len [T.c] T.e [false] [f] w fun b w=>Q3 P .sub T.e (.tmp 10) (.tmp 12) c b w fun e w=>R6 P T.c a none (some e) none w fun d w=>K d w) (K a w)
theorem Cb {a b:Value} {w:World} {K:Value→World→Prop} (h:Ue a b w K):Q1 P F.cd [a,b] w K:=Q9 (List.replicate 5 none) Tryz.func204 rfl (by decide) (by kernel_rfl) h
def Mt (b c:Value) (w:World) (K:Value→World→Prop):Prop:= Q1 P F.cd [b,c] w fun a w=>K a w
theorem Pt {a b:Value} {w:World} {K:Value→World→Prop} (h:Mt a b w K):Q1 P F.bw [a,b] w K:=Q9 (List.replicate 2 none) Tryz.func186 rfl (by decide) (by kernel_rfl) h
def Q6U:V6:=[none,none,none,some ([0,4],[0,4,5,6,7,8,9,10]),none,none,none]
def Q2k (f:Value) (w:World) (K:Value→World→Prop):Prop:= lp (α:=Value×Value) (f,(.int .i64 0)) w fun a b g w=>Q1 P F.bJ [b.1,(.string ⟨#[91,93]⟩)] w fun e w=>X1 e (Q1 P F.bw [b.1,(.string ⟨#[91,93]⟩)] w fun d w=>Q3 P .add T.e (.tmp 9) (.const (.int .i64 1)) b.2 (.int .i64 1) w fun c w=>a (d,c) w) (K (.tuple #[b.1,b.2]) w)
theorem Q6M {a:Value} {w:World} {K:Value→World→Prop} (h:Q2k a w K):Q1 P F.cx [a] w K:=Q9 Q6U Tryz.func155 rfl (by decide) (by kernel_rfl) h
def Q10 (l:Value) (w:World) (K:Value→World→Prop):Prop:= Q1 P F.cx [l] w fun j w=>ext P j 0 w fun i w=>ext P j 1 w fun k w=>Q3 P .leq T.e (.tmp 10) (.const (.int .i64 3)) k (.int .i64 3) w fun a w=>Q0 a true w (fun w J=>J i w) fun e w=>Q0 a true w (Q1 P F.aN [e]) fun d w=>Q0 a true w (fun w J=>J d w) fun b w=>Q0 b false w (fun w J=>J i w) fun c w=>Q0 b false w (Q1 P F.ai [c]) fun h w=>Q0 a true w (pick P b (.bool true) h) fun g w=>pick P a g (.bool false) w fun f w=>K f w
theorem Q5E {a:Value} {w:World} {K:Value→World→Prop} (h:Q10 a w K):Q1 P F.z [a] w K:=Q9 (List.replicate 3 none) Tryz.func114 rfl (by decide) (by kernel_rfl) h
def Fp (b:Value) (w:World) (K:Value→World→Prop):Prop:= Q1 P F.c6 [b] w fun a w=>Q0 a true w (fun w J=>J b w) fun f w=>Q0 a true w (Q1 P F.ai [f]) fun e w=>Q0 a true w (J6 P .not e) fun d w=>pick P a d (.bool false) w fun c w=>K c w
theorem Q3M {a:Value} {w:World} {K:Value→World→Prop} (h:Fp a w K):Q1 P F.bT [a] w K:=Q9 (List.replicate 2 none) Tryz.func133 rfl (by decide) (by kernel_rfl) h
def Ct (h:Value) (w:World) (K:Value→World→Prop):Prop:= box P T.o h w fun a w=>fieldAddr P T.o a 0 w fun i w=>Q2 P T.c i w fun e w=>Q1 P F.bT [e] w fun b w=>Q0 b true w (fieldAddr P T.o a 1) fun g w=>Q0 b true w (Q2 P T.c g) fun f w=>Q0 b true w (Q1 P F.z [f]) fun d w=>pick P b d (.bool false) w fun c w=>K c w
theorem Q34 {a:Value} {w:World} {K:Value→World→Prop} (h:Ct a w K):Q1 P F.bB [a] w K:=Q9 (List.replicate 2 none) Tryz.func132 rfl (by decide) (by kernel_rfl) h
def Za (f g:Value) (w:World) (K:Value→World→Prop):Prop:= box P T.d f w fun a w=>Q2 P T.ae g w fun b w=>Q2 P T.d a w fun e w=>Z3 P b [e] w fun d w=>J6 P .not d w fun c w=>K c w
theorem Hc {a b:Value} {w:World} {K:Value→World→Prop} (h:Za a b w K):Q1 P F.bU [a,b] w K:=Q9 (List.replicate 2 none) Tryz.func170 rfl (by decide) (by kernel_rfl) h
def Ju (e f:Value) (w:World) (K:Value→World→Prop):Prop:= box P T.ae f w fun a w=>E8 P (.func F.bU) [] [a] w fun d w=>Q1 P F.a [e,d] w fun c w=>J6 P .not c w fun b w=>K b w
theorem Sr {a b:Value} {w:World} {K:Value→World→Prop} (h:Ju a b w K):Q1 P F.al [a,b] w K:=Q9 (List.replicate 2 none) Tryz.func134 rfl (by decide) (by kernel_rfl) h
def Ca (H A:Value) (w:World) (K:Value→World→Prop):Prop:= box P T.t H w fun a w=>fieldAddr P T.t a 0 w fun E w=>Q2 P T.e E w fun D w=>Q3 P .geq T.e (.tmp 5) (.const (.int .i64 0)) D (.int .i64 0) w fun f w=>Q0 f true w (fieldAddr P T.t a 1) fun C w=>Q0 f true w (Q2 P T.e C) fun B w=>Q0 f true w (fieldAddr P T.t a 0) fun y w=>Q0 f true w (Q2 P T.e y) fun o w=>Q0 f true w (Q3 P .gtr T.e (.tmp 9) (.tmp 11) B o) fun u w=>pick P f u (.bool false) w fun c w=>Q0 c true w (fieldAddr P T.t a 1) fun k w=>Q0 c true w (Q2 P T.e k) fun i w=>Q0 c true w (Q2 P T.e A) fun l w=>Q0 c true w (Q3 P .leq T.e (.tmp 16) (.tmp 17) i l) fun p w=>pick P c p (.bool false) w fun e w=>Q0 e true w (fieldAddr P T.t a 2) fun g w=>Q0 e true w (Q2 P T.e g) fun j w=>Q0 e true w (Q3 P .geq T.e (.tmp 22) (.const (.int .i64 0)) j (.int .i64 0)) fun t w=>pick P e t (.bool false) w fun b w=>Q0 b true w (fieldAddr P T.t a 2) fun m w=>Q0 b true w (Q2 P T.e m) fun z w=>Q0 b true w (Q2 P T.e A) fun v w=>Q0 b true w (Q3 P .lss T.e (.tmp 27) (.tmp 28) z v) fun r w=>pick P b r (.bool false) w fun d w=>Q0 d true w (fieldAddr P T.t a 3) fun n w=>Q0 d true w (Q2 P T.c n) fun q w=>Q0 d true w (Q1 P F.ai [q]) fun s w=>pick P d s (.bool false) w fun h w=>K h w
theorem Q2A {a b:Value} {w:World} {K:Value→World→Prop} (h:Ca a b w K):Q1 P F.bj [a,b] w K:=Q9 (List.replicate 2 none) Tryz.func171 rfl (by decide) (by kernel_rfl) h
def Yk:V6:=[none,none,none,some ([8],[4,5,8,9,10,11,12,13,14,15,16,17,18]),none,none,none,none,none,none,none]
def F9 (g j:Value) (w:World) (K:Value→World→Prop):Prop:= X3 P .len [T.q] T.e [false] [g] w fun i w=>lp (α:=Value) (.int .i64 0) w fun a b k w=>Q3 P .lss T.e (.tmp 8) (.tmp 7) b i w fun h w=>X1 h (indexAddr P T.q g b w fun d w=>Q2 P T.v d w fun f w=>Z3 P j [f] w fun c w=>X1 c (K b w) (Q3 P .add T.e (.tmp 8) (.const (.int .i64 1)) b (.int .i64 1) w fun e w=>a e w)) (K (.int .i64 (-1)) w)
theorem Yr {a b:Value} {w:World} {K:Value→World→Prop} (h:F9 a b w K):Q1 P F.a5 [a,b] w K:=Q9 Yk Tryz.func208 rfl (by decide) (by kernel_rfl) h
def C8 (c d:Value) (w:World) (K:Value→World→Prop):Prop:= Q1 P F.a5 [c,d] w fun b w=>Q3 P .geq T.e (.tmp 7) (.const (.int .i64 0)) b (.int .i64 0) w fun a w=>K a w
theorem Xb {a b:Value} {w:World} {K:Value→World→Prop} (h:C8 a b w K):Q1 P F.m [a,b] w K:=Q9 (List.replicate 2 none) Tryz.func194 rfl (by decide) (by kernel_rfl) h
def Zw (f g:Value) (w:World) (K:Value→World→Prop):Prop:= box P T.v f w fun a w=>Q2 P T.ai g w fun b w=>Q2 P T.v a w fun e w=>Z3 P b [e] w fun d w=>J6 P .not d w fun c w=>K c w
theorem Hw {a b:Value} {w:World} {K:Value→World→Prop} (h:Zw a b w K):Q1 P F.bY [a,b] w K:=Q9 (List.replicate 2 none) Tryz.func195 rfl (by decide) (by kernel_rfl) h
def Vc (e f:Value) (w:World) (K:Value→World→Prop):Prop:= box P T.ai f w fun a w=>E8 P (.func F.bY) [] [a] w fun d w=>Q1 P F.m [e,d] w fun c w=>J6 P .not c w fun b w=>K b w
theorem Co {a b:Value} {w:World} {K:Value→World→Prop} (h:Vc a b w K):Q1 P F.au [a,b] w K:=Q9 (List.replicate 2 none) Tryz.func172 rfl (by decide) (by kernel_rfl) h
def Jl:V6:=[none,none,none,some ([8],[4,5,8,9,10,11,12,13,14,15,16,17,18]),none,none,none,none,none,none,none]
def K4 (g j:Value) (w:World) (K:Value→World→Prop):Prop:= X3 P .len [T.ap] T.e [false] [g] w fun i w=>lp (α:=Value) (.int .i64 0) w fun a b k w=>Q3 P .lss T.e (.tmp 8) (.tmp 7) b i w fun h w=>X1 h (indexAddr P T.ap g b w fun d w=>Q2 P T.ad d w fun f w=>Z3 P j [f] w fun c w=>X1 c (K b w) (Q3 P .add T.e (.tmp 8) (.const (.int .i64 1)) b (.int .i64 1) w fun e w=>a e w)) (K (.int .i64 (-1)) w)
theorem Ul {a b:Value} {w:World} {K:Value→World→Prop} (h:K4 a b w K):Q1 P F.t [a,b] w K:=Q9 Jl Tryz.func221 rfl (by decide) (by kernel_rfl) h
def Tf (f g:Value) (w:World) (K:Value→World→Prop):Prop:= box P T.ad f w fun a w=>fieldAddr P T.ad a 0 w fun b w=>Q2 P T.c b w fun e w=>Q2 P T.c g w fun d w=>Q3 P .eql T.c (.tmp 5) (.tmp 6) e d w fun c w=>K c w
theorem Q4I {a b:Value} {w:World} {K:Value→World→Prop} (h:Tf a b w K):Q1 P F.cR [a,b] w K:=Q9 (List.replicate 2 none) Tryz.func222 rfl (by decide) (by kernel_rfl) h
def Q27 (d:Value) (w:World) (K:Value→World→Prop):Prop:= box P T.c d w fun a w=>R6 P T.af (.pointer (some ⟨G.a,0,none⟩)) none none none w fun e w=>E8 P (.func F.cR) [] [a] w fun b w=>Q1 P F.t [e,b] w fun c w=>K c w
theorem Q6C {a:Value} {w:World} {K:Value→World→Prop} (h:Q27 a w K):Q1 P F.cM [a] w K:=Q9 (List.replicate 2 none) Tryz.func209 rfl (by decide) (by kernel_rfl) h
def Q09 (q:Value) (w:World) (K:Value→World→Prop):Prop:= Q1 P F.cM [q] w fun o w=>Q3 P .lss T.e (.tmp 8) (.const (.int .i64 0)) o (.int .i64 0) w fun p w=>X1 p (K (.tuple #[(.bool false),(.bool false),(.bool false)]) w) (dr w fun a l=>Q6 a (fun b=> ∀w,l w→indexAddr P T.af (.pointer (some ⟨G.a,0,none⟩)) o w (dk a b w)) fun b=>Q6 a (fun f=> ∀g w,l w→b g w→fieldAddr P T.ad g 1 w (dk a f w)) fun f=>Q6 a (fun c=> ∀w,l w→indexAddr P T.af (.pointer (some ⟨G.a,0,none⟩)) o w (dk a c w)) fun c=>Q6 a (fun h=> ∀e w,l w→c e w→fieldAddr P T.ad e 2 w (dk a h w)) fun h=>Q6 a (fun j=> ∀i w,l w→f i w→Q2 P T.u i w (dk a j w)) fun j=>Q6 a (fun k=> ∀d w,l w→h d w→Q2 P T.u d w (dk a k w)) fun k=>∀g i e d n m w,l w→b g w→f i w→c e w→h d w→j n w→k m w→ K (.tuple #[n,m,(.bool true)]) w)
theorem Q5m {a:Value} {w:World} {K:Value→World→Prop} (h:Q09 a w K):Q1 P F.cm [a] w K:=Q9 (List.replicate 6 none) Tryz.func196 rfl (by decide) (by kernel_rfl) h
def Q28 (d:Value) (w:World) (K:Value→World→Prop):Prop:= Q1 P F.cx [d] w fun c w=>ext P c 0 w fun f w=>ext P c 1 w fun e w=>Q1 P F.z [d] w fun b w=>J6 P .not b w fun a w=>X1 a (K (.int .i64 0) w) (K e w)
theorem Q6D {a:Value} {w:World} {K:Value→World→Prop} (h:Q28 a w K):Q1 P F.cw [a] w K:=Q9 (List.replicate 6 none) Tryz.func115 rfl (by decide) (by kernel_rfl) h
def Uv (b c:Value) (w:World) (K:Value→World→Prop):Prop:= Q1 P F.c0 [b,c] w fun a w=>K a w
theorem Cq {a b:Value} {w:World} {K:Value→World→Prop} (h:Uv a b w K):Q1 P F.aw [a,b] w K:=Q9 (List.replicate 2 none) Tryz.func227 rfl (by decide) (by kernel_rfl) h
def Q08:V6:=[none,none,none,none,none,none,none,none,none,none,none,none,none,none,none,none,none,some ([8,10],[4,8,10,11,12,13,57,58,59,60,61,62,63,64,65,66,67,68,69,70,71,72,73,74,75,76,77,78,79,80,81,82,83,84,85,86,87,88,89,90,91,92,93,94,95,96,97,98,99,100,101,102,103,104,105,106,107,108,109,110,111,112,113,114,115,116,117,118,119,120,121,122,123,124,125,126,127,128,129,130,131,132,133,134,135,136,137,138,139,140,141,142]),none,none,some ([8],[4,8,11,60,61,62,63,64,65,66,67,68,69,70,71,72,73,74,75,76,77]),none,none,none,none,none,none,none,none,none,none,none,none,none,none,none,none,none,none,none,none,none,none,none]
def Of (h k:Value) (w:World) (K:Value→World→Prop):Prop:= X3 P .len [T.c] T.e [false] [k] w fun c w=>Q3 P .eql T.e (.tmp 17) (.const (.int .i64 0)) c (.int .i64 0) w fun l w=>Q0 l false w (fun w J=>J k w) fun ad w=>Q0 l false w (fun w J=>J h w) fun ab w=>Q0 l false w (Q3 P .eql T.c (.tmp 20) (.tmp 21) ad ab) fun aj w=>pick P l (.bool true) aj w fun aq w=>X1 aq (K (.int .i64 0) w) (Q3 P .eql T.e (.tmp 25) (.const (.int .i64 1)) c (.int .i64 1) w fun an w=>X1 an (S9 P T.c k (.int .i64 0) w fun a9 w=>Q1 P F.aw [h,a9] w fun a5 w=>K a5 w) (X3 P .len [T.c] T.e [false] [h] w fun ao w=>Q3 P .geq T.e (.tmp 32) (.tmp 34) c ao w fun af w=>X1 af (K (.int .i64 (-1)) w) (Q2 P T.e (.pointer (some ⟨G.c,0,none⟩)) w fun az w=>Q3 P .leq T.e (.tmp 37) (.tmp 38) c az w fun m w=>Q0 m true w (fun w J=>J h w) fun ba w=>Q0 m true w (X3 P .len [T.c] T.e [false] [ba]) fun ac w=>Q0 m true w (Q3 P .leq T.e (.tmp 42) (.const (.int .i64 64)) ac (.int .i64 64)) fun be w=>pick P m be (.bool false) w fun a2 w=>X1 a2 (Q1 P F.cu [h,k] w fun aw w=>K aw w) (S9 P T.c k (.int .i64 0) w fun s w=>S9 P T.c k (.int .i64 1) w fun ah w=>X3 P .len [T.c] T.e [false] [h] w fun av w=>Q3 P .sub T.e (.tmp 53) (.tmp 54) av c w fun ae w=>Q3 P .add T.e (.tmp 55) (.const (.int .i64 1)) ae (.int .i64 1) w fun q w=>lp (α:=Value×Value) ((.int .i64 0),(.int .i64 0)) w fun j g d_ w=>Q3 P .lss T.e (.tmp 57) (.tmp 58) g.1 q w fun ak w=>X1 ak (jn (α:=Value) w (fun Y w=>S9 P T.c h g.1 w fun bc w=>Q3 P .neq T.a3 (.tmp 62) (.tmp 63) bc s w fun a6 w=>X1 a6 (Q3 P .add T.e (.tmp 66) (.const (.int .i64 1)) g.1 (.int .i64 1) w fun aa w=>R6 P T.c h (some aa) (some q) none w fun bd w=>Q1 P F.aw [bd,s] w fun M w=>Q3 P .lss T.e (.tmp 72) (.const (.int .i64 0)) M (.int .i64 0) w fun ap w=>X1 ap (K (.int .i64 (-1)) w) (Q3 P .add T.e (.tmp 75) (.const (.int .i64 1)) M (.int .i64 1) w fun am w=>Q3 P .add T.e (.tmp 74) (.tmp 76) g.1 am w fun ar w=>Y ar w)) (Y g.1 w)) fun i d_ w=>Q3 P .add T.e (.tmp 79) (.const (.int .i64 1)) i (.int .i64 1) w fun a3 w=>S9 P T.c h a3 w fun al w=>Q3 P .eql T.a3 (.tmp 81) (.tmp 82) al ah w fun b w=>Q0 b true w (fun w J=>J h w) fun a4 w=>Q0 b true w (fun w J=>J i w) fun bf w=>Q0 b true w (fun w J=>J i w) fun ai w=>Q0 b true w (fun w J=>J c w) fun a7 w=>Q0 b true w (Q3 P .add T.e (.tmp 87) (.tmp 88) ai a7) fun ay w=>Q0 b true w (R6 P T.c a4 (some bf) (some ay) none) fun ax w=>Q0 b true w (fun w J=>J k w) fun a8 w=>Q0 b true w (Q3 P .eql T.c (.tmp 90) (.tmp 91) ax a8) fun bb w=>pick P b bb (.bool false) w fun ag w=>X1 ag (K i w) (Q3 P .add T.e (.tmp 95) (.const (.int .i64 1)) i (.int .i64 1) w fun e w=>Q3 P .add T.e (.tmp 97) (.const (.int .i64 1)) g.2 (.int .i64 1) w fun p w=>Q2 P T.e (.pointer (some ⟨G.c,0,none⟩)) w fun R w=>Q3 P .leq T.e (.tmp 99) (.tmp 100) c R w fun d w=>Q0 d true w (fun w J=>J p w) fun z w=>Q0 d true w (fun w J=>J e w) fun O w=>Q0 d true w (Q1 P F.cV [O]) fun u w=>Q0 d true w (Q3 P .gtr T.e (.tmp 103) (.tmp 105) z u) fun E w=>pick P d E (.bool false) w fun X w=>X1 X (R6 P T.c h (some e) none none w fun U w=>Q1 P F.cu [U,k] w fun n w=>Q3 P .geq T.e (.tmp 113) (.const (.int .i64 0)) n (.int .i64 0) w fun A w=>X1 A (Q3 P .add T.e (.tmp 115) (.tmp 116) n e w fun y w=>K y w) (K (.int .i64 (-1)) w)) (Q2 P T.e (.pointer (some ⟨G.c,0,none⟩)) w fun Q w=>Q3 P .gtr T.e (.tmp 118) (.tmp 119) c Q w fun a w=>Q0 a true w (fun w J=>J p w) fun v w=>Q0 a true w (fun w J=>J e w) fun W w=>Q0 a true w (Q3 P .shr T.e (.tmp 123) (.const (.int .u64 4)) W (.int .u64 4)) fun D w=>Q0 a true w (Q3 P .add T.e (.const (.int .i64 4)) (.tmp 124) (.int .i64 4) D) fun L w=>Q0 a true w (Q3 P .geq T.e (.tmp 122) (.tmp 125) v L) fun t w=>pick P a t (.bool false) w fun f w=>Q0 f true w (fun w J=>J e w) fun B w=>Q0 f true w (fun w J=>J q w) fun V w=>Q0 f true w (Q3 P .lss T.e (.tmp 129) (.tmp 130) B V) fun N w=>pick P f N (.bool false) w fun Z w=>X1 Z (R6 P T.c h (some e) none none w fun H w=>Q1 P F.cK [H,k] w fun o w=>Q3 P .lss T.e (.tmp 138) (.const (.int .i64 0)) o (.int .i64 0) w fun C w=>X1 C (K (.int .i64 (-1)) w) (Q3 P .add T.e (.tmp 140) (.tmp 141) e o w fun r w=>K r w)) (j (e,p) w)))) (K (.int .i64 (-1)) w)))))
theorem Q02 {a b:Value} {w:World} {K:Value→World→Prop} (h:Of a b w K):Q1 P F.bK [a,b] w K:=Q9 Q08 Tryz.func228 rfl (by decide) (by kernel_rfl) h
def Hp (l n:Value) (w:World) (K:Value→World→Prop):Prop:= Q1 P F.bK [l,n] w fun g w=>Q3 P .geq T.e (.tmp 11) (.const (.int .i64 0)) g (.int .i64 0) w fun m w=>X1 m (dr w fun e i=>Q6 e (fun f=> ∀w,i w→R6 P T.c l none (some g) none w (dk e f w)) fun f=>Q6 e (fun d=> ∀w,i w→X3 P .len [T.c] T.e [false] [n] w (dk e d w)) fun d=>Q6 e (fun a=> ∀b w,i w→d b w→Q3 P .add T.e (.tmp 17) (.tmp 19) g b w (dk e a w)) fun a=>Q6 e (fun h=> ∀c w,i w→a c w→R6 P T.c l (some c) none none w (dk e h w)) fun h=>∀k b c j w,i w→f k w→d b w→a c w→h j w→ K (.tuple #[k,j,(.bool true)]) w) (K (.tuple #[l,(.string ⟨#[]⟩),(.bool false)]) w)
theorem Q1T {a b:Value} {w:World} {K:Value→World→Prop} (h:Hp a b w K):Q1 P F.cJ [a,b] w K:=Q9 (List.replicate 6 none) Tryz.func229 rfl (by decide) (by kernel_rfl) h
def Tl (e f:Value) (w:World) (K:Value→World→Prop):Prop:= Q1 P F.cJ [e,f] w fun a w=>ext P a 0 w fun c w=>ext P a 1 w fun d w=>ext P a 2 w fun b w=>K (.tuple #[c,d,b]) w
theorem Q4Q {a b:Value} {w:World} {K:Value→World→Prop} (h:Tl a b w K):Q1 P F.cB [a,b] w K:=Q9 (List.replicate 2 none) Tryz.func224 rfl (by decide) (by kernel_rfl) h
end Go.Proofs.YtjdiakhipmggjaaGreatDoor

set_option maxRecDepth 100000
namespace Go.Proofs.YtjdiakhipmggjaaGreatDoor
open Go.Emb
def Q1h (t:Value) (w:World) (K:Value→World→Prop):Prop:= Q1 P F.cB [t,(.string ⟨#[46]⟩)] w fun e w=>ext P e 0 w fun f w=>ext P e 1 w fun d w=>ext P e 2 w fun q w=>J6 P .not q w fun c w=>Q0 c false w (fun w J=>J f w) fun h w=>Q0 c false w (Q1 P F.ai [h]) fun m w=>Q0 c false w (J6 P .not m) fun l w=>pick P c (.bool true) l w fun b w=>Q0 b false w (fun w J=>J d w) fun g w=>Q0 b false w (Q1 P F.c6 [g]) fun o w=>Q0 b false w (J6 P .not o) fun i w=>pick P b (.bool true) i w fun a w=>Q0 a false w (fun w J=>J d w) fun s w=>Q0 a false w (S9 P T.c s (.int .i64 0)) fun p w=>Q0 a false w (conv P T.a3 T.an p) fun n w=>Q0 a false w (Q1 P F.cl [n]) fun j w=>Q0 a false w (J6 P .not j) fun r w=>pick P a (.bool true) r w fun k w=>X1 k (K (.tuple #[(.string ⟨#[]⟩),(.string ⟨#[]⟩),(.int .i64 30)]) w) (K (.tuple #[f,d,(.int .i64 0)]) w)
theorem Q5n {a:Value} {w:World} {K:Value→World→Prop} (h:Q1h a w K):Q1 P F.cI [a] w K:=Q9 (List.replicate 6 none) Tryz.func211 rfl (by decide) (by kernel_rfl) h
def Q6B:V6:=[none,none,none,none,none,none,none,some ([27],[27,28,29]),none,none,none,none,none,none]
def Q2l (g d:Value) (w:World) (K:Value→World→Prop):Prop:= Q3 P .eql T.c (.tmp 8) (.const (.string ⟨#[119,111,114,100]⟩)) g (.string ⟨#[119,111,114,100]⟩) w fun C w=>X1 C (X3 P .len [T.c] T.e [false] [d] w fun B w=>Q3 P .leq T.e (.tmp 12) (.const (.int .i64 64)) B (.int .i64 64) w fun f w=>Q0 f true w (fun w J=>J d w) fun r w=>Q0 f true w (Q1 P F.b2 [r]) fun n w=>pick P f n (.bool false) w fun a w=>Q0 a true w (fun w J=>J d w) fun v w=>Q0 a true w (Q1 P F.cE [v,(.string ⟨#[10]⟩)]) fun k w=>Q0 a true w (J6 P .not k) fun i w=>pick P a i (.bool false) w fun q w=>K q w) (Q3 P .eql T.c (.tmp 8) (.const (.string ⟨#[110,101,119]⟩)) g (.string ⟨#[110,101,119]⟩) w fun u w=>X1 u (Q1 P F.ai [d] w fun t w=>K t w) (jn (α:=Value) w (fun L w=>Q3 P .eql T.c (.tmp 8) (.const (.string ⟨#[105,115]⟩)) g (.string ⟨#[105,115]⟩) w fun h w=>X1 h (L h w) (Q3 P .eql T.c (.tmp 8) (.const (.string ⟨#[99,97,115,116]⟩)) g (.string ⟨#[99,97,115,116]⟩) w fun A w=>L A w)) fun O Q w=>X1 O (Q1 P F.z [d] w fun c w=>Q0 c true w (fun w J=>J d w) fun y w=>Q0 c true w (Q1 P F.aN [y]) fun z w=>Q0 c true w (J6 P .not z) fun l w=>pick P c l (.bool false) w fun D w=>K D w) (Q3 P .eql T.c (.tmp 8) (.const (.string ⟨#[97,114,114,97,121]⟩)) g (.string ⟨#[97,114,114,97,121]⟩) w fun m w=>X1 m (Q1 P F.z [d] w fun b w=>Q0 b true w (fun w J=>J d w) fun j w=>Q0 b true w (Q1 P F.cw [j]) fun E w=>Q0 b true w (Q3 P .lss T.e (.tmp 43) (.const (.int .i64 3)) E (.int .i64 3)) fun o w=>pick P b o (.bool false) w fun s w=>K s w) (Q1 P F.cI [d] w fun e w=>ext P e 0 w fun M w=>ext P e 1 w fun N w=>ext P e 2 w fun p w=>Q3 P .eql T.y (.tmp 52) (.const (.int .i64 0)) p (.int .i64 0) w fun H w=>K H w))))
theorem Q6T {a b:Value} {w:World} {K:Value→World→Prop} (h:Q2l a b w K):Q1 P F.cL [a,b] w K:=Q9 Q6B Tryz.func197 rfl (by decide) (by kernel_rfl) h
def Q5A:V6:=[none,none,none,none,none,some ([16],[16,17,18,19,20,21,22,23,24,25,26,27,28,29,30,31,32,33,34,35,36,37,38,39]),none,none,none,none]
def Q0C (D:Value) (w:World) (K:Value→World→Prop):Prop:= box P T.v D w fun a w=>fieldAddr P T.v a 0 w fun B w=>Q2 P T.c B w fun A w=>Q1 P F.cm [A] w fun g w=>ext P g 0 w fun v w=>ext P g 1 w fun b w=>ext P g 2 w fun t w=>J6 P .not t w fun p w=>X1 p (K (.int .i64 40) w) (jn (α:=Value) w (fun i w=>J6 P .not v w fun d w=>Q0 d true w (fieldAddr P T.v a 1) fun j w=>Q0 d true w (Q2 P T.a0 j) fun h w=>Q0 d true w (Q3 P .neq T.a0 (.tmp 21) (.const (.int .i64 0)) h (.int .i64 0)) fun n w=>pick P d n (.bool false) w fun f w=>X1 f (i f w) (J6 P .not b w fun c w=>Q0 c true w (fieldAddr P T.v a 2) fun o w=>Q0 c true w (Q2 P T.c o) fun u w=>Q0 c true w (Q3 P .neq T.c (.tmp 28) (.const (.string ⟨#[]⟩)) u (.string ⟨#[]⟩)) fun s w=>pick P c s (.bool false) w fun e w=>X1 e (i e w) (Q0 b true w (fieldAddr P T.v a 0) fun q w=>Q0 b true w (Q2 P T.c q) fun r w=>Q0 b true w (fieldAddr P T.v a 2) fun k w=>Q0 b true w (Q2 P T.c k) fun y w=>Q0 b true w (Q1 P F.cL [r,y]) fun m w=>Q0 b true w (J6 P .not m) fun l w=>pick P b l (.bool false) w fun z w=>i z w))) fun C E w=>X1 C (K (.int .i64 41) w) (K (.int .i64 0) w))
theorem Q5u {a:Value} {w:World} {K:Value→World→Prop} (h:Q0C a w K):Q1 P F.cH [a] w K:=Q9 Q5A Tryz.func174 rfl (by decide) (by kernel_rfl) h
def Sh (d:Value) (w:World) (K:Value→World→Prop):Prop:= box P T.v d w fun a w=>Q2 P T.v a w fun e w=>Q1 P F.cH [e] w fun b w=>Q3 P .eql T.y (.tmp 4) (.const (.int .i64 0)) b (.int .i64 0) w fun c w=>K c w
theorem Q2E {a:Value} {w:World} {K:Value→World→Prop} (h:Sh a w K):Q1 P F.bk [a] w K:=Q9 (List.replicate 2 none) Tryz.func173 rfl (by decide) (by kernel_rfl) h
def Yt:V6:=[none,none,none,some ([8],[4,5,8,9,10,11,12,13,14,15,16,17,18]),none,none,none,none,none,none,none]
def G1 (g j:Value) (w:World) (K:Value→World→Prop):Prop:= X3 P .len [T.s] T.e [false] [g] w fun i w=>lp (α:=Value) (.int .i64 0) w fun a b k w=>Q3 P .lss T.e (.tmp 8) (.tmp 7) b i w fun h w=>X1 h (indexAddr P T.s g b w fun d w=>Q2 P T.t d w fun f w=>Z3 P j [f] w fun c w=>X1 c (K b w) (Q3 P .add T.e (.tmp 8) (.const (.int .i64 1)) b (.int .i64 1) w fun e w=>a e w)) (K (.int .i64 (-1)) w)
theorem Yp {a b:Value} {w:World} {K:Value→World→Prop} (h:G1 a b w K):Q1 P F.a6 [a,b] w K:=Q9 Yt Tryz.func212 rfl (by decide) (by kernel_rfl) h
def C7 (c d:Value) (w:World) (K:Value→World→Prop):Prop:= Q1 P F.a6 [c,d] w fun b w=>Q3 P .geq T.e (.tmp 7) (.const (.int .i64 0)) b (.int .i64 0) w fun a w=>K a w
theorem Qz {a b:Value} {w:World} {K:Value→World→Prop} (h:C7 a b w K):Q1 P F.n [a,b] w K:=Q9 (List.replicate 2 none) Tryz.func198 rfl (by decide) (by kernel_rfl) h
def Zt (f g:Value) (w:World) (K:Value→World→Prop):Prop:= box P T.t f w fun a w=>Q2 P T.ah g w fun b w=>Q2 P T.t a w fun e w=>Z3 P b [e] w fun d w=>J6 P .not d w fun c w=>K c w
theorem Ht {a b:Value} {w:World} {K:Value→World→Prop} (h:Zt a b w K):Q1 P F.bZ [a,b] w K:=Q9 (List.replicate 2 none) Tryz.func199 rfl (by decide) (by kernel_rfl) h
def Uy (e f:Value) (w:World) (K:Value→World→Prop):Prop:= box P T.ah f w fun a w=>E8 P (.func F.bZ) [] [a] w fun d w=>Q1 P F.n [e,d] w fun c w=>J6 P .not c w fun b w=>K b w
theorem Ci {a b:Value} {w:World} {K:Value→World→Prop} (h:Uy a b w K):Q1 P F.av [a,b] w K:=Q9 (List.replicate 2 none) Tryz.func175 rfl (by decide) (by kernel_rfl) h
def Gp (a0:Value) (w:World) (K:Value→World→Prop):Prop:= box P T.d a0 w fun b w=>fieldAddr P T.d b 0 w fun t5 w=>Q2 P T.c t5 w fun t6 w=>Q1 P F.bT [t6] w fun t7 w=>J6 P .not t7 w fun i w=>Q0 i false w (fieldAddr P T.d b 1) fun ae w=>Q0 i false w (Q2 P T.h ae) fun V w=>Q0 i false w (Q1 P F.aa [V,(.func (.func F.z) #[] #[])]) fun ac w=>Q0 i false w (J6 P .not ac) fun ag w=>pick P i (.bool true) ag w fun c w=>Q0 c false w (fieldAddr P T.d b 2) fun t w=>Q0 c false w (Q2 P T.c t) fun B w=>Q0 c false w (Q3 P .neq T.c (.tmp 17) (.const (.string ⟨#[]⟩)) B (.string ⟨#[]⟩)) fun W w=>Q0 c false w (fun w J=>J W w) fun f w=>Q0 f true w (fieldAddr P T.d b 2) fun o w=>Q0 f true w (Q2 P T.c o) fun k w=>Q0 f true w (Q1 P F.z [k]) fun y w=>Q0 f true w (J6 P .not y) fun ab w=>Q0 c false w (pick P f ab (.bool false)) fun L w=>pick P c (.bool true) L w fun C w=>X1 C (K (.bool false) w) (fieldAddr P T.d b 3 w fun D w=>Q2 P T.u D w fun A w=>X1 A (fieldAddr P T.d b 4 w fun ad w=>Q2 P T.e ad w fun Z w=>Q3 P .eql T.e (.tmp 29) (.const (.int .i64 0)) Z (.int .i64 0) w fun e w=>Q0 e true w (fieldAddr P T.d b 5) fun O w=>Q0 e true w (Q2 P T.q O) fun X w=>Q0 e true w (X3 P .len [T.q] T.e [false] [X]) fun Y w=>Q0 e true w (Q3 P .eql T.e (.tmp 34) (.const (.int .i64 0)) Y (.int .i64 0)) fun r w=>pick P e r (.bool false) w fun g w=>Q0 g true w (fieldAddr P T.d b 6) fun s w=>Q0 g true w (Q2 P T.s s) fun aj w=>Q0 g true w (X3 P .len [T.s] T.e [false] [aj]) fun Q w=>Q0 g true w (Q3 P .eql T.e (.tmp 40) (.const (.int .i64 0)) Q (.int .i64 0)) fun aa w=>pick P g aa (.bool false) w fun n w=>K n w) (fieldAddr P T.d b 5 w fun ai w=>Q2 P T.q ai w fun u w=>X3 P .len [T.q] T.e [false] [u] w fun E w=>V9 P T.e w fun t3 w=>Y0 P T.e t3 E w fun _u w=>E8 P (.func F.bj) [] [t3] w fun H w=>Q2 P T.e t3 w fun ah w=>Q3 P .gtr T.e (.tmp 47) (.const (.int .i64 0)) ah (.int .i64 0) w fun a w=>Q0 a true w (fieldAddr P T.d b 4) fun R w=>Q0 a true w (Q2 P T.e R) fun v w=>Q0 a true w (fieldAddr P T.d b 1) fun U w=>Q0 a true w (Q2 P T.h U) fun af w=>Q0 a true w (X3 P .len [T.h] T.e [false] [af]) fun l w=>Q0 a true w (Q3 P .gtr T.e (.tmp 51) (.tmp 54) v l) fun q w=>pick P a q (.bool false) w fun h w=>Q0 h true w (fieldAddr P T.d b 5) fun ak w=>Q0 h true w (Q2 P T.q ak) fun z w=>Q0 h true w (Q1 P F.au [z,(.func (.func F.bk) #[] #[])]) fun am w=>pick P h am (.bool false) w fun d w=>Q0 d true w (fieldAddr P T.d b 6) fun M w=>Q0 d true w (Q2 P T.s M) fun N w=>Q0 d true w (fun w J=>J H w) fun m w=>Q0 d true w (Q1 P F.av [N,m]) fun p w=>pick P d p (.bool false) w fun j w=>K j w))
theorem Q3A {a:Value} {w:World} {K:Value→World→Prop} (h:Gp a w K):Q1 P F.bc [a] w K:=Q9 (List.replicate 10 none) Tryz.func135 rfl (by decide) (by kernel_rfl) h
def Td (a0:Value) (w:World) (K:Value→World→Prop):Prop:= box P T.b a0 w fun b w=>fieldAddr P T.b b 0 w fun t7 w=>Q2 P T.c t7 w fun t8 w=>fieldAddr P T.b b 1 w fun t9 w=>Q2 P T.c t9 w fun ae w=>buildSlice P T.h 2 [(0,t8),(1,ae)] w fun a2 w=>fieldAddr P T.b b 2 w fun ab w=>Q2 P T.h ab w fun a7 w=>X3 P .append [T.h,T.h] T.h [false,false] [a2,a7] w fun r w=>dr w fun o u=>Q6 o (fun m=> ∀w,u w→R6 P T.h r (some (.int .i64 1)) none none w (dk o m w)) fun m=>Q6 o (fun h=> ∀w,u w→fieldAddr P T.b b 0 w (dk o h w)) fun h=>Q6 o (fun n=> ∀j w,u w→h j w→Q2 P T.c j w (dk o n w)) fun n=>∀p j s w,u w→m p w→h j w→n s w→ Q1 P F.af [p,s] w fun ax w=>fieldAddr P T.b b 7 w fun A w=>Q2 P T.j A w fun v w=>Q1 P F.a [v,(.func (.func F.cn) #[] #[])] w fun Q w=>fieldAddr P T.b b 7 w fun aa w=>Q2 P T.j aa w fun ar w=>Q1 P F.a [ar,(.func (.func F.co) #[] #[])] w fun V w=>Q1 P F.aa [r,(.func (.func F.ai) #[] #[])] w fun ad w=>J6 P .not ad w fun t w=>Q0 t false w (fun w J=>J ax w) fun ba w=>pick P t (.bool true) ba w fun d w=>Q0 d false w (fieldAddr P T.b b 2) fun Y w=>Q0 d false w (Q2 P T.h Y) fun D w=>Q0 d false w (Q1 P F.aW [D,(.func (.func F.cp) #[] #[])]) fun a8 w=>Q0 d false w (J6 P .not a8) fun L w=>pick P d (.bool true) L w fun ak w=>X1 ak (K (.bool false) w) (fieldAddr P T.b b 3 w fun X w=>Q2 P T.u X w fun a w=>Q0 a true w (fieldAddr P T.b b 4) fun bb w=>Q0 a true w (Q2 P T.u bb) fun al w=>Q0 a true w (J6 P .not al) fun aq w=>Q0 a true w (fun w J=>J aq w) fun k w=>Q0 k false w (fieldAddr P T.b b 1) fun af w=>Q0 k false w (Q2 P T.c af) fun av w=>Q0 k false w (Q3 P .neq T.c (.tmp 48) (.const (.string ⟨#[79,98,106,101,99,116]⟩)) av (.string ⟨#[79,98,106,101,99,116]⟩)) fun B w=>Q0 a true w (pick P k (.bool true) B) fun az w=>Q0 a true w (fun w J=>J az w) fun c w=>Q0 c false w (fieldAddr P T.b b 6) fun a1 w=>Q0 c false w (Q2 P T.k a1) fun bc w=>Q0 c false w (X3 P .len [T.k] T.e [false] [bc]) fun y w=>Q0 c false w (Q3 P .gtr T.e (.tmp 54) (.const (.int .i64 0)) y (.int .i64 0)) fun C w=>Q0 a true w (pick P c (.bool true) C) fun aw w=>Q0 a true w (fun w J=>J aw w) fun q w=>Q0 q false w (fun w J=>J V w) fun ag w=>Q0 a true w (pick P q (.bool true) ag) fun R w=>pick P a R (.bool false) w fun ah w=>X1 ah (K (.bool false) w) (fieldAddr P T.b b 4 w fun a5 w=>Q2 P T.u a5 w fun l w=>Q0 l true w (fieldAddr P T.b b 5) fun ai w=>Q0 l true w (Q2 P T.u ai) fun z w=>pick P l z (.bool false) w fun f w=>Q0 f false w (fun w J=>J Q w) fun a6 w=>Q0 f false w (fun w J=>J a6 w) fun g w=>Q0 g true w (fieldAddr P T.b b 4) fun ap w=>Q0 g true w (Q2 P T.u ap) fun aj w=>Q0 g true w (J6 P .not aj) fun Z w=>Q0 f false w (pick P g Z (.bool false)) fun W w=>pick P f (.bool true) W w fun am w=>X1 am (K (.bool false) w) (fieldAddr P T.b b 6 w fun ac w=>Q2 P T.k ac w fun a9 w=>Q1 P F.aE [a9,(.func (.func F.cq) #[] #[])] w fun ao w=>J6 P .not ao w fun e w=>Q0 e false w (fieldAddr P T.b b 7) fun E w=>Q0 e false w (Q2 P T.j E) fun O w=>Q0 e false w (Q1 P F.ap [O,(.func (.func F.cr) #[] #[])]) fun U w=>Q0 e false w (J6 P .not U) fun an w=>pick P e (.bool true) an w fun bd w=>X1 bd (K (.bool false) w) (fieldAddr P T.b b 6 w fun N w=>Q2 P T.k N w fun ay w=>Q1 P F.aq [ay,(.func (.func F.bB) #[] #[])] w fun i w=>Q0 i true w (fieldAddr P T.b b 7) fun a3 w=>Q0 i true w (Q2 P T.j a3) fun a4 w=>Q0 i true w (Q1 P F.al [a4,(.func (.func F.bc) #[] #[])]) fun H w=>pick P i H (.bool false) w fun M w=>K M w))))
theorem Q4T {a:Value} {w:World} {K:Value→World→Prop} (h:Td a w K):Q1 P F.cA [a] w K:=Q9 (List.replicate 15 none) Tryz.func78 rfl (by decide) (by kernel_rfl) h
def Te (g:Value) (w:World) (K:Value→World→Prop):Prop:= box P T.b g w fun a w=>Q2 P T.b a w fun c w=>Q1 P F.cG [c] w fun f w=>X1 f (K (.int .i64 51) w) (Q2 P T.b a w fun e w=>Q1 P F.cA [e] w fun d w=>J6 P .not d w fun b w=>X1 b (K (.int .i64 50) w) (K (.int .i64 0) w))
theorem Q4S {a:Value} {w:World} {K:Value→World→Prop} (h:Te a w K):Q1 P F.cy [a] w K:=Q9 (List.replicate 7 none) Tryz.func42 rfl (by decide) (by kernel_rfl) h
def Qk (a:Value) (w:World) (K:Value→World→Prop):Prop:= Q3 P .eql T.h (.tmp 3) (.const (.slice none 0 0)) a (.slice none 0 0) w fun b w=>X1 b (K (.slice none 0 0) w) (buildSlice P T.h 0 [] w fun d w=>X3 P .append [T.h,T.h] T.h [false,false] [d,a] w fun c w=>K c w)
theorem Mg {a:Value} {w:World} {K:Value→World→Prop} (h:Qk a w K):Q1 P F.a8 [a] w K:=Q9 (List.replicate 5 none) Tryz.func79 rfl (by decide) (by kernel_rfl) h
def K2 (a:Value) (w:World) (K:Value→World→Prop):Prop:= Q3 P .eql T.k (.tmp 3) (.const (.slice none 0 0)) a (.slice none 0 0) w fun b w=>X1 b (K (.slice none 0 0) w) (buildSlice P T.k 0 [] w fun d w=>X3 P .append [T.k,T.k] T.k [false,false] [d,a] w fun c w=>K c w)
theorem Jg {a:Value} {w:World} {K:Value→World→Prop} (h:K2 a w K):Q1 P F.ac [a] w K:=Q9 (List.replicate 5 none) Tryz.func80 rfl (by decide) (by kernel_rfl) h
def K6 (a:Value) (w:World) (K:Value→World→Prop):Prop:= Q3 P .eql T.q (.tmp 3) (.const (.slice none 0 0)) a (.slice none 0 0) w fun b w=>X1 b (K (.slice none 0 0) w) (buildSlice P T.q 0 [] w fun d w=>X3 P .append [T.q,T.q] T.q [false,false] [d,a] w fun c w=>K c w)
theorem Js {a:Value} {w:World} {K:Value→World→Prop} (h:K6 a w K):Q1 P F.ad [a] w K:=Q9 (List.replicate 5 none) Tryz.func136 rfl (by decide) (by kernel_rfl) h
def K3 (a:Value) (w:World) (K:Value→World→Prop):Prop:= Q3 P .eql T.s (.tmp 3) (.const (.slice none 0 0)) a (.slice none 0 0) w fun b w=>X1 b (K (.slice none 0 0) w) (buildSlice P T.s 0 [] w fun d w=>X3 P .append [T.s,T.s] T.s [false,false] [d,a] w fun c w=>K c w)
theorem Jx {a:Value} {w:World} {K:Value→World→Prop} (h:K3 a w K):Q1 P F.ae [a] w K:=Q9 (List.replicate 5 none) Tryz.func137 rfl (by decide) (by kernel_rfl) h
def Th (E:Value) (w:World) (K:Value→World→Prop):Prop:= box P T.d E w fun a w=>V9 P T.d w fun C w=>dr w fun b c=>Q6 b (fun o=> ∀w,c w→fieldAddr P T.d a 1 w (dk b o w)) fun o=>Q6 b (fun r=> ∀w,c w→fieldAddr P T.d a 5 w (dk b r w)) fun r=>Q6 b (fun q=> ∀w,c w→fieldAddr P T.d a 6 w (dk b q w)) fun q=>Q6 b (fun k=> ∀s w,c w→o s w→Q2 P T.h s w (dk b k w)) fun k=>Q6 b (fun u=> ∀n w,c w→k n w→Q1 P F.a8 [n] w (dk b u w)) fun u=>Q6 b (fun p=> ∀m w,c w→r m w→Q2 P T.q m w (dk b p w)) fun p=>Q6 b (fun t=> ∀l w,c w→p l w→Q1 P F.ad [l] w (dk b t w)) fun t=>Q6 b (fun d=> ∀j w,c w→q j w→Q2 P T.s j w (dk b d w)) fun d=>Q6 b (fun g=> ∀w,c w→fieldAddr P T.d a 1 w (dk b g w)) fun g=>Q6 b (fun f=> ∀e w,c w→d e w→Q1 P F.ae [e] w (dk b f w)) fun f=>∀s m j n B l A e i h w,c w→o s w→r m w→q j w→k n w→u B w→p l w→t A w→d e w→g i w→f h w→ Y0 P T.h i B w fun _u w=>fieldAddr P T.d a 5 w fun z w=>Y0 P T.q z A w fun _u w=>fieldAddr P T.d a 6 w fun y w=>Y0 P T.s y h w fun _u w=>Q2 P T.d a w fun v w=>Y0 P T.d C v w fun _u w=>Y8 P T.d C w fun D=>K D w
theorem Q4K {a:Value} {w:World} {K:Value→World→Prop} (h:Th a w K):Q1 P F.c8 [a] w K:=Q9 (List.replicate 3 none) Tryz.func81 rfl (by decide) (by kernel_rfl) h
def Q4H:V6:=[none,none,none,none,none,some ([3,17],[3,5,17,18,19,20,21,22,23,24,25,26]),none,none,none,none,none,none]
def Tk (R:Value) (w:World) (K:Value→World→Prop):Prop:= box P T.b R w fun a w=>V9 P T.b w fun O w=>dr w fun b g=>Q6 b (fun s=> ∀w,g w→fieldAddr P T.b a 2 w (dk b s w)) fun s=>Q6 b (fun r=> ∀w,g w→fieldAddr P T.b a 6 w (dk b r w)) fun r=>Q6 b (fun q=> ∀p w,g w→s p w→Q2 P T.h p w (dk b q w)) fun q=>Q6 b (fun t=> ∀o w,g w→q o w→Q1 P F.a8 [o] w (dk b t w)) fun t=>Q6 b (fun e=> ∀n w,g w→r n w→Q2 P T.k n w (dk b e w)) fun e=>Q6 b (fun i=> ∀w,g w→fieldAddr P T.b a 2 w (dk b i w)) fun i=>Q6 b (fun h=> ∀f w,g w→e f w→Q1 P F.ac [f] w (dk b h w)) fun h=>∀p n o N f m k w,g w→s p w→r n w→q o w→t N w→e f w→i m w→h k w→ Y0 P T.h m N w fun _u w=>fieldAddr P T.b a 6 w fun M w=>Y0 P T.k M k w fun _u w=>fieldAddr P T.b a 7 w fun C w=>Q2 P T.j C w fun j w=>X3 P .len [T.j] T.e [false] [j] w fun v w=>lp (α:=Value×Value) ((.slice none 0 0),(.int .i64 0)) w fun d l U w=>Q3 P .lss T.e (.tmp 17) (.tmp 16) l.2 v w fun E w=>X1 E (indexAddr P T.j j l.2 w fun D w=>Q2 P T.d D w fun u w=>V9 P T.d w fun c w=>Y0 P T.d c u w fun _u w=>Q2 P T.d c w fun y w=>Q1 P F.c8 [y] w fun J w=>buildSlice P T.j 1 [(0,J)] w fun B w=>X3 P .append [T.j,T.j] T.j [false,false] [l.1,B] w fun z w=>Q3 P .add T.e (.tmp 17) (.const (.int .i64 1)) l.2 (.int .i64 1) w fun A w=>d (z,A) w) (fieldAddr P T.b a 7 w fun L w=>Y0 P T.j L l.1 w fun _u w=>Q2 P T.b a w fun H w=>Y0 P T.b O H w fun _u w=>Y8 P T.b O w fun Q=>K Q w)
theorem Q4F {a:Value} {w:World} {K:Value→World→Prop} (h:Tk a w K):Q1 P F.cz [a] w K:=Q9 Q4H Tryz.func43 rfl (by decide) (by kernel_rfl) h
def Ji (g h:Value) (w:World) (K:Value→World→Prop):Prop:= nilCheck P g w fun e w=>fieldAddr P T.z e 1 w fun b w=>Q2 P T.a2 b w fun c w=>lookup P T.a2 c h true w fun a w=>ext P a 0 w fun f w=>ext P a 1 w fun d w=>K d w
theorem Et {a b:Value} {w:World} {K:Value→World→Prop} (h:Ji a b w K):Q1 P F.j [a,b] w K:=Q9 (List.replicate 3 none) Tryz.func44 rfl (by decide) (by kernel_rfl) h
def Ng (t v:Value) (w:World) (K:Value→World→Prop):Prop:= V9 P T.b w fun s w=>dr w fun a h=>Q6 a (fun n=> ∀w,h w→nilCheck P t w (dk a n w)) fun n=>Q6 a (fun m=> ∀l w,h w→n l w→fieldAddr P T.z l 0 w (dk a m w)) fun m=>Q6 a (fun c=> ∀w,h w→nilCheck P t w (dk a c w)) fun c=>Q6 a (fun b=> ∀g w,h w→c g w→fieldAddr P T.z g 1 w (dk a b w)) fun b=>Q6 a (fun o=> ∀k w,h w→m k w→Q2 P T.i k w (dk a o w)) fun o=>Q6 a (fun d=> ∀e w,h w→b e w→Q2 P T.a2 e w (dk a d w)) fun d=>Q6 a (fun i=> ∀f w,h w→d f w→lookup P T.a2 f v false w (dk a i w)) fun i=>∀l k g e r f j w,h w→n l w→m k w→c g w→b e w→o r w→d f w→i j w→ indexAddr P T.i r j w fun q w=>Q2 P T.b q w fun p w=>Y0 P T.b s p w fun _u w=>Y8 P T.b s w fun u=>K u w
theorem Kx {a b:Value} {w:World} {K:Value→World→Prop} (h:Ng a b w K):Q1 P F.h [a,b] w K:=Q9 (List.replicate 2 none) Tryz.func82 rfl (by decide) (by kernel_rfl) h
def Gr:V6:=[none,none,none,none,none,none,some ([29],[4,6,29,30,31,32,33,34,35,36,37,38,39,40,41,42,43,44]),none,none,none,none,none,none,none]
def Wx (h R:Value) (w:World) (K:Value→World→Prop):Prop:= box P T.b R w fun a w=>fieldAddr P T.b a 1 w fun Q w=>Q2 P T.c Q w fun O w=>Q1 P F.j [h,O] w fun E w=>J6 P .not E w fun b w=>Q0 b false w (fun w J=>J h w) fun H w=>Q0 b false w (fieldAddr P T.b a 1) fun z w=>Q0 b false w (Q2 P T.c z) fun r w=>Q0 b false w (Q1 P F.h [H,r]) fun o w=>Q0 b false w (F2 P T.b o 3) fun u w=>pick P b (.bool true) u w fun c w=>Q0 c false w (fun w J=>J h w) fun l w=>Q0 c false w (fieldAddr P T.b a 1) fun j w=>Q0 c false w (Q2 P T.c j) fun q w=>Q0 c false w (Q1 P F.h [l,q]) fun C w=>Q0 c false w (F2 P T.b C 5) fun v w=>pick P c (.bool true) v w fun s w=>X1 s (K (.int .i64 61) w) (fieldAddr P T.b a 2 w fun t w=>Q2 P T.h t w fun f w=>X3 P .len [T.h] T.e [false] [f] w fun D w=>lp (α:=Value) (.int .i64 0) w fun e i U w=>Q3 P .lss T.e (.tmp 29) (.tmp 28) i D w fun y w=>X1 y (indexAddr P T.h f i w fun L w=>Q2 P T.c L w fun g w=>Q1 P F.j [h,g] w fun m w=>J6 P .not m w fun d w=>Q0 d false w (fun w J=>J h w) fun n w=>Q0 d false w (fun w J=>J g w) fun N w=>Q0 d false w (Q1 P F.h [n,N]) fun A w=>Q0 d false w (F2 P T.b A 3) fun B w=>Q0 d false w (J6 P .not B) fun k w=>pick P d (.bool true) k w fun M w=>X1 M (K (.int .i64 62) w) (Q3 P .add T.e (.tmp 29) (.const (.int .i64 1)) i (.int .i64 1) w fun p w=>e p w)) (K (.int .i64 0) w))
theorem Ff {a b:Value} {w:World} {K:Value→World→Prop} (h:Wx a b w K):Q1 P F.bd [a,b] w K:=Q9 Gr Tryz.func45 rfl (by decide) (by kernel_rfl) h
def Yf:V6:=[none,none,none,some ([8],[4,5,8,9,10,11,12,13,14,15,16,17,18]),none,none,none,none,none,none,none]
def F3 (g j:Value) (w:World) (K:Value→World→Prop):Prop:= X3 P .len [T.i] T.e [false] [g] w fun i w=>lp (α:=Value) (.int .i64 0) w fun a b k w=>Q3 P .lss T.e (.tmp 8) (.tmp 7) b i w fun h w=>X1 h (indexAddr P T.i g b w fun d w=>Q2 P T.b d w fun f w=>Z3 P j [f] w fun c w=>X1 c (K b w) (Q3 P .add T.e (.tmp 8) (.const (.int .i64 1)) b (.int .i64 1) w fun e w=>a e w)) (K (.int .i64 (-1)) w)
theorem Yq {a b:Value} {w:World} {K:Value→World→Prop} (h:F3 a b w K):Q1 P F.p [a,b] w K:=Q9 Yf Tryz.func46 rfl (by decide) (by kernel_rfl) h
def Ie:V6:=[none,none,none,some ([7],[6,7,9,10,11,12,16,17,18,19,20,21,22,23,24,25,26,27,28,29,30,31,32,33,34,35,36,37,38,39,40,41,42,43,44,45,46,47,48,49,50,51,52]),none,none,none,none,none,none,none,none,none,none,none,none,none]
def Mf (R W U:Value) (w:World) (K:Value→World→Prop):Prop:= buildSlice P T.h 1 [(0,W)] w fun B w=>Pk P T.a2 none w fun s w=>lp (α:=Value) B w fun b D X w=>X3 P .len [T.h] T.e [false] [D] w fun A w=>Q3 P .gtr T.e (.tmp 17) (.const (.int .i64 0)) A (.int .i64 0) w fun L w=>X1 L (indexAddr P T.h D (.int .i64 0) w fun v w=>Q2 P T.c v w fun e w=>R6 P T.h D (some (.int .i64 1)) none none w fun t w=>lookup P T.a2 s e true w fun u w=>ext P u 0 w fun V w=>ext P u 1 w fun d w=>Q0 d false w (fun w J=>J R w) fun C w=>Q0 d false w (fun w J=>J e w) fun H w=>Q0 d false w (Q1 P F.j [C,H]) fun M w=>Q0 d false w (J6 P .not M) fun y w=>pick P d (.bool true) y w fun O w=>X1 O (b t w) (mapUpdate P T.a2 s e (.int .i64 1) w fun _u w=>Q1 P F.h [R,e] w fun N w=>V9 P T.b w fun a w=>Y0 P T.b a N w fun _u w=>Q2 P T.b a w fun Q w=>Z3 P U [Q] w fun z w=>X1 z (K (.bool true) w) (dr w fun c p=>Q6 c (fun m=> ∀w,p w→fieldAddr P T.b a 1 w (dk c m w)) fun m=>Q6 c (fun k=> ∀w,p w→fieldAddr P T.b a 2 w (dk c k w)) fun k=>Q6 c (fun g=> ∀h w,p w→m h w→Q2 P T.c h w (dk c g w)) fun g=>Q6 c (fun f=> ∀l w,p w→g l w→buildSlice P T.h 1 [(0,l)] w (dk c f w)) fun f=>Q6 c (fun o=> ∀i w,p w→f i w→X3 P .append [T.h,T.h] T.h [false,false] [t,i] w (dk c o w)) fun o=>Q6 c (fun n=> ∀j w,p w→k j w→Q2 P T.h j w (dk c n w)) fun n=>∀h j l i q r w,p w→m h w→k j w→g l w→f i w→o q w→n r w→ X3 P .append [T.h,T.h] T.h [false,false] [q,r] w fun E w=>b E w))) (K (.bool false) w)
theorem Tc {b c a:Value} {w:World} {K:Value→World→Prop} (h:Mf b c a w K):Q1 P F.w [b,c,a] w K:=Q9 Ie Tryz.func84 rfl (by decide) (by kernel_rfl) h
def Jj (g h:Value) (w:World) (K:Value→World→Prop):Prop:= box P T.b g w fun a w=>fieldAddr P T.b a 0 w fun b w=>Q2 P T.c b w fun f w=>fieldAddr P T.b h 0 w fun e w=>Q2 P T.c e w fun d w=>Q3 P .eql T.c (.tmp 5) (.tmp 7) f d w fun c w=>K c w
theorem Sf {a b:Value} {w:World} {K:Value→World→Prop} (h:Jj a b w K):Q1 P F.c9 [a,b] w K:=Q9 (List.replicate 2 none) Tryz.func85 rfl (by decide) (by kernel_rfl) h
def Vo (e f a:Value) (w:World) (K:Value→World→Prop):Prop:= Q2 P T.r f w fun d w=>E8 P (.func F.c9) [] [a] w fun c w=>Q1 P F.w [d,e,c] w fun b w=>K b w
theorem Bv {b c a:Value} {w:World} {K:Value→World→Prop} (h:Vo b c a w K):Q1 P F.ba [b,c,a] w K:=Q9 (List.replicate 2 none) Tryz.func83 rfl (by decide) (by kernel_rfl) h
def Lx (l m:Value) (w:World) (K:Value→World→Prop):Prop:= box P T.r l w fun c w=>box P T.b m w fun a w=>E8 P (.func F.ba) [] [c,a] w fun i w=>fieldAddr P T.b a 1 w fun k w=>Q2 P T.c k w fun j w=>Z3 P i [j] w fun b w=>Q0 b false w (fieldAddr P T.b a 2) fun e w=>Q0 b false w (Q2 P T.h e) fun g w=>Q0 b false w (fun w J=>J i w) fun f w=>Q0 b false w (Q1 P F.c [g,f]) fun h w=>pick P b (.bool true) h w fun d w=>K d w
theorem Pz {a b:Value} {w:World} {K:Value→World→Prop} (h:Lx a b w K):Q1 P F.bm [a,b] w K:=Q9 (List.replicate 3 none) Tryz.func47 rfl (by decide) (by kernel_rfl) h
def Sg:V6:=[none,none,none,some ([8],[4,5,8,9,10,11,12,13,14,15,16,17,18]),none,none,none,none,none,none,none]
def Jn (g j:Value) (w:World) (K:Value→World→Prop):Prop:= X3 P .len [T.a7] T.e [false] [g] w fun i w=>lp (α:=Value) (.int .i64 0) w fun a b k w=>Q3 P .lss T.e (.tmp 8) (.tmp 7) b i w fun h w=>X1 h (indexAddr P T.a7 g b w fun d w=>Q2 P T.e d w fun f w=>Q3 P .eql T.e (.tmp 11) (.tmp 15) j f w fun c w=>X1 c (K b w) (Q3 P .add T.e (.tmp 8) (.const (.int .i64 1)) b (.int .i64 1) w fun e w=>a e w)) (K (.int .i64 (-1)) w)
theorem Sz {a b:Value} {w:World} {K:Value→World→Prop} (h:Jn a b w K):Q1 P F.ca [a,b] w K:=Q9 Sg Tryz.func139 rfl (by decide) (by kernel_rfl) h
def Yc (c d:Value) (w:World) (K:Value→World→Prop):Prop:= Q1 P F.ca [c,d] w fun b w=>Q3 P .geq T.e (.tmp 7) (.const (.int .i64 0)) b (.int .i64 0) w fun a w=>K a w
theorem Eo {a b:Value} {w:World} {K:Value→World→Prop} (h:Yc a b w K):Q1 P F.aG [a,b] w K:=Q9 (List.replicate 2 none) Tryz.func88 rfl (by decide) (by kernel_rfl) h
def Bs:V6:=[none,none,none,none,some ([35],[7,35,36,37,38,39,40,41,42,43,44,45,46,47]),none,none,none,none]
def Qr (a0 a1 a2 a3 a4:Value) (w:World) (K:Value→World→Prop):Prop:= Q2 P T.e a1 w fun t9 w=>Q3 P .lss T.e (.tmp 8) (.tmp 9) a0 t9 w fun O w=>Q0 O false w (Q2 P T.a7 a2) fun aq w=>Q0 O false w (fun w J=>J a0 w) fun ar w=>Q0 O false w (Q1 P F.aG [aq,ar]) fun am w=>pick P O (.bool true) am w fun ak w=>X1 ak (K (.tuple #[]) w) (dr w fun a b=>Q6 a (fun H=> ∀w,b w→Q2 P T.r a3 w (dk a H w)) fun H=>Q6 a (fun V=> ∀l w,b w→H l w→nilCheck P l w (dk a V w)) fun V=>Q6 a (fun L=> ∀p w,b w→V p w→fieldAddr P T.z p 0 w (dk a L w)) fun L=>Q6 a (fun E=> ∀C w,b w→L C w→Q2 P T.i C w (dk a E w)) fun E=>Q6 a (fun e=> ∀z w,b w→E z w→indexAddr P T.i z a0 w (dk a e w)) fun e=>Q6 a (fun u=> ∀c w,b w→e c w→fieldAddr P T.b c 1 w (dk a u w)) fun u=>Q6 a (fun y=> ∀m w,b w→u m w→Q2 P T.c m w (dk a y w)) fun y=>Q6 a (fun W=> ∀M w,b w→y M w→buildSlice P T.h 1 [(0,M)] w (dk a W w)) fun W=>Q6 a (fun i=> ∀w,b w→Q2 P T.r a3 w (dk a i w)) fun i=>Q6 a (fun g=> ∀q w,b w→i q w→nilCheck P q w (dk a g w)) fun g=>Q6 a (fun Q=> ∀r w,b w→g r w→fieldAddr P T.z r 0 w (dk a Q w)) fun Q=>Q6 a (fun t=> ∀n w,b w→Q n w→Q2 P T.i n w (dk a t w)) fun t=>Q6 a (fun v=> ∀N w,b w→t N w→indexAddr P T.i N a0 w (dk a v w)) fun v=>Q6 a (fun j=> ∀s w,b w→v s w→fieldAddr P T.b s 2 w (dk a j w)) fun j=>Q6 a (fun Z=> ∀R w,b w→j R w→Q2 P T.h R w (dk a Z w)) fun Z=>∀l p C z c m M aa q r n N s R ac w,b w→H l w→V p w→L C w→E z w→e c w→u m w→y M w→W aa w→i q w→g r w→Q n w→t N w→v s w→j R w→Z ac w→ X3 P .append [T.h,T.h] T.h [false,false] [aa,ac] w fun ae w=>X3 P .len [T.h] T.e [false] [ae] w fun ap w=>lp (α:=Value) (.int .i64 0) w fun k x4 d_ w=>Q3 P .lss T.e (.tmp 35) (.tmp 34) x4 ap w fun ax w=>X1 ax (indexAddr P T.h ae x4 w fun ah w=>Q2 P T.c ah w fun ag w=>dr w fun a b=>Q6 a (fun X=> ∀w,b w→Q2 P T.ak a4 w (dk a X w)) fun X=>Q6 a (fun d=> ∀w,b w→Q2 P T.r a3 w (dk a d w)) fun d=>Q6 a (fun B=> ∀A w,b w→d A w→nilCheck P A w (dk a B w)) fun B=>Q6 a (fun h=> ∀D w,b w→B D w→fieldAddr P T.z D 1 w (dk a h w)) fun h=>Q6 a (fun o=> ∀f w,b w→h f w→Q2 P T.a2 f w (dk a o w)) fun o=>Q6 a (fun Y=> ∀U w,b w→o U w→lookup P T.a2 U ag false w (dk a Y w)) fun Y=>∀af A D f U ab w,b w→X af w→d A w→B D w→h f w→o U w→Y ab w→ Z3 P af [ab] w fun az w=>Q3 P .add T.e (.tmp 35) (.const (.int .i64 1)) x4 (.int .i64 1) w fun av w=>k av w) (Q2 P T.a7 a2 w fun an w=>buildSlice P T.a7 1 [(0,a0)] w fun ao w=>X3 P .append [T.a7,T.a7] T.a7 [false,false] [an,ao] w fun ai w=>Y0 P T.a7 a2 ai w fun _u w=>K (.tuple #[]) w))
theorem Vm {d e a c b:Value} {w:World} {K:Value→World→Prop} (h:Qr d e a c b w K):Q1 P F.y [d,e,a,c,b] w K:=Q9 Bs Tryz.func87 rfl (by decide) (by kernel_rfl) h
def Is:V6:=[none,none,none,none,none,none,some ([7],[7,10,11,12,13,14,15,16,17,18,19,20,21]),none,none,none,none]
def Ly (s t:Value) (w:World) (K:Value→World→Prop):Prop:= box P T.r s w fun d w=>box P T.e t w fun b w=>V9 P T.a7 w fun c w=>V9 P T.ak w fun a w=>E8 P (.func F.y) [] [b,c,d,a] w fun r w=>Y0 P T.ak a r w fun _u w=>Q2 P T.e b w fun p w=>lp (α:=Value) p w fun e f u w=>Q2 P T.r d w fun l w=>nilCheck P l w fun n w=>fieldAddr P T.z n 0 w fun o w=>Q2 P T.i o w fun j w=>X3 P .len [T.i] T.e [false] [j] w fun i w=>Q3 P .lss T.e (.tmp 10) (.tmp 15) f i w fun g w=>X1 g (Q2 P T.ak a w fun k w=>Z3 P k [f] w fun q w=>Q3 P .add T.e (.tmp 17) (.const (.int .i64 1)) f (.int .i64 1) w fun m w=>e m w) (Q2 P T.a7 c w fun h w=>K h w)
theorem Pm {a b:Value} {w:World} {K:Value→World→Prop} (h:Ly a b w K):Q1 P F.bn [a,b] w K:=Q9 Is Tryz.func48 rfl (by decide) (by kernel_rfl) h
def Zm:V6:=[none,some ([2,3],[2,3,7,8,9,10,11,12,13,14,15,16,17,18,19,20,21,22,23,24,25,26,27]),none,none,none]
def G9 (l:Value) (w:World) (K:Value→World→Prop):Prop:= X3 P .len [T.i] T.e [false] [l] w fun t w=>Q3 P .sub T.e (.tmp 5) (.const (.int .i64 1)) t (.int .i64 1) w fun s w=>lp (α:=Value×Value) ((.int .i64 0),s) w fun a f u w=>Q3 P .lss T.e (.tmp 7) (.tmp 8) f.1 f.2 w fun r w=>X1 r (dr w fun g m=>Q6 g (fun e=> ∀w,m w→indexAddr P T.i l f.2 w (dk g e w)) fun e=>Q6 g (fun b=> ∀w,m w→indexAddr P T.i l f.1 w (dk g b w)) fun b=>Q6 g (fun h=> ∀c w,m w→e c w→Q2 P T.b c w (dk g h w)) fun h=>Q6 g (fun i=> ∀d w,m w→b d w→Q2 P T.b d w (dk g i w)) fun i=>∀c d j k w,m w→e c w→b d w→h j w→i k w→ indexAddr P T.i l f.1 w fun n w=>Y0 P T.b n j w fun _u w=>indexAddr P T.i l f.2 w fun q w=>Y0 P T.b q k w fun _u w=>Q3 P .add T.e (.tmp 10) (.const (.int .i64 1)) f.1 (.int .i64 1) w fun o w=>Q3 P .sub T.e (.tmp 12) (.const (.int .i64 1)) f.2 (.int .i64 1) w fun p w=>a (o,p) w) (K (.tuple #[]) w)
theorem Zr {a:Value} {w:World} {K:Value→World→Prop} (h:G9 a w K):Q1 P F.q [a] w K:=Q9 Zm Tryz.func117 rfl (by decide) (by kernel_rfl) h
def Tn:V6:=[none,none,none,none,some ([5,6],[5,6,8,9,10,11,12,13,14,15,16,17,18,19,20]),none,none,none,none,none]
def Oi (h k:Value) (w:World) (K:Value→World→Prop):Prop:= lp (α:=Value×Value) ((.slice none 0 0),k) w fun a b l w=>Q1 P F.j [h,b.2] w fun c w=>X1 c (Q1 P F.h [h,b.2] w fun i w=>buildSlice P T.i 1 [(0,i)] w fun e w=>X3 P .append [T.i,T.i] T.i [false,false] [b.1,e] w fun g w=>Q1 P F.h [h,b.2] w fun f w=>F2 P T.b f 1 w fun d w=>a (g,d) w) (Q1 P F.q [b.1] w fun j w=>K b.1 w)
theorem Ac {a b:Value} {w:World} {K:Value→World→Prop} (h:Oi a b w K):Q1 P F.aU [a,b] w K:=Q9 Tn Tryz.func70 rfl (by decide) (by kernel_rfl) h
def Fz:V6:=[none,none,none,none,some ([5,12],[5,7,12,13,14,15,16,17,18,19,20]),none,none,none,none,none]
def Wu (m n:Value) (w:World) (K:Value→World→Prop):Prop:= Q1 P F.aU [m,n] w fun d w=>X3 P .len [T.i] T.e [false] [d] w fun i w=>lp (α:=Value×Value) ((.slice none 0 0),(.int .i64 0)) w fun b c o w=>Q3 P .lss T.e (.tmp 12) (.tmp 11) c.2 i w fun f w=>X1 f (indexAddr P T.i d c.2 w fun e w=>Q2 P T.b e w fun j w=>V9 P T.b w fun a w=>Y0 P T.b a j w fun _u w=>fieldAddr P T.b a 6 w fun l w=>Q2 P T.k l w fun k w=>X3 P .append [T.k,T.k] T.k [false,false] [c.1,k] w fun g w=>Q3 P .add T.e (.tmp 12) (.const (.int .i64 1)) c.2 (.int .i64 1) w fun h w=>b (g,h) w) (K c.1 w)
theorem Gb {a b:Value} {w:World} {K:Value→World→Prop} (h:Wu a b w K):Q1 P F.a2 [a,b] w K:=Q9 Fz Tryz.func36 rfl (by decide) (by kernel_rfl) h
def Vh (f g:Value) (w:World) (K:Value→World→Prop):Prop:= box P T.o f w fun a w=>fieldAddr P T.o a 0 w fun b w=>Q2 P T.c b w fun e w=>Q2 P T.c g w fun d w=>Q3 P .eql T.c (.tmp 5) (.tmp 6) e d w fun c w=>K c w
theorem Bm {a b:Value} {w:World} {K:Value→World→Prop} (h:Vh a b w K):Q1 P F.ch [a,b] w K:=Q9 (List.replicate 2 none) Tryz.func141 rfl (by decide) (by kernel_rfl) h
def Nx (f g e:Value) (w:World) (K:Value→World→Prop):Prop:= box P T.c e w fun a w=>Q1 P F.a2 [f,g] w fun d w=>E8 P (.func F.ch) [] [a] w fun b w=>Q1 P F.i [d,b] w fun c w=>K c w
theorem Ip {b c a:Value} {w:World} {K:Value→World→Prop} (h:Nx b c a w K):Q1 P F.bp [b,c,a] w K:=Q9 (List.replicate 2 none) Tryz.func89 rfl (by decide) (by kernel_rfl) h
def Qw (d e:Value) (w:World) (K:Value→World→Prop):Prop:= nilCheck P d w fun c w=>indexAddr P T.ab c e w fun b w=>Q2 P T.u b w fun a w=>K a w
theorem Ny {a b:Value} {w:World} {K:Value→World→Prop} (h:Qw a b w K):Q1 P F.ax [a,b] w K:=Q9 (List.replicate 2 none) Tryz.func187 rfl (by decide) (by kernel_rfl) h
def Cd:V6:=[none,some ([0],[0,5,6,7,8,9,10,11,12,13,14,15,16,17,18,19,20]),some ([0],[0,5,6,7,8,9,10,11,12,13,14,15,16,17,18,19,20]),none,none,none,none,none]
def Ud (o q:Value) (w:World) (K:Value→World→Prop):Prop:= jn (α:=Value) w (fun k w=>lp (α:=Value) o w fun a b p w=>X3 P .len [T.c] T.e [false] [b] w fun n w=>Q3 P .gtr T.e (.tmp 6) (.const (.int .i64 0)) n (.int .i64 0) w fun m w=>X1 m (X3 P .len [T.c] T.e [false] [b] w fun g w=>Q3 P .sub T.e (.tmp 11) (.const (.int .i64 1)) g (.int .i64 1) w fun i w=>S9 P T.c b i w fun j w=>Q1 P F.ax [q,j] w fun e w=>J6 P .not e w fun d w=>X1 d (k b w) (X3 P .len [T.c] T.e [false] [b] w fun h w=>Q3 P .sub T.e (.tmp 18) (.const (.int .i64 1)) h (.int .i64 1) w fun f w=>R6 P T.c b none (some f) none w fun c w=>a c w)) (k b w)) fun l p w=>K l w
theorem Rv {a b:Value} {w:World} {K:Value→World→Prop} (h:Ud a b w K):Q1 P F.am [a,b] w K:=Q9 Cd Tryz.func158 rfl (by decide) (by kernel_rfl) h
end Go.Proofs.YtjdiakhipmggjaaGreatDoor

set_option maxRecDepth 100000
namespace Go.Proofs.YtjdiakhipmggjaaGreatDoor
open Go.Emb
def Dh (d c:Value) (w:World) (K:Value→World→Prop):Prop:= Q3 P .eql T.c (.tmp 7) (.const (.string ⟨#[]⟩)) d (.string ⟨#[]⟩) w fun f w=>Q0 f false w (fun w J=>J c w) fun s w=>Q0 f false w (Q3 P .eql T.c (.tmp 10) (.const (.string ⟨#[]⟩)) s (.string ⟨#[]⟩)) fun n w=>pick P f (.bool true) n w fun r w=>X1 r (K d w) (X3 P .len [T.c] T.e [false] [c] w fun i w=>Q3 P .eql T.e (.tmp 15) (.const (.int .i64 1)) i (.int .i64 1) w fun b w=>Q0 b true w (fun w J=>J c w) fun p w=>Q0 b true w (S9 P T.c p (.int .i64 0)) fun m w=>Q0 b true w (Q3 P .lss T.a3 (.tmp 19) (.const (.int .u8 128)) m (.int .u8 128)) fun h w=>pick P b h (.bool false) w fun g w=>X1 g (S9 P T.c c (.int .i64 0) w fun k w=>Q1 P F.cT [d,k] w fun j w=>K j w) (Q1 P F.ci [c] w fun e w=>ext P e 0 w fun q w=>ext P e 1 w fun l w=>V9 P T.ab w fun a w=>Y0 P T.ab a q w fun _u w=>X1 l (Q1 P F.am [d,a] w fun o w=>K o w) (Q1 P F.cQ [d,c] w fun t w=>K t w)))
theorem Af {a b:Value} {w:World} {K:Value→World→Prop} (h:Dh a b w K):Q1 P F.bG [a,b] w K:=Q9 (List.replicate 12 none) Tryz.func116 rfl (by decide) (by kernel_rfl) h
def On (m i:Value) (w:World) (K:Value→World→Prop):Prop:= Q3 P .eql T.c (.tmp 6) (.const (.string ⟨#[110,117,108,108]⟩)) i (.string ⟨#[110,117,108,108]⟩) w fun l w=>X1 l (K (.bool true) w) (Q1 P F.bG [i,(.string ⟨#[91,93]⟩)] w fun k w=>Q1 P F.z [i] w fun a w=>Q0 a true w (fun w J=>J k w) fun e w=>Q0 a true w (Q1 P F.aN [e]) fun d w=>Q0 a true w (fun w J=>J d w) fun b w=>Q0 b false w (fun w J=>J m w) fun c w=>Q0 b false w (fun w J=>J k w) fun j w=>Q0 b false w (Q1 P F.j [c,j]) fun h w=>Q0 a true w (pick P b (.bool true) h) fun f w=>pick P a f (.bool false) w fun g w=>K g w)
theorem Am {a b:Value} {w:World} {K:Value→World→Prop} (h:On a b w K):Q1 P F.s [a,b] w K:=Q9 (List.replicate 6 none) Tryz.func69 rfl (by decide) (by kernel_rfl) h
def Ua (c g:Value) (w:World) (K:Value→World→Prop):Prop:= Q3 P .neq T.c (.tmp 4) (.const (.string ⟨#[110,117,108,108]⟩)) c (.string ⟨#[110,117,108,108]⟩) w fun a w=>Q0 a true w (Q2 P T.r g) fun f w=>Q0 a true w (fun w J=>J c w) fun e w=>Q0 a true w (Q1 P F.s [f,e]) fun d w=>pick P a d (.bool false) w fun b w=>K b w
theorem Sa {a b:Value} {w:World} {K:Value→World→Prop} (h:Ua a b w K):Q1 P F.aj [a,b] w K:=Q9 (List.replicate 2 none) Tryz.func90 rfl (by decide) (by kernel_rfl) h
def Jz (d e:Value) (w:World) (K:Value→World→Prop):Prop:= Q2 P T.a4 e w fun a w=>Z3 P a [d] w fun c w=>J6 P .not c w fun b w=>K b w
theorem Rm {a b:Value} {w:World} {K:Value→World→Prop} (h:Jz a b w K):Q1 P F.ak [a,b] w K:=Q9 (List.replicate 2 none) Tryz.func91 rfl (by decide) (by kernel_rfl) h
def Q1f (s:Value) (w:World) (K:Value→World→Prop):Prop:= box P T.d s w fun b w=>dr w fun a c=>Q6 a (fun k=> ∀w,c w→fieldAddr P T.d b 1 w (dk a k w)) fun k=>Q6 a (fun d=> ∀w,c w→fieldAddr P T.d b 2 w (dk a d w)) fun d=>Q6 a (fun e=> ∀m w,c w→k m w→Q2 P T.h m w (dk a e w)) fun e=>Q6 a (fun i=> ∀j w,c w→e j w→Q1 P F.cP [j,(.string ⟨#[44]⟩)] w (dk a i w)) fun i=>Q6 a (fun l=> ∀h w,c w→i h w→Q3 P .add T.c (.const (.string ⟨#[40]⟩)) (.tmp 5) (.string ⟨#[40]⟩) h w (dk a l w)) fun l=>Q6 a (fun n=> ∀g w,c w→l g w→Q3 P .add T.c (.tmp 6) (.const (.string ⟨#[41]⟩)) g (.string ⟨#[41]⟩) w (dk a n w)) fun n=>Q6 a (fun o=> ∀f w,c w→d f w→Q2 P T.c f w (dk a o w)) fun o=>∀m f j h g r q w,c w→k m w→d f w→e j w→i h w→l g w→n r w→o q w→ Q3 P .add T.c (.tmp 7) (.tmp 9) r q w fun p w=>K p w
theorem Q5l {a:Value} {w:World} {K:Value→World→Prop} (h:Q1f a w K):Q1 P F.cg [a] w K:=Q9 (List.replicate 2 none) Tryz.func95 rfl (by decide) (by kernel_rfl) h
def Zb (a0 X Z a3:Value) (w:World) (K:Value→World→Prop):Prop:= box P T.d a0 w fun b w=>Q2 P T.w X w fun Y w=>fieldAddr P T.d b 0 w fun U w=>Q2 P T.c U w fun O w=>lookup P T.w Y O true w fun H w=>ext P H 0 w fun V w=>ext P H 1 w fun f w=>dr w fun a d=>Q6 a (fun u=> ∀w,d w→fieldAddr P T.d b 0 w (dk a u w)) fun u=>Q6 a (fun t=> ∀w,d w→fieldAddr P T.d b 0 w (dk a t w)) fun t=>Q6 a (fun r=> ∀w,d w→fieldAddr P T.b Z 0 w (dk a r w)) fun r=>Q6 a (fun e=> ∀w,d w→Q2 P T.w X w (dk a e w)) fun e=>Q6 a (fun y=> ∀l w,d w→u l w→Q2 P T.c l w (dk a y w)) fun y=>Q6 a (fun A=> ∀w,d w→Q2 P T.w a3 w (dk a A w)) fun A=>Q6 a (fun B=> ∀s w,d w→t s w→Q2 P T.c s w (dk a B w)) fun B=>Q6 a (fun i=> ∀w,d w→Q2 P T.d b w (dk a i w)) fun i=>Q6 a (fun q=> ∀h w,d w→i h w→Q1 P F.cg [h] w (dk a q w)) fun q=>Q6 a (fun z=> ∀v w,d w→r v w→Q2 P T.c v w (dk a z w)) fun z=>Q6 a (fun k=> ∀c n w,d w→e c w→y n w→mapEntry P T.w c n w (dk a k w)) fun k=>Q6 a (fun j=> ∀o w,d w→k o w→ext P o 1 w (dk a j w)) fun j=>Q6 a (fun g=> ∀c p m w,d w→e c w→j p w→q m w→entryStore P T.w c p m w (dk a g w)) fun g=>∀l s v c n E C h m D o p L w,d w→u l w→t s w→r v w→e c w→y n w→A E w→B C w→i h w→q m w→z D w→k o w→j p w→g L w→ mapUpdate P T.w E C D w fun _u w=>Q0 f true w (fun w J=>J V w) fun R w=>Q0 f true w (Q2 P T.d b) fun M w=>Q0 f true w (Q1 P F.cg [M]) fun W w=>Q0 f true w (Q3 P .neq T.c (.tmp 29) (.tmp 31) R W) fun N w=>pick P f N (.bool false) w fun Q w=>K Q w
theorem Hb {c d a b:Value} {w:World} {K:Value→World→Prop} (h:Zb c d a b w K):Q1 P F.aK [c,d,a,b] w K:=Q9 (List.replicate 4 none) Tryz.func94 rfl (by decide) (by kernel_rfl) h
def Jo (g h b:Value) (w:World) (K:Value→World→Prop):Prop:= box P T.b g w fun a w=>fieldAddr P T.b a 7 w fun f w=>Q2 P T.j f w fun e w=>E8 P (.func F.aK) [] [h,a,b] w fun d w=>Q1 P F.a [e,d] w fun c w=>K c w
theorem Rl {b c a:Value} {w:World} {K:Value→World→Prop} (h:Jo b c a w K):Q1 P F.b1 [b,c,a] w K:=Q9 (List.replicate 2 none) Tryz.func92 rfl (by decide) (by kernel_rfl) h
def Q0X (f g:Value) (w:World) (K:Value→World→Prop):Prop:= box P T.d f w fun a w=>fieldAddr P T.d a 0 w fun b w=>Q2 P T.c b w fun e w=>Q2 P T.c g w fun d w=>Q3 P .eql T.c (.tmp 5) (.tmp 6) e d w fun c w=>K c w
theorem Q5F {a b:Value} {w:World} {K:Value→World→Prop} (h:Q0X a b w K):Q1 P F.cU [a,b] w K:=Q9 (List.replicate 2 none) Tryz.func179 rfl (by decide) (by kernel_rfl) h
def Q33 (p q:Value) (w:World) (K:Value→World→Prop):Prop:= box P T.b p w fun b w=>box P T.c q w fun a w=>V9 P T.d w fun d w=>fieldAddr P T.b b 7 w fun o w=>Q2 P T.j o w fun n w=>E8 P (.func F.cU) [] [a] w fun m w=>Q1 P F.g [n,m] w fun c w=>Q3 P .lss T.e (.tmp 11) (.const (.int .i64 0)) c (.int .i64 0) w fun k w=>X1 k (H1 P T.d [] w fun l w=>Y0 P T.d d l w fun _u w=>Y8 P T.d d w fun e=>K (.tuple #[e,(.bool false)]) w) (fieldAddr P T.b b 7 w fun h w=>Q2 P T.j h w fun f w=>indexAddr P T.j f c w fun g w=>Q2 P T.d g w fun j w=>Q1 P F.c8 [j] w fun i w=>Y0 P T.d d i w fun _u w=>Y8 P T.d d w fun e=>K (.tuple #[e,(.bool true)]) w)
theorem Q8B {a b:Value} {w:World} {K:Value→World→Prop} (h:Q33 a b w K):Q1 P F.cC [a,b] w K:=Q9 (List.replicate 6 none) Tryz.func144 rfl (by decide) (by kernel_rfl) h
def Q01:V6:=[none,none,none,some ([19],[6,8,10,11,12,13,14,15,19,20,21,22,23,24,25,26,27,28,29,30,31,32,33,34,35,36,37,38,39,40,41,42,43,44,45,46,47]),none,none,none,none,none,none,none,none,none,none,none,none]
def Da (B M L:Value) (w:World) (K:Value→World→Prop):Prop:= box P T.b M w fun d w=>V9 P T.d w fun i w=>fieldAddr P T.b d 2 w fun u w=>Q2 P T.h u w fun k w=>X3 P .len [T.h] T.e [false] [k] w fun C w=>lp (α:=Value) (.int .i64 0) w fun c A N w=>Q3 P .lss T.e (.tmp 19) (.tmp 18) A C w fun s w=>X1 s (indexAddr P T.h k A w fun q w=>Q2 P T.c q w fun f w=>Q1 P F.h [B,f] w fun v w=>Q1 P F.cC [v,L] w fun o w=>ext P o 0 w fun D w=>ext P o 1 w fun y w=>V9 P T.d w fun b w=>Y0 P T.d b D w fun _u w=>X1 y (dr w fun m p=>Q6 m (fun e=> ∀w,p w→Q2 P T.d b w (dk m e w)) fun e=>∀n w,p w→e n w→ Y0 P T.d i n w fun _u w=>Y8 P T.d i w fun j=>K (.tuple #[f,j,(.bool true)]) w) (Q1 P F.h [B,f] w fun t w=>Q1 P F.aX [B,t,L] w fun g w=>ext P g 0 w fun E w=>ext P g 1 w fun r w=>ext P g 2 w fun J w=>V9 P T.d w fun a w=>Y0 P T.d a r w fun _u w=>X1 J (dr w fun m p=>Q6 m (fun h=> ∀w,p w→Q2 P T.d a w (dk m h w)) fun h=>∀l w,p w→h l w→ Y0 P T.d i l w fun _u w=>Y8 P T.d i w fun j=>K (.tuple #[E,j,(.bool true)]) w) (Q3 P .add T.e (.tmp 19) (.const (.int .i64 1)) A (.int .i64 1) w fun H w=>c H w))) (H1 P T.d [] w fun z w=>Y0 P T.d i z w fun _u w=>Y8 P T.d i w fun j=>K (.tuple #[(.string ⟨#[]⟩),j,(.bool false)]) w)
theorem As {b c a:Value} {w:World} {K:Value→World→Prop} (h:Da b c a w K):Q1 P F.aX [b,c,a] w K:=Q9 Q01 Tryz.func145 rfl (by decide) (by kernel_rfl) h
def Fu:V6:=[none,none,none,none,none,some ([26],[6,8,11,12,13,26,27,28,29,30,31,32,33,34,35,36,37,38,39,40]),none,none,none,none,none,none,none,none,none,some ([43],[6,8,15,16,17,18,43,44,45,46,47,48,49,50,51,52,53,54,55,56,57,58]),none,none,none,none,none,none,none,none]
def Lj (Z a1 Y:Value) (w:World) (K:Value→World→Prop):Prop:= V9 P T.d w fun q w=>Q1 P F.aU [Z,a1] w fun f w=>Q1 P F.q [f] w fun aa w=>X3 P .len [T.i] T.e [false] [f] w fun H w=>lp (α:=Value) (.int .i64 0) w fun i R d_ w=>Q3 P .lss T.e (.tmp 26) (.tmp 25) R H w fun E w=>X1 E (indexAddr P T.i f R w fun U w=>Q2 P T.b U w fun Q w=>V9 P T.b w fun a w=>Y0 P T.b a Q w fun _u w=>Q2 P T.b a w fun W w=>Q1 P F.cC [W,Y] w fun u w=>ext P u 0 w fun O w=>ext P u 1 w fun B w=>V9 P T.d w fun b w=>Y0 P T.d b O w fun _u w=>X1 B (dr w fun j p=>Q6 j (fun h=> ∀w,p w→fieldAddr P T.b a 0 w (dk j h w)) fun h=>Q6 j (fun n=> ∀g w,p w→h g w→Q2 P T.c g w (dk j n w)) fun n=>Q6 j (fun l=> ∀w,p w→Q2 P T.d b w (dk j l w)) fun l=>∀g r v w,p w→h g w→n r w→l v w→ Y0 P T.d q v w fun _u w=>Y8 P T.d q w fun s=>K (.tuple #[r,s,(.bool true)]) w) (Q3 P .add T.e (.tmp 26) (.const (.int .i64 1)) R (.int .i64 1) w fun M w=>i M w)) (X3 P .len [T.i] T.e [false] [f] w fun z w=>lp (α:=Value) (.int .i64 0) w fun e m d_ w=>Q3 P .lss T.e (.tmp 43) (.tmp 42) m z w fun C w=>X1 C (indexAddr P T.i f m w fun J w=>Q2 P T.b J w fun L w=>V9 P T.b w fun c w=>Y0 P T.b c L w fun _u w=>Q2 P T.b c w fun A w=>Q1 P F.aX [Z,A,Y] w fun k w=>ext P k 0 w fun N w=>ext P k 1 w fun V w=>ext P k 2 w fun y w=>V9 P T.d w fun d w=>Y0 P T.d d V w fun _u w=>X1 y (dr w fun j p=>Q6 j (fun o=> ∀w,p w→Q2 P T.d d w (dk j o w)) fun o=>∀t w,p w→o t w→ Y0 P T.d q t w fun _u w=>Y8 P T.d q w fun s=>K (.tuple #[N,s,(.bool true)]) w) (Q3 P .add T.e (.tmp 43) (.const (.int .i64 1)) m (.int .i64 1) w fun X w=>e X w)) (H1 P T.d [] w fun D w=>Y0 P T.d q D w fun _u w=>Y8 P T.d q w fun s=>K (.tuple #[(.string ⟨#[]⟩),s,(.bool false)]) w))
theorem Gc {b c a:Value} {w:World} {K:Value→World→Prop} (h:Lj b c a w K):Q1 P F.bf [b,c,a] w K:=Q9 Fu Tryz.func96 rfl (by decide) (by kernel_rfl) h
def Fa:V6:=[none,none,none,some ([21],[4,6,21,22,23,24,25,26,27,28,29,30,31,32]),none,none,none,none,none,none,none,none,none,some ([37],[4,9,37,38,39,40,41,42,43,44,45,46]),none,none,none,none,none,none,none,none,some ([50],[4,11,50,51,52,53,54,55,56,57,58,59,60,61,62,63,64,65,66,67,68,69,70]),none,none,none,none,none,none,none,none,none,none,none,none,none,none,none,some ([],[4,14,15,16,17,82,83,84,85,86,87,88,89,90,91,92,93,94,95,96,97,98,99,100]),none,none,none,none,none,none,none]
def Vk (a0 a1:Value) (w:World) (K:Value→World→Prop):Prop:= box P T.r a0 w fun v w=>box P T.b a1 w fun i w=>fieldAddr P T.b i 6 w fun bd w=>Q2 P T.k bd w fun s w=>X3 P .len [T.k] T.e [false] [s] w fun D w=>lp (α:=Value) (.int .i64 0) w fun g x3 d_ w=>Q3 P .lss T.e (.tmp 21) (.tmp 20) x3 D w fun U w=>X1 U (indexAddr P T.k s x3 w fun ah w=>Q2 P T.o ah w fun a7 w=>V9 P T.o w fun t6 w=>Y0 P T.o t6 a7 w fun _u w=>Q2 P T.r v w fun Z w=>fieldAddr P T.b i 1 w fun aa w=>Q2 P T.c aa w fun V w=>fieldAddr P T.o t6 0 w fun aj w=>Q2 P T.c aj w fun bf w=>Q1 P F.bp [Z,V,bf] w fun a6 w=>Q3 P .geq T.e (.tmp 30) (.const (.int .i64 0)) a6 (.int .i64 0) w fun bl w=>X1 bl (K (.int .i64 64) w) (Q3 P .add T.e (.tmp 21) (.const (.int .i64 1)) x3 (.int .i64 1) w fun ad w=>g ad w)) (E8 P (.func F.aj) [] [v] w fun be w=>V9 P T.a4 w fun u w=>Y0 P T.a4 u be w fun _u w=>fieldAddr P T.b i 6 w fun af w=>Q2 P T.k af w fun n w=>X3 P .len [T.k] T.e [false] [n] w fun bj w=>lp (α:=Value) (.int .i64 0) w fun d k d_ w=>Q3 P .lss T.e (.tmp 37) (.tmp 36) k bj w fun ar w=>X1 ar (indexAddr P T.k n k w fun a2 w=>Q2 P T.o a2 w fun ac w=>V9 P T.o w fun t9 w=>Y0 P T.o t9 ac w fun _u w=>Q2 P T.a4 u w fun bg w=>fieldAddr P T.o t9 1 w fun B w=>Q2 P T.c B w fun bm w=>Z3 P bg [bm] w fun av w=>J6 P .not av w fun a4 w=>X1 a4 (K (.int .i64 65) w) (Q3 P .add T.e (.tmp 37) (.const (.int .i64 1)) k (.int .i64 1) w fun a5 w=>d a5 w)) (fieldAddr P T.b i 7 w fun ak w=>Q2 P T.j ak w fun r w=>X3 P .len [T.j] T.e [false] [r] w fun E w=>lp (α:=Value) (.int .i64 0) w fun c h d_ w=>Q3 P .lss T.e (.tmp 50) (.tmp 49) h E w fun N w=>X1 N (indexAddr P T.j r h w fun bb w=>Q2 P T.d bb w fun bn w=>V9 P T.d w fun f w=>Y0 P T.d f bn w fun _u w=>Q2 P T.a4 u w fun A w=>fieldAddr P T.d f 2 w fun H w=>Q2 P T.c H w fun a9 w=>Z3 P A [a9] w fun W w=>J6 P .not W w fun e w=>Q0 e true w (fieldAddr P T.d f 2) fun an w=>Q0 e true w (Q2 P T.c an) fun Q w=>Q0 e true w (Q3 P .neq T.c (.tmp 61) (.const (.string ⟨#[]⟩)) Q (.string ⟨#[]⟩)) fun bh w=>pick P e bh (.bool false) w fun b w=>Q0 b false w (fieldAddr P T.d f 1) fun ao w=>Q0 b false w (Q2 P T.h ao) fun C w=>Q0 b false w (E8 P (.func F.ak) [] [u]) fun z w=>Q0 b false w (Q1 P F.c [C,z]) fun bc w=>pick P b (.bool true) bc w fun bi w=>X1 bi (K (.int .i64 65) w) (Q3 P .add T.e (.tmp 50) (.const (.int .i64 1)) h (.int .i64 1) w fun am w=>c am w)) (Pk P T.w none w fun a3 w=>Pk P T.w none w fun ap w=>V9 P T.w w fun q w=>V9 P T.w w fun m w=>Y0 P T.w q a3 w fun _u w=>Y0 P T.w m ap w fun _u w=>Q2 P T.r v w fun ag w=>fieldAddr P T.b i 0 w fun ab w=>Q2 P T.c ab w fun ax w=>E8 P (.func F.b1) [] [q,m] w fun Y w=>Q1 P F.w [ag,ax,Y] w fun ai w=>X1 ai (K (.int .i64 66) w) (fieldAddr P T.b i 4 w fun bk w=>Q2 P T.u bk w fun az w=>X1 az (K (.int .i64 0) w) (Q2 P T.w m w fun aw w=>rng P T.w aw w fun p w=>lp (α:=Unit) () w fun a bq d_ w=>W3 P p false T.x w fun J w=>ext P J 0 w fun R w=>X1 R (Q8A P p w fun X w=>ext P X 0 w fun ay w=>Q2 P T.r v w fun O w=>fieldAddr P T.b i 0 w fun ba w=>Q2 P T.c ba w fun aq w=>Q1 P F.bf [O,aq,ay] w fun l w=>ext P l 0 w fun bu w=>ext P l 1 w fun L w=>ext P l 2 w fun M w=>V9 P T.d w fun o w=>Y0 P T.d o L w fun _u w=>J6 P .not M w fun j w=>Q0 j false w (fieldAddr P T.d o 3) fun y w=>Q0 j false w (Q2 P T.u y) fun a8 w=>pick P j (.bool true) a8 w fun t w=>X1 t (K (.int .i64 67) w) (a () w)) (K (.int .i64 0) w))))))
theorem Fc {a b:Value} {w:World} {K:Value→World→Prop} (h:Vk a b w K):Q1 P F.b8 [a,b] w K:=Q9 Fa Tryz.func49 rfl (by decide) (by kernel_rfl) h
def Q8t:V6:=[none,none,none,none,none,some ([30],[2,3,4,7,8,9,30,31,32,33,34,35,36,37,38,39,40,41,42,43,44,45,46,47,48,49,50,51,52]),none,none,none,none,none,none,none,none,none,none,some ([58],[2,3,4,10,11,58,59,60,61,62,63,64,65,66,67,68,69,70,71,72,73,74,75,76,77]),none,none,none,none,none,none,none,none,none,some ([85],[2,3,4,12,13,14,85,86,87,88,89,90,91,92,93,94,95,96,97]),none,none,none,none,none,none,none,none,none,none,none,none,none,some ([114],[2,3,4,17,18,114,115,116,117,118,119,120,121,122,123,124,125,126,127,128,129,130,131,132,133]),none,none,none,none,none,none,none,none]
def Q2R (a0:Value) (w:World) (K:Value→World→Prop):Prop:= Q1 P F.cF [] w fun bp w=>Pk P T.a2 none w fun ax w=>H1 P T.z [(0,bp),(1,ax)] w fun ar w=>box P T.z ar w fun a w=>nilCheck P a w fun bl w=>fieldAddr P T.z bl 0 w fun a9 w=>Q2 P T.i a9 w fun ba w=>X3 P .len [T.i] T.e [false] [ba] w fun h w=>X3 P .len [T.i] T.e [false] [a0] w fun bw w=>lp (α:=Value) (.int .i64 0) w fun m x5 d_ w=>Q3 P .lss T.e (.tmp 30) (.tmp 29) x5 bw w fun b0 w=>X1 b0 (indexAddr P T.i a0 x5 w fun bv w=>Q2 P T.b bv w fun bb w=>V9 P T.b w fun t8 w=>Y0 P T.b t8 bb w fun _u w=>Q2 P T.b t8 w fun a1 w=>Q1 P F.cy [a1] w fun ao w=>Q3 P .neq T.y (.tmp 37) (.const (.int .i64 0)) ao (.int .i64 0) w fun bh w=>X1 bh (K (.tuple #[(.pointer none),x5,ao]) w) (dr w fun b c=>Q6 b (fun k=> ∀w,c w→nilCheck P a w (dk b k w)) fun k=>Q6 b (fun u=> ∀z w,c w→k z w→fieldAddr P T.z z 0 w (dk b u w)) fun u=>Q6 b (fun L=> ∀t w,c w→u t w→Q2 P T.i t w (dk b L w)) fun L=>Q6 b (fun q=> ∀w,c w→Q2 P T.b t8 w (dk b q w)) fun q=>Q6 b (fun j=> ∀y w,c w→q y w→Q1 P F.cz [y] w (dk b j w)) fun j=>Q6 b (fun E=> ∀p w,c w→j p w→buildSlice P T.i 1 [(0,p)] w (dk b E w)) fun E=>∀z t af y p ag w,c w→k z w→u t w→L af w→q y w→j p w→E ag w→ X3 P .append [T.i,T.i] T.i [false,false] [af,ag] w fun ay w=>nilCheck P a w fun bs w=>fieldAddr P T.z bs 0 w fun a3 w=>Y0 P T.i a3 ay w fun _u w=>Q3 P .add T.e (.tmp 30) (.const (.int .i64 1)) x5 (.int .i64 1) w fun br w=>m br w)) (nilCheck P a w fun av w=>fieldAddr P T.z av 0 w fun az w=>Q2 P T.i az w fun ah w=>X3 P .len [T.i] T.e [false] [ah] w fun a6 w=>lp (α:=Value) (.int .i64 0) w fun g e d_ w=>Q3 P .lss T.e (.tmp 58) (.tmp 57) e a6 w fun a5 w=>X1 a5 (indexAddr P T.i ah e w fun a4 w=>Q2 P T.b a4 w fun bx w=>V9 P T.b w fun N w=>Y0 P T.b N bx w fun _u w=>fieldAddr P T.b N 0 w fun bm w=>Q2 P T.c bm w fun bf w=>Q1 P F.j [a,bf] w fun aw w=>X1 aw (Q3 P .sub T.e (.tmp 67) (.tmp 68) e h w fun bz w=>K (.tuple #[(.pointer none),bz,(.int .i64 60)]) w) (dr w fun b c=>Q6 b (fun l=> ∀w,c w→nilCheck P a w (dk b l w)) fun l=>Q6 b (fun r=> ∀v w,c w→l v w→fieldAddr P T.z v 1 w (dk b r w)) fun r=>Q6 b (fun i=> ∀w,c w→fieldAddr P T.b N 0 w (dk b i w)) fun i=>Q6 b (fun J=> ∀s w,c w→r s w→Q2 P T.a2 s w (dk b J w)) fun J=>Q6 b (fun M=> ∀n w,c w→i n w→Q2 P T.c n w (dk b M w)) fun M=>∀v s n X ad w,c w→l v w→r s w→i n w→J X w→M ad w→ mapUpdate P T.a2 X ad e w fun _u w=>Q3 P .add T.e (.tmp 58) (.const (.int .i64 1)) e (.int .i64 1) w fun bc w=>g bc w)) (nilCheck P a w fun bk w=>fieldAddr P T.z bk 0 w fun bj w=>Q2 P T.i bj w fun a7 w=>R6 P T.i a7 (some h) none none w fun V w=>X3 P .len [T.i] T.e [false] [V] w fun a8 w=>lp (α:=Value) (.int .i64 0) w fun d o d_ w=>Q3 P .lss T.e (.tmp 85) (.tmp 84) o a8 w fun bi w=>X1 bi (indexAddr P T.i V o w fun bq w=>Q2 P T.b bq w fun bg w=>V9 P T.b w fun al w=>Y0 P T.b al bg w fun _u w=>Q2 P T.b al w fun bu w=>Q1 P F.bd [a,bu] w fun ak w=>Q3 P .neq T.y (.tmp 93) (.const (.int .i64 0)) ak (.int .i64 0) w fun a2 w=>X1 a2 (K (.tuple #[(.pointer none),o,ak]) w) (Q3 P .add T.e (.tmp 85) (.const (.int .i64 1)) o (.int .i64 1) w fun bo w=>d bo w)) (nilCheck P a w fun bn w=>fieldAddr P T.z bn 0 w fun ai w=>Q2 P T.i ai w fun Z w=>R6 P T.i Z (some h) none none w fun W w=>E8 P (.func F.bm) [a] [] w fun Q w=>Q1 P F.p [W,Q] w fun C w=>Q3 P .geq T.e (.tmp 107) (.const (.int .i64 0)) C (.int .i64 0) w fun ap w=>X1 ap (K (.tuple #[(.pointer none),C,(.int .i64 63)]) w) (Q1 P F.bn [a,h] w fun D w=>X3 P .len [T.a7] T.e [false] [D] w fun aa w=>lp (α:=Value) (.int .i64 0) w fun f H d_ w=>Q3 P .lss T.e (.tmp 114) (.tmp 113) H aa w fun aj w=>X1 aj (indexAddr P T.a7 D H w fun R w=>Q2 P T.e R w fun B w=>nilCheck P a w fun am w=>fieldAddr P T.z am 0 w fun O w=>Q2 P T.i O w fun U w=>indexAddr P T.i U B w fun Y w=>Q2 P T.b Y w fun ab w=>Q1 P F.b8 [a,ab] w fun A w=>Q3 P .neq T.y (.tmp 127) (.const (.int .i64 0)) A (.int .i64 0) w fun ac w=>X1 ac (Q3 P .sub T.e (.tmp 129) (.tmp 130) B h w fun ae w=>K (.tuple #[(.pointer none),ae,A]) w) (Q3 P .add T.e (.tmp 114) (.const (.int .i64 1)) H (.int .i64 1) w fun an w=>f an w)) (K (.tuple #[a,(.int .i64 0),(.int .i64 0)]) w)))))
theorem Q8G {a:Value} {w:World} {K:Value→World→Prop} (h:Q2R a w K):Q1 P F.cN [a] w K:=Q9 Q8t Tryz.func12 rfl (by decide) (by kernel_rfl) h
def Vs (w:World) (K:Value→World→Prop):Prop:= H1 P T.v [(0,(.string ⟨#[105,110,116]⟩)),(1,(.int .i64 1))] w fun r w=>H1 P T.v [(0,(.string ⟨#[114,101,116,117,114,110]⟩))] w fun t w=>buildSlice P T.q 2 [(0,r),(1,t)] w fun s w=>H1 P T.o [(0,(.string ⟨#[120]⟩)),(1,(.string ⟨#[105,110,116]⟩))] w fun q w=>H1 P T.o [(0,(.string ⟨#[110,101,120,116]⟩)),(1,(.string ⟨#[65]⟩))] w fun p w=>buildSlice P T.k 2 [(0,q),(1,p)] w fun o w=>buildSlice P T.h 2 [(0,(.string ⟨#[105,110,116]⟩)),(1,(.string ⟨#[65]⟩))] w fun n w=>H1 P T.d [(0,(.string ⟨#[102]⟩)),(1,n),(2,(.string ⟨#[105,110,116]⟩)),(4,(.int .i64 3)),(5,s)] w fun l w=>H1 P T.v [(0,(.string ⟨#[114,101,116,117,114,110]⟩))] w fun i w=>buildSlice P T.q 1 [(0,i)] w fun k w=>H1 P T.d [(0,(.string ⟨#[103]⟩)),(4,(.int .i64 1)),(5,k)] w fun m w=>buildSlice P T.j 2 [(0,l),(1,m)] w fun g w=>H1 P T.b [(0,(.string ⟨#[65]⟩)),(1,(.string ⟨#[79,98,106,101,99,116]⟩)),(6,o),(7,g)] w fun e w=>buildSlice P T.h 1 [(0,(.string ⟨#[73]⟩))] w fun c w=>H1 P T.o [(0,(.string ⟨#[108]⟩)),(1,(.string ⟨#[65,91,93]⟩))] w fun f w=>buildSlice P T.k 1 [(0,f)] w fun j w=>H1 P T.b [(0,(.string ⟨#[66]⟩)),(1,(.string ⟨#[65]⟩)),(2,c),(6,j)] w fun h w=>H1 P T.b [(0,(.string ⟨#[73]⟩)),(1,(.string ⟨#[79,98,106,101,99,116]⟩)),(3,(.bool true)),(4,(.bool true))] w fun b w=>H1 P T.b [(0,(.string ⟨#[68]⟩)),(1,(.string ⟨#[79,98,106,101,99,116]⟩)),(4,(.bool true))] w fun a w=>buildSlice P T.i 4 [(0,e),(1,h),(2,b),(3,a)] w fun d w=>K d w
theorem Bn {w:World} {K:Value→World→Prop} (h:Vs w K):Q1 P F.ay [] w K:=Q9 (List.replicate 3 none) Tryz.func13 rfl (by decide) (by kernel_rfl) h
def Hn (e:Value) (w:World) (K:Value→World→Prop):Prop:= nilCheck P e w fun a w=>fieldAddr P T.p a 3 w fun d w=>Q2 P T.f d w fun c w=>X3 P .len [T.f] T.e [false] [c] w fun b w=>K b w
theorem Q1W {a:Value} {w:World} {K:Value→World→Prop} (h:Hn a w K):Q1 P F.c2 [a] w K:=Q9 (List.replicate 2 none) Tryz.func17 rfl (by decide) (by kernel_rfl) h
def Ed (p:Value) (w:World) (K:Value→World→Prop):Prop:= dr w fun a b=>Q6 a (fun g=> ∀w,b w→nilCheck P p w (dk a g w)) fun g=>Q6 a (fun k=> ∀h w,b w→g h w→fieldAddr P T.p h 1 w (dk a k w)) fun k=>Q6 a (fun f=> ∀w,b w→nilCheck P p w (dk a f w)) fun f=>Q6 a (fun l=> ∀i w,b w→f i w→fieldAddr P T.p i 2 w (dk a l w)) fun l=>Q6 a (fun m=> ∀j w,b w→k j w→Q2 P T.e j w (dk a m w)) fun m=>Q6 a (fun c=> ∀e w,b w→l e w→Q2 P T.e e w (dk a c w)) fun c=>∀h j i e o d w,b w→g h w→k j w→f i w→l e w→m o w→c d w→ Q3 P .sub T.e (.tmp 6) (.tmp 10) o d w fun n w=>K n w
theorem Q1g {a:Value} {w:World} {K:Value→World→Prop} (h:Ed a w K):Q1 P F.a7 [a] w K:=Q9 (List.replicate 2 none) Tryz.func18 rfl (by decide) (by kernel_rfl) h
def Ho (k h:Value) (w:World) (K:Value→World→Prop):Prop:= Q3 P .geq T.e (.tmp 5) (.const (.int .i64 0)) h (.int .i64 0) w fun a w=>Q0 a true w (fun w J=>J h w) fun j w=>Q0 a true w (fun w J=>J k w) fun i w=>Q0 a true w (nilCheck P i) fun c w=>Q0 a true w (fieldAddr P T.p c 3) fun f w=>Q0 a true w (Q2 P T.f f) fun b w=>Q0 a true w (X3 P .len [T.f] T.e [false] [b]) fun e w=>Q0 a true w (Q3 P .lss T.e (.tmp 8) (.tmp 13) j e) fun d w=>pick P a d (.bool false) w fun g w=>K g w
theorem Q1U {a b:Value} {w:World} {K:Value→World→Prop} (h:Ho a b w K):Q1 P F.aF [a,b] w K:=Q9 (List.replicate 2 none) Tryz.func51 rfl (by decide) (by kernel_rfl) h
def Ew (g h:Value) (w:World) (K:Value→World→Prop):Prop:= Q1 P F.aF [g,h] w fun j w=>J6 P .not j w fun i w=>X1 i (K (.string ⟨#[]⟩) w) (nilCheck P g w fun c w=>fieldAddr P T.p c 3 w fun e w=>Q2 P T.f e w fun b w=>indexAddr P T.f b h w fun d w=>fieldAddr P T.m d 0 w fun f w=>Q2 P T.c f w fun a w=>K a w)
theorem Q0O {a b:Value} {w:World} {K:Value→World→Prop} (h:Ew a b w K):Q1 P F.az [a,b] w K:=Q9 (List.replicate 5 none) Tryz.func20 rfl (by decide) (by kernel_rfl) h
def En (h i:Value) (w:World) (K:Value→World→Prop):Prop:= Q1 P F.aF [h,i] w fun k w=>J6 P .not k w fun j w=>X1 j (K (.int .i64 0) w) (nilCheck P h w fun c w=>fieldAddr P T.p c 3 w fun e w=>Q2 P T.f e w fun b w=>indexAddr P T.f b i w fun d w=>fieldAddr P T.m d 1 w fun f w=>Q2 P T.l f w fun a w=>X3 P .len [T.l] T.e [false] [a] w fun g w=>K g w)
theorem Q0u {a b:Value} {w:World} {K:Value→World→Prop} (h:En a b w K):Q1 P F.bL [a,b] w K:=Q9 (List.replicate 5 none) Tryz.func21 rfl (by decide) (by kernel_rfl) h
def Zp:V6:=[none,none,none,some ([8],[4,5,8,9,10,11,12,13,14,15,16,17,18]),none,none,none,none,none,none,none]
def I0 (g j:Value) (w:World) (K:Value→World→Prop):Prop:= X3 P .len [T.f] T.e [false] [g] w fun i w=>lp (α:=Value) (.int .i64 0) w fun a b k w=>Q3 P .lss T.e (.tmp 8) (.tmp 7) b i w fun h w=>X1 h (indexAddr P T.f g b w fun d w=>Q2 P T.m d w fun f w=>Z3 P j [f] w fun c w=>X1 c (K b w) (Q3 P .add T.e (.tmp 8) (.const (.int .i64 1)) b (.int .i64 1) w fun e w=>a e w)) (K (.int .i64 (-1)) w)
theorem Zq {a b:Value} {w:World} {K:Value→World→Prop} (h:I0 a b w K):Q1 P F.a9 [a,b] w K:=Q9 Zp Tryz.func98 rfl (by decide) (by kernel_rfl) h
def B9 (c d:Value) (w:World) (K:Value→World→Prop):Prop:= Q1 P F.a9 [c,d] w fun b w=>Q3 P .geq T.e (.tmp 7) (.const (.int .i64 0)) b (.int .i64 0) w fun a w=>K a w
theorem Xy {a b:Value} {w:World} {K:Value→World→Prop} (h:B9 a b w K):Q1 P F.o [a,b] w K:=Q9 (List.replicate 2 none) Tryz.func53 rfl (by decide) (by kernel_rfl) h
def Sw (U V:Value) (w:World) (K:Value→World→Prop):Prop:= box P T.g V w fun a w=>Q2 P T.g a w fun R w=>H1 P T.g [] w fun Q w=>Q3 P .eql T.g (.tmp 6) (.tmp 7) R Q w fun O w=>X1 O (K (.string ⟨#[110,117,108,108]⟩) w) (Q2 P T.g a w fun E w=>fieldAddr P T.g a 1 w fun y w=>Q2 P T.a0 y w fun D w=>H1 P T.g [(0,(.int .i64 1)),(1,D)] w fun H w=>Q3 P .eql T.g (.tmp 10) (.tmp 13) E H w fun s w=>X1 s (K (.string ⟨#[105,110,116]⟩) w) (Q2 P T.g a w fun j w=>fieldAddr P T.g a 1 w fun l w=>Q2 P T.a0 l w fun z w=>Q3 P .and T.a0 (.tmp 18) (.const (.int .i64 1)) z (.int .i64 1) w fun t w=>H1 P T.g [(0,(.int .i64 2)),(1,t)] w fun f w=>Q3 P .eql T.g (.tmp 16) (.tmp 20) j f w fun d w=>X1 d (K (.string ⟨#[98,111,111,108]⟩) w) (Q2 P T.g a w fun C w=>fieldAddr P T.g a 2 w fun p w=>Q2 P T.c p w fun m w=>H1 P T.g [(0,(.int .i64 3)),(2,m)] w fun n w=>Q3 P .eql T.g (.tmp 23) (.tmp 26) C n w fun b w=>Q0 b true w (fieldAddr P T.g a 2) fun A w=>Q0 b true w (Q2 P T.c A) fun q w=>Q0 b true w (X3 P .len [T.c] T.e [false] [q]) fun M w=>Q0 b true w (Q3 P .leq T.e (.tmp 31) (.const (.int .i64 4096)) M (.int .i64 4096)) fun u w=>pick P b u (.bool false) w fun c w=>Q0 c true w (fieldAddr P T.g a 2) fun g w=>Q0 c true w (Q2 P T.c g) fun L w=>Q0 c true w (Q1 P F.b2 [L]) fun i w=>pick P c i (.bool false) w fun h w=>X1 h (K (.string ⟨#[116,101,120,116]⟩) w) (Q2 P T.g a w fun v w=>fieldAddr P T.g a 3 w fun B w=>Q2 P T.e B w fun e w=>H1 P T.g [(0,(.int .i64 4)),(3,e)] w fun N w=>Q3 P .eql T.g (.tmp 40) (.tmp 43) v N w fun k w=>X1 k (fieldAddr P T.g a 3 w fun o w=>Q2 P T.e o w fun J w=>Q1 P F.az [U,J] w fun r w=>K r w) (K (.string ⟨#[]⟩) w)))))
theorem Q2y {a b:Value} {w:World} {K:Value→World→Prop} (h:Sw a b w K):Q1 P F.ce [a,b] w K:=Q9 (List.replicate 13 none) Tryz.func31 rfl (by decide) (by kernel_rfl) h
def Va (a f:Value) (w:World) (K:Value→World→Prop):Prop:= Q1 P F.ab [a,f] w fun h w=>J6 P .not h w fun g w=>X1 g (K (.tuple #[a,(.bool false)]) w) (X3 P .len [T.c] T.e [false] [a] w fun c w=>X3 P .len [T.c] T.e [false] [f] w fun d w=>Q3 P .sub T.e (.tmp 13) (.tmp 15) c d w fun b w=>R6 P T.c a none (some b) none w fun e w=>K (.tuple #[e,(.bool true)]) w)
theorem Cl {a b:Value} {w:World} {K:Value→World→Prop} (h:Va a b w K):Q1 P F.cf [a,b] w K:=Q9 (List.replicate 5 none) Tryz.func180 rfl (by decide) (by kernel_rfl) h
def Ow (d e:Value) (w:World) (K:Value→World→Prop):Prop:= Q1 P F.cf [d,e] w fun b w=>ext P b 0 w fun c w=>ext P b 1 w fun a w=>K (.tuple #[c,a]) w
theorem Tp {a b:Value} {w:World} {K:Value→World→Prop} (h:Ow a b w K):Q1 P F.bH [a,b] w K:=Q9 (List.replicate 2 none) Tryz.func146 rfl (by decide) (by kernel_rfl) h
def Q21 (g:Value) (w:World) (K:Value→World→Prop):Prop:= Q1 P F.bH [g,(.string ⟨#[91,93]⟩)] w fun f w=>ext P f 0 w fun i w=>ext P f 1 w fun h w=>J6 P .not h w fun a w=>Q0 a false w (fun w J=>J g w) fun d w=>Q0 a false w (Q1 P F.z [d]) fun c w=>Q0 a false w (J6 P .not c) fun e w=>pick P a (.bool true) e w fun b w=>X1 b (K (.string ⟨#[]⟩) w) (K i w)
theorem Q6w {a:Value} {w:World} {K:Value→World→Prop} (h:Q21 a w K):Q1 P F.c5 [a] w K:=Q9 (List.replicate 6 none) Tryz.func97 rfl (by decide) (by kernel_rfl) h
def Mk (f g:Value) (w:World) (K:Value→World→Prop):Prop:= box P T.b f w fun a w=>fieldAddr P T.b a 0 w fun b w=>Q2 P T.c b w fun e w=>Q2 P T.c g w fun d w=>Q3 P .eql T.c (.tmp 5) (.tmp 6) e d w fun c w=>K c w
theorem Pl {a b:Value} {w:World} {K:Value→World→Prop} (h:Mk a b w K):Q1 P F.bs [a,b] w K:=Q9 (List.replicate 2 none) Tryz.func110 rfl (by decide) (by kernel_rfl) h
def Ei (o d z:Value) (w:World) (K:Value→World→Prop):Prop:= box P T.c z w fun a w=>Q1 P F.s [o,d] w fun s w=>J6 P .not s w fun b w=>Q0 b false w (fun w J=>J o w) fun t w=>Q0 b false w (Q2 P T.c a) fun m w=>Q0 b false w (Q1 P F.s [t,m]) fun j w=>Q0 b false w (J6 P .not j) fun i w=>pick P b (.bool true) i w fun k w=>X1 k (K (.bool false) w) (Q2 P T.c a w fun f w=>Q3 P .eql T.c (.tmp 19) (.tmp 20) d f w fun e w=>X1 e (K (.bool true) w) (Q1 P F.aN [d] w fun c w=>Q0 c false w (Q2 P T.c a) fun l w=>Q0 c false w (Q1 P F.aN [l]) fun y w=>pick P c (.bool true) y w fun r w=>X1 r (K (.bool false) w) (Q3 P .eql T.c (.tmp 30) (.const (.string ⟨#[110,117,108,108]⟩)) d (.string ⟨#[110,117,108,108]⟩) w fun v w=>X1 v (K (.bool true) w) (Q1 P F.c5 [d] w fun p w=>Q3 P .neq T.c (.tmp 34) (.const (.string ⟨#[]⟩)) p (.string ⟨#[]⟩) w fun g w=>X1 g (Q2 P T.c a w fun u w=>Q3 P .eql T.c (.tmp 36) (.const (.string ⟨#[79,98,106,101,99,116]⟩)) u (.string ⟨#[79,98,106,101,99,116]⟩) w fun h w=>K h w) (E8 P (.func F.bs) [] [a] w fun n w=>Q1 P F.w [o,d,n] w fun q w=>K q w)))))
theorem Q14 {b c a:Value} {w:World} {K:Value→World→Prop} (h:Ei b c a w K):Q1 P F.bR [b,c,a] w K:=Q9 (List.replicate 13 none) Tryz.func62 rfl (by decide) (by kernel_rfl) h
def Em (l o n:Value) (w:World) (K:Value→World→Prop):Prop:= box P T.g o w fun b w=>Q2 P T.g b w fun m w=>Q1 P F.ce [l,m] w fun c w=>Q3 P .neq T.c (.tmp 11) (.const (.string ⟨#[]⟩)) c (.string ⟨#[]⟩) w fun a w=>Q0 a true w (fun w J=>J l w) fun f w=>Q0 a true w (nilCheck P f) fun i w=>Q0 a true w (fieldAddr P T.p i 0) fun d w=>Q0 a true w (Q2 P T.r d) fun k w=>Q0 a true w (fun w J=>J c w) fun j w=>Q0 a true w (fun w J=>J n w) fun g w=>Q0 a true w (Q1 P F.bR [k,j,g]) fun h w=>pick P a h (.bool false) w fun e w=>K e w
theorem Q0Y {b c a:Value} {w:World} {K:Value→World→Prop} (h:Em b c a w K):Q1 P F.aA [b,c,a] w K:=Q9 (List.replicate 3 none) Tryz.func27 rfl (by decide) (by kernel_rfl) h
def Dy (y z v:Value) (w:World) (K:Value→World→Prop):Prop:= box P T.m z w fun a w=>fieldAddr P T.m a 0 w fun u w=>Q2 P T.c u w fun t w=>Q1 P F.c5 [t] w fun n w=>Q3 P .neq T.c (.tmp 11) (.const (.string ⟨#[]⟩)) n (.string ⟨#[]⟩) w fun s w=>X1 s (K n w) (dr w fun b k=>Q6 b (fun c=> ∀w,k w→nilCheck P y w (dk b c w)) fun c=>Q6 b (fun g=> ∀e w,k w→c e w→fieldAddr P T.p e 0 w (dk b g w)) fun g=>Q6 b (fun h=> ∀w,k w→fieldAddr P T.m a 0 w (dk b h w)) fun h=>Q6 b (fun j=> ∀d w,k w→g d w→Q2 P T.r d w (dk b j w)) fun j=>Q6 b (fun i=> ∀f w,k w→h f w→Q2 P T.c f w (dk b i w)) fun i=>∀e d f l m w,k w→c e w→g d w→h f w→j l w→i m w→ Q1 P F.a2 [l,m] w fun o w=>indexAddr P T.k o v w fun p w=>fieldAddr P T.o p 1 w fun r w=>Q2 P T.c r w fun q w=>K q w)
theorem Q1d {b c a:Value} {w:World} {K:Value→World→Prop} (h:Dy b c a w K):Q1 P F.aB [b,c,a] w K:=Q9 (List.replicate 6 none) Tryz.func52 rfl (by decide) (by kernel_rfl) h
def Vv (g h:Value) (w:World) (K:Value→World→Prop):Prop:= Q1 P F.j [g,h] w fun a w=>Q0 a true w (fun w J=>J g w) fun i w=>Q0 a true w (fun w J=>J h w) fun c w=>Q0 a true w (Q1 P F.h [i,c]) fun f w=>Q0 a true w (F2 P T.b f 4) fun b w=>Q0 a true w (J6 P .not b) fun e w=>pick P a e (.bool false) w fun d w=>K d w
theorem Bo {a b:Value} {w:World} {K:Value→World→Prop} (h:Vv a b w K):Q1 P F.aC [a,b] w K:=Q9 (List.replicate 2 none) Tryz.func66 rfl (by decide) (by kernel_rfl) h
end Go.Proofs.YtjdiakhipmggjaaGreatDoor
