/- Parts of a proof about the given program: its functions as texts of their own, what each computes, plain laws of that. The conditions of each stand in its statement. -/
import Derived.WalkKit
import Derived.Test.YtjdiakhipmggjaaGreatDoorProg
import Derived.KernelRfl
set_option linter.unnecessarySimpa false
set_option linter.defProp false
set_option linter.unusedSectionVars false
set_option linter.unusedVariables false
set_option linter.unusedSimpArgs false
namespace Go.Emb
def P5 (P:Program) (s:Sem Next) (w:World) (K:Value→World→Prop):Prop:=
 match s.run P w with
 | .ok (.value v) w'=>K v w'
 | .ok .skip w'=>K undef w'
 | .ok (.enter f a) w'=>Calls P f a w' fun e b=>match e with | .returned v=>K v b | _=>False
 | .ok (.row row a) w'=>Rows P row a w' K
 | _=>False
theorem X1z: ∃f:Program→Sem Next→World→(Value→World→Prop)→Prop,f=P5:=⟨_,rfl⟩
noncomputable def op:Program→Sem Next→World→(Value→World→Prop)→Prop:=Classical.choose X1z
theorem T3:op=P5:=Classical.choose_spec X1z
theorem X3M {P:Program} {o:Oper} {a:Act} {w:World} {next:Act→World→Prop} {Q:Exit→Act→World→Prop}
 (h:op P (execOp a.eval o) w (fun v w=>next (a.put o.dst v) w)):o.wp P a w next Q:=by
 unfold Oper.wp
 rw[T3] at h
 unfold P5 at h
 cases b:(execOp a.eval o).run P w with
 | halt x w'=>rw[b] at h;exact h.elim
 | ok n w'=>
  rw[b] at h
  cases n<;>simp only at h<;>try exact h.elim
  ·exact h
  ·exact h
  ·refine Calls.mono h fun e d c=>?_
   cases e<;>first | exact c | exact c.elim
  ·exact h
theorem Rw {P:Program} {s:Sem Next} {K b:Value→World→Prop} {w:World} (a: ∀v w,K v w→b v w) (h:op P s w K):op P s w b:=by
 rw[T3] at*
 unfold P5 at*
 cases c:s.run P w with
 | halt x w'=>rw[c] at h;exact h.elim
 | ok n w'=>
  rw[c] at h
  cases n<;>simp only at h⊢ <;>try exact h.elim
  ·exact a _ _ h
  ·exact a _ _ h
  ·refine Calls.mono h fun e f d=>?_
   cases e<;>first | exact a _ _ d | exact d.elim
  ·exact h.mono a
def sv (s:Sem Value):Sem Next:=do Pure.pure (.value (←s))
def su (s:Sem Unit):Sem Next:=do s;Pure.pure .skip
section
variable (P : Program)
noncomputable def pick (c a b:Value) (w:World) (K:Value→World→Prop):Prop:=op P (do Pure.pure (.value (if←asBool c then a else b))) w K
noncomputable def V6 (e:TypeId) (w:World) (K:Value→World→Prop):Prop:=op P (sv (Instr.alloc e true (.tuple #[]))) w K
noncomputable def box (e:TypeId) (x:Value) (w:World) (K:Value→World→Prop):Prop:=op P (sv (Instr.box e x)) w K
noncomputable def H0 (t:TypeId) (a:List (Nat×Value)) (w:World) (K:Value→World→Prop):Prop:=op P (sv (Instr.build t a.toArray)) w K
noncomputable def buildSlice (t:TypeId) (n:Nat) (a:List (Nat×Value)) (w:World) (K:Value→World→Prop):Prop:=op P (sv (Instr.buildSlice t n a.toArray)) w K
noncomputable def Q2 (t:TypeId) (a:Value) (w:World) (K:Value→World→Prop):Prop:=op P (sv (Instr.loadAt t a)) w K
noncomputable def X9 (t:TypeId) (a x:Value) (w:World) (K:Value→World→Prop):Prop:=op P (su (Instr.storeAt t a x)) w K
noncomputable def nilCheck (x:Value) (w:World) (K:Value→World→Prop):Prop:=op P (execOp (fun _=>x) {dst:=none,op:= .nilCheck (.const x),type:=0,pos:= "",after:= #[],guard:=none}) w K
noncomputable def Q3 (o:BinOp) (t:TypeId) (a b:Operand) (x y:Value) (w:World) (K:Value→World→Prop):Prop:=op P (sv (do eqGuard o t a b x y;Go.binOp o t x y)) w K
noncomputable def J8 (o:UnOp) (x:Value) (w:World) (K:Value→World→Prop):Prop:=op P (sv (Op.unary o x)) w K
noncomputable def conv (s d:TypeId) (x:Value) (w:World) (K:Value→World→Prop):Prop:=op P (sv (Go.convert s d x)) w K
noncomputable def X25 (t:TypeId) (x:Value) (w:World) (K:Value→World→Prop):Prop:=op P (sv (Instr.makeInterface t x)) w K
noncomputable def H1 (f:Fn) (first caps:List Value) (w:World) (K:Value→World→Prop):Prop:=op P (sv (Instr.makeFunc f first.toArray caps.toArray)) w K
noncomputable def Pt (t:TypeId) (r:Option Value) (w:World) (K:Value→World→Prop):Prop:=op P (sv (Instr.makeMap t r)) w K
noncomputable def Li (t:TypeId) (n c:Value) (w:World) (K:Value→World→Prop):Prop:=op P (sv (Instr.makeSlice t n c)) w K
noncomputable def S4 (t:TypeId) (x:Value) (a b c:Option Value) (w:World) (K:Value→World→Prop):Prop:=op P (sv (Instr.sliceAt t x a b c)) w K
noncomputable def fieldAddr (t:TypeId) (x:Value) (f:Nat) (w:World) (K:Value→World→Prop):Prop:=op P (sv (Instr.fieldAt t x f)) w K
noncomputable def B7 (t:TypeId) (x:Value) (f:Nat) (w:World) (K:Value→World→Prop):Prop:=op P (sv (Instr.field t x f)) w K
noncomputable def indexAddr (t:TypeId) (x i:Value) (w:World) (K:Value→World→Prop):Prop:=op P (sv (Instr.indexAt t x i)) w K
noncomputable def C4 (t:TypeId) (x i:Value) (w:World) (K:Value→World→Prop):Prop:=op P (sv (Instr.index t x i)) w K
noncomputable def lookup (t:TypeId) (x i:Value) (ok:Bool) (w:World) (K:Value→World→Prop):Prop:=op P (sv (Instr.lookup t x i ok)) w K
noncomputable def mapUpdate (t:TypeId) (m k x:Value) (w:World) (K:Value→World→Prop):Prop:=op P (su (Instr.mapUpdate t m k x)) w K
noncomputable def mapEntry (t:TypeId) (m k:Value) (w:World) (K:Value→World→Prop):Prop:=op P (sv (Instr.mapEntry t m k)) w K
noncomputable def entryStore (t:TypeId) (m s x:Value) (w:World) (K:Value→World→Prop):Prop:=op P (su (Instr.entryStore t m s x)) w K
noncomputable def rng (t:TypeId) (x:Value) (w:World) (K:Value→World→Prop):Prop:=op P (sv (Instr.range t x)) w K
noncomputable def V1 (b:Value) (a:Bool) (t:TypeId) (w:World) (K:Value→World→Prop):Prop:=op P (sv (Instr.next b a t)) w K
noncomputable def Q8l (a:Value) (w:World) (K:Value→World→Prop):Prop:=op P (sv (Instr.entry a)) w K
noncomputable def pnc (x:Value) (w:World) (K:Value→World→Prop):Prop:=op P (sv (Instr.panic x)) w K
noncomputable def ext (x:Value) (i:Nat) (w:World) (K:Value→World→Prop):Prop:=op P (sv (Instr.extract x i)) w K
noncomputable def X2 (b:Builtin) (a:List TypeId) (t:TypeId) (cs:List Bool) (xs:List Value) (w:World) (K:Value→World→Prop):Prop:=op P (Go.builtin b a.toArray t cs.toArray xs.toArray) w K
noncomputable def Q1 (f:FuncId) (xs:List Value) (w:World) (K:Value→World→Prop):Prop:=op P (callFunc f xs.toArray) w K
noncomputable def Z4 (f:Value) (xs:List Value) (w:World) (K:Value→World→Prop):Prop:=op P (do let d←Deferred.ofValue f xs.toArray;invoke d.target d.args) w K
end
def get (l:List Value) (t:Nat):Value:=l.getD t undef
def ev (l:List Value):Operand→Value
 | .tmp t=>get l t
 | .const v=>v
 | .global g=> .pointer (some ⟨g,0,none⟩)
 | .func f=> .func (.func f) #[] #[]
def put (l:List Value) (d:Option Tmp) (v:Value):List Value:=
 match d with
 | some d=>l.set d v
 | none=>l
def evs (l:List Value) (xs:Array Operand):List Value:=xs.toList.map (ev l)
def evp (l:List Value) (xs:Array (Nat×Operand)):List (Nat×Value):=xs.toList.map fun p=>(p.1,ev l p.2)
def evo (l:List Value) (x:Option Operand):Option Value:=match x with | some x=>some (ev l x) | none=>none
def isC:Operand→Bool | .const _=>true | _=>false
noncomputable def Ds (P:Program) (l:List Value) (o:Oper) (c:Call) (w:World) (K:Value→World→Prop):Prop:=
 match c.callee with
 | .builtin b=>X2 P b c.argTypes.toList o.type (c.args.toList.map isC) (evs l c.args) w K
 | .value (.func f)=>Q1 P f (evs l c.args) w K
 | .value f=>Z4 P (ev l f) (evs l c.args) w K
 | _=>op P (execOp (ev l) o) w K
noncomputable def W2 (P:Program) (l:List Value) (o:Oper) (w:World) (K:Value→World→Prop):Prop:=
 match o.op with
 | .move x=>K (ev l x) w
 | .assign x=>K (ev l x) w
 | .pick c a b=>pick P (ev l c) (ev l a) (ev l b) w K
 | .alloc e=>V6 P e w K
 | .box e x=>box P e (ev l x) w K
 | .build t g=>H0 P t (evp l g) w K
 | .buildSlice t n g=>buildSlice P t n (evp l g) w K
 | .load t a=>Q2 P t (ev l a) w K
 | .store t a x=>X9 P t (ev l a) (ev l x) w K
 | .nilCheck x=>nilCheck P (ev l x) w K
 | .binOp op t x y _=>Q3 P op t x y (ev l x) (ev l y) w K
 | .unOp op _ x=>J8 P op (ev l x) w K
 | .convert s d x=>conv P s d (ev l x) w K
 | .makeInterface t x=>X25 P t (ev l x) w K
 | .makeFunc f first caps=>H1 P f (evs l first) (evs l caps) w K
 | .makeMap t r=>Pt P t (evo l r) w K
 | .makeSlice t n c=>Li P t (ev l n) (ev l c) w K
 | .slice t x q u p=>S4 P t (ev l x) (evo l q) (evo l u) (evo l p) w K
 | .fieldAddr t x f=>fieldAddr P t (ev l x) f w K
 | .field t x f=>B7 P t (ev l x) f w K
 | .indexAddr t x i=>indexAddr P t (ev l x) (ev l i) w K
 | .index t x i=>C4 P t (ev l x) (ev l i) w K
 | .lookup t x i ok=>lookup P t (ev l x) (ev l i) ok w K
 | .mapUpdate t m k x=>mapUpdate P t (ev l m) (ev l k) (ev l x) w K
 | .insert t m k x=>mapUpdate P t (ev l m) (ev l k) (ev l x) w K
 | .mapEntry t m k=>mapEntry P t (ev l m) (ev l k) w K
 | .entryStore t m s x=>entryStore P t (ev l m) (ev l s) (ev l x) w K
 | .range t x=>rng P t (ev l x) w K
 | .next h j=>V1 P (ev l h) j o.type w K
 | .extract x i=>ext P (ev l x) i w K
 | .entry h=>Q8l P (ev l h) w K
 | .panic x=>pnc P (ev l x) w K
 | .call c=>Ds P l o c w K
 | _=>op P (execOp (ev l) o) w K
theorem Q8i {α β:Type} (f:α→β) (a:Array α):a.map f=(a.toList.map f).toArray:=by rw[←Array.toList_map,Array.toArray_toList]
theorem X2P (l:List Value) (x:Option Operand):x.map (ev l)=evo l x:=by cases x<;>rfl
theorem Q60 {P:Program} {l:List Value} {o:Oper} {c:Call} {K e:Value→World→Prop} {w:World} (d: ∀v w,K v w→e v w) (h:Ds P l o c w K):Ds P l o c w e:=by
 obtain ⟨a,g,i⟩:=c
 cases a with
 | builtin b=>exact Rw d h
 | invoke r m=>exact Rw d h
 | value f=>cases f<;>(simp only[Ds,Z4,Q1] at h⊢;exact Rw d h)
theorem K4 {P:Program} {l:List Value} {o:Oper} {K b:Value→World→Prop} {w:World} (a: ∀v w,K v w→b v w) (h:W2 P l o w K):W2 P l o w b:=by
 obtain ⟨d,p,c,pos,e,g⟩:=o
 cases p<;>first | exact a _ _ h | exact Q60 a h | exact Rw a h | (simp only[W2] at h⊢;exact Rw a h)
theorem Q7b {P:Program} {l:List Value} {o:Oper} {K:Value→World→Prop} {w:World} (h:W2 P l o w K):op P (execOp (ev l) o) w K:=by
 unfold W2 at h
 split at h<;>rename_i a
 all_goals first
  | exact h
  | (unfold execOp;rw[a];exact h)
  | (unfold execOp;rw[a];simp only[Q8i,X2P];exact h)
  | (unfold execOp;rw[a,T3];exact h)
  | skip
 rename_i c
 unfold Ds at h
 split at h<;>rename_i b
 ·unfold execOp;rw[a];simp only[resolve,b,Q8i]
  simp only[pure_bind,invoke]
  unfold X2 at h
  simp only[Array.toArray_toList] at h
  refine (congrArg (fun z=>op P (builtin _ c.argTypes o.type (List.toArray z) _) w K) (List.map_congr_left (fun x _=>?_))).mp h
  cases x<;>rfl
 ·unfold execOp;rw[a];simp only[resolve,b,Q8i]
  simp only[ev,Deferred.ofValue,pure_bind,invoke]
  simpa [Q1,evs] using h
 ·unfold execOp;rw[a];simp only[resolve,b,Q8i]
  exact h
 ·exact h
def Mz (v:Value) (b:Bool) (w:World) (a:World→(Value→World→Prop)→Prop) (J:Value→World→Prop):Prop:=
 match v with
 | .bool c=>if c=b then a w J else J undef w
 | _=>J undef w
theorem Q9f: ∃f:Value→Bool→World→(World→(Value→World→Prop)→Prop)→(Value→World→Prop)→Prop,f=Mz:=⟨_,rfl⟩
noncomputable def Q0:Value→Bool→World→(World→(Value→World→Prop)→Prop)→(Value→World→Prop)→Prop:=Classical.choose Q9f
theorem Hb:Q0=Mz:=Classical.choose_spec Q9f
def Q39 (v:Value) (t e:Prop):Prop:=
 match v with
 | .bool true=>t
 | .bool false=>e
 | _=>False
theorem Q9I: ∃f:Value→Prop→Prop→Prop,f=Q39:=⟨_,rfl⟩
noncomputable def X1:Value→Prop→Prop→Prop:=Classical.choose Q9I
theorem Q5X:X1=Q39:=Classical.choose_spec Q9I
noncomputable def Z2 (P:Program) (ops:List Oper) (next:List Value→World→Prop):List Oper→List Value→World→Prop
 | [],l,w=>next l w
 | o::a,l,w=>
  match o.guard with
  | none=>W2 P l o w (fun v w=>Z2 P ops next a (put l o.dst v) w)
  | some (j,b)=>match (ops[j]?).bind (·.dst) with
   | some d=>Q0 (get l d) b w (W2 P l o) (fun v w=>Z2 P ops next a (put l o.dst v) w)
   | none=>Z2 P ops next a (put l o.dst undef) w
def Ts:Nat→Type
 | 0=>Unit
 | 1=>Value
 | n+2=>Value×Ts (n+1)
def Oo (l:List Value):(a:List Nat)→Ts a.length
 | []=>()
 | [s]=>get l s
 | s::t::r=>(get l s,Oo l (t::r))
def Rh (i:Nat) (e:Value):(a:List Nat)→Ts a.length→Value
 | [],_=>e
 | [s],x=>if s=i then x else e
 | s::t::r,x=>if s=i then x.1 else Rh i e (t::r) x.2
def H5 (a b:List Nat) (x:Ts a.length) (d:Nat→Value):Nat→List Value→List Value
 | _,[]=>[]
 | i,v::l=>Rh i (if b.contains i then d i else v) a x::H5 a b x d (i+1) l
def X1N (α:Type) (x0:α) (w:World) (a:(α→World→Prop)→α→(Nat→Value)→World→Prop):Prop:=
 ∃(I:α→World→Prop) (μ:α→World→Nat),I x0 w∧ ∀x d w,I x w→a (fun b w'=>I b w'∧μ b w'<μ x w) x d w
theorem X1H: ∃f:(α:Type)→α→World→((α→World→Prop)→α→(Nat→Value)→World→Prop)→Prop,f=X1N:=⟨_,rfl⟩
noncomputable def lp {α:Type}:α→World→((α→World→Prop)→α→(Nat→Value)→World→Prop)→Prop:=Classical.choose X1H α
theorem X1w {α:Type} (x0:α) (w:World) (a:(α→World→Prop)→α→(Nat→Value)→World→Prop):lp x0 w a=X1N α x0 w a:=
 congrFun (congrFun (congrFun (congrFun (Classical.choose_spec X1H) α) x0) w) a
def X1A (α:Type) (w:World) (A:(α→World→Prop)→World→Prop) (B:α→(Nat→Value)→World→Prop):Prop:=
 ∃I:α→World→Prop,A I w∧ ∀x d w,I x w→B x d w
theorem X1o: ∃f:(α:Type)→World→((α→World→Prop)→World→Prop)→(α→(Nat→Value)→World→Prop)→Prop,f=X1A:=⟨_,rfl⟩
noncomputable def jn {α:Type}:World→((α→World→Prop)→World→Prop)→(α→(Nat→Value)→World→Prop)→Prop:=Classical.choose X1o α
theorem X1s {α:Type} (w:World) (A:(α→World→Prop)→World→Prop) (B:α→(Nat→Value)→World→Prop):jn w A B=X1A α w A B:=
 congrFun (congrFun (congrFun (congrFun (Classical.choose_spec X1o) α) w) A) B
theorem Zy {α:Type} {w:World} {A:(α→World→Prop)→World→Prop} {B:α→(Nat→Value)→World→Prop} (I:α→World→Prop) (h:A I w) (a: ∀x d w,I x w→B x d w):jn w A B:=by
 rw[X1s];exact ⟨I,h,a⟩
theorem Q5E {α:Type} {w:World} {A:(α→World→Prop)→World→Prop} {B:α→(Nat→Value)→World→Prop} (h:jn w A B): ∃I:α→World→Prop,A I w∧ ∀x d w,I x w→B x d w:=by
 rw[X1s] at h;exact h
theorem Wo {α:Type} {x0:α} {w:World} {a:(α→World→Prop)→α→(Nat→Value)→World→Prop} (I:α→World→Prop) (μ:α→World→Nat) (c:I x0 w)
 (e: ∀x d w,I x w→a (fun b w'=>I b w'∧μ b w'<μ x w) x d w):lp x0 w a:=by
 rw[X1w];exact ⟨I,μ,c,e⟩
theorem X0e {α:Type} {x0:α} {w:World} {a:(α→World→Prop)→α→(Nat→Value)→World→Prop} (h:lp x0 w a):
 ∃(I:α→World→Prop) (μ:α→World→Nat),I x0 w∧ ∀x d w,I x w→a (fun b w'=>I b w'∧μ b w'<μ x w) x d w:=by
 rw[X1w] at h;exact h
def R4 (ops:List Oper):List Nat:=ops.filterMap (·.dst)
def Qk:Code→Nat
 | .seq a b=>Qk a+Qk b+1
 | .cond _ a b=>Qk a+Qk b
 | .block _ c=>Qk c
 | .loop c=>Qk c+1
 | .scope c=>Qk c
 | _=>0
def O4 (d:List (Option (List Nat))):Nat→Code→List Nat
 | _, .region _ ops _=>R4 ops.toList
 | k, .seq a b=>(d.getD k none).getD []++(O4 d (k+1) a++O4 d (k+1+Qk a) b)
 | k, .cond _ a b=>O4 d k a++O4 d (k+Qk a) b
 | k, .block _ c=>O4 d k c
 | k, .loop c=>(d.getD k none).getD []++O4 d (k+1) c
 | k, .scope c=>O4 d k c
 | _,_=>[]
abbrev Hq:=Exit→List Value→World→Prop
def thn (next:List Value→World→Prop) (Q:Hq):Hq
 | .normal,a,w=>next a w
 | e,a,w=>Q e a w
def Q3q (id:Nat) (Q:Hq):Hq
 | .exit b,a,w=>if b=id then Q .normal a w else Q (.exit b) a w
 | e,a,w=>Q e a w
noncomputable def Dj (P:Program) (a:List (Option (List Nat))):Nat→Code→Hq→List Value→World→Prop
 | _, .skip,Q,l,w=>Q .normal l w
 | _, .label _,Q,l,w=>Q .normal l w
 | _, .exit id,Q,l,w=>Q (.exit id) l w
 | _, .ret,Q,l,w=>Q .ret l w
 | _, .region _ ops false,Q,l,w=>Z2 P ops.toList (fun l w=>Q .normal l w) ops.toList l w
 | _, .region _ ops true,Q,l,w=> ∀t,Z2 P ops.toList (fun l w=>Q .normal l w) ((Region.schedule (P.follows .mixedOrders) ops t).filterMap (ops[·]?)) l w.drew
 | k, .seq x y,Q,l,w=>match a.getD k none with
  | none=>Dj P a (k+1) x (thn (fun l w=>Dj P a (k+1+Qk x) y Q l w) Q) l w
  | some e=>jn w (fun J w=>Dj P a (k+1) x (thn (fun l' w'=>J (Oo l' e) w') Q) l w)
   (fun z d w=>Dj P a (k+1+Qk x) y Q (H5 e (O4 a (k+1) x) z d 0 l) w)
 | k, .cond c x y,Q,l,w=>X1 (ev l c) (Dj P a k x Q l w) (Dj P a (k+Qk x) y Q l w)
 | k, .block id c,Q,l,w=>Dj P a k c (Q3q id Q) l w
 | k, .loop c,Q,l,w=>
  lp (Oo l ((a.getD k none).getD [])) w (fun b x d w=>Dj P a (k+1) c (thn (fun l' w'=>b (Oo l' ((a.getD k none).getD [])) w') Q) (H5 ((a.getD k none).getD []) (O4 a (k+1) c) x d 0 l) w)
 | _,_,_,_,_=>False
theorem Q8I {ops:List Oper} {l:List Value} {o:Oper} {j:Nat} {b:Bool} (e:o.guard=some (j,b)) {d:Nat} (a:(ops[j]?).bind (·.dst)=some d):
 Region.wanted o (yielded ops.toArray l.toArray)=true↔get l d= .bool b:=by
 unfold Region.wanted yielded
 rw[e]
 simp only[List.getElem?_toArray]
 rw[a]
 simp only[Option.bind_some,get,List.getD_eq_getElem?_getD]
 have key: ∀x:Option Value,((match x with | some (.bool c)=>some c | _=>none)==some b)=true↔x.getD undef= .bool b:=by
  intro x
  cases x with
  | none=>simp[undef]
  | some v=>cases v<;>simp
 exact key _
theorem Q6N {ops:List Oper} {l:List Value} {o:Oper} {j:Nat} {b:Bool} (c:o.guard=some (j,b)) (a:(ops[j]?).bind (·.dst)=none):
 Region.wanted o (yielded ops.toArray l.toArray)=false:=by
 unfold Region.wanted yielded
 rw[c]
 simp only[List.getElem?_toArray]
 rw[a]
 rfl
theorem Lz {v:Value} {b:Bool} {a:World→(Value→World→Prop)→Prop} {J:Value→World→Prop} {w:World} (h:Q0 v b w a J):
 (v= .bool b∧a w J)∨(v≠ .bool b∧J undef w):=by
 rw[Hb] at h
 unfold Mz at h
 split at h
 ·split at h
  ·rename_i c;subst c;exact .inl ⟨rfl,h⟩
  ·rename_i c;exact .inr ⟨by simp[c],h⟩
 ·rename_i d;exact .inr ⟨d b,h⟩
theorem Q19 {v:Value} {b:Bool} {a:World→(Value→World→Prop)→Prop} {J:Value→World→Prop} {w:World}
 (h:(v= .bool b∧a w J)∨(v≠ .bool b∧J undef w)):Q0 v b w a J:=by
 rw[Hb]
 unfold Mz
 split
 ·split
  ·rename_i c;subst c
   rcases h with h | h
   ·exact h.2
   ·exact absurd rfl h.1
  ·rename_i c
   rcases h with h | h
   ·exact absurd (Value.bool.inj h.1) c
   ·exact h.2
 ·rename_i d
  rcases h with h | h
  ·exact absurd h.1 (d b)
  ·exact h.2
theorem Q4d (a:Act):a.eval=ev a.tmps.toList:=by
 funext x
 cases x<;>simp[Act.eval,ev,get,List.getD_eq_getElem?_getD]
theorem Q8F (a:Act) (d:Option Tmp) (v:Value):(a.put d v).tmps.toList=put a.tmps.toList d v:=by
 cases d<;>simp[Act.put,put]
theorem Q85 (a:Act) (d:Option Tmp) (v:Value):(a.put d v).defers=a.defers:=by
 cases d<;>simp[Act.put]
def lift (Q:Hq):Exit→Act→World→Prop:=fun e a w=>a.defers=[]∧Q e a.tmps.toList w
theorem Q0H (P:Program) (ops:Array Oper) (Q:Exit→Act→World→Prop) (next:List Value→World→Prop)
 (u: ∀a w,a.defers=[]→next a.tmps.toList w→Q .normal a w) (is:List Nat) (s: ∀i∈is,i<ops.size):
 ∀(a:Act) (w:World),a.defers=[]→Z2 P ops.toList next (is.filterMap (ops[·]?)) a.tmps.toList w→wpOps P ops Q is a w:=by
 induction is with
 | nil=>intro a w p h;exact u a w p h
 | cons i is t=>
  intro a w p h
  have o:=s i (by simp)
  have k:ops[i]? =some ops[i]:=by simp[o]
  rw[List.filterMap_cons,k] at h
  simp only[Z2] at h
  simp only[wpOps,k]
  have q:ops.toList.toArray=ops:=by simp
  have r:a.tmps.toList.toArray=a.tmps:=by simp
  have e: ∀{v w},Z2 P ops.toList next (is.filterMap (ops[·]?)) (put a.tmps.toList ops[i].dst v) w→wpOps P ops Q is (a.put ops[i].dst v) w:=by
   intro v w f
   refine t (fun j y=>s j (by simp[y])) _ _ (by rw[Q85];exact p) ?_
   rw[Q8F];exact f
  have m:W2 P a.tmps.toList ops[i] w (fun v w=>Z2 P ops.toList next (is.filterMap (ops[·]?)) (put a.tmps.toList ops[i].dst v) w)→
   ops[i].wp P a w (wpOps P ops Q is) Q:=by
   intro h
   refine X3M ?_
   rw[Q4d]
   exact Rw (fun v w f=>e f) (Q7b h)
  split at h
  ·rename_i n
   rw[if_pos (by simp[Region.wanted,n])]
   exact .inl (m h)
  ·rename_i j b n
   split at h
   ·rename_i d c
    have g:=Q8I (ops:=ops.toList) (l:=a.tmps.toList) n c
    rw[q,r] at g
    rcases Lz h with ⟨f,h⟩ | ⟨f,h⟩
    ·rw[if_pos (g.2 f)];exact .inl (m h)
    ·rw[if_neg (fun h=>f (g.1 h))];exact e h
   ·rename_i c
    have g:=Q6N (ops:=ops.toList) (l:=a.tmps.toList) n c
    rw[q,r] at g
    rw[if_neg (by rw[g];simp)];exact e h
theorem Ak (ops:Array Oper):(List.range ops.size).filterMap (ops[·]?)=ops.toList:=by
 apply List.ext_getElem?
 intro i
 rw[←Array.length_toList]
 have: ∀l:List Oper,(List.range l.length).filterMap (l[·]?)=l:=by
  intro l
  induction l with
  | nil=>rfl
  | cons x l a=>
   rw[List.length_cons,List.range_succ_eq_map,List.filterMap_cons]
   simp only[List.getElem?_cons_zero,List.filterMap_map]
   congr 1
 have h:=this ops.toList
 simp only[Array.getElem?_toList] at h
 rw[h]
theorem Q2i (b:Bool) (ops:Array Oper) (t:Nat): ∀i∈Region.schedule b ops t,i<ops.size:=by
 have key: ∀m c t a e,(∀i∈e,i<ops.size)→ ∀i∈Region.linearise.go m ops c t a e,i<ops.size:=by
  intro m c
  induction c with
  | zero=>intro t a e h i d;simp[Region.linearise.go] at d;exact h i d
  | succ c f=>
   intro t a e h i d
   simp only[Region.linearise.go] at d
   split at d
   ·rename_i j g
    refine f _ _ _ ?_ i d
    intro k hk
    rcases List.mem_cons.1 hk with rfl | hk
    ·have:=List.mem_of_getElem? g
     simp only[List.mem_filter,List.mem_range] at this
     exact this.1
    ·exact h k hk
   ·simp at d;exact h i d
 intro i d
 unfold Region.schedule at d
 split at d
 ·exact key _ _ _ _ _ (by simp) i d
 ·exact key _ _ _ _ _ (by simp) i d
def Ql (W:List Nat) (l l':List Value):Prop:=l'.length=l.length∧ ∀i,W.contains i=false→l'[i]? =l[i]?
theorem Ql.refl (W:List Nat) (l:List Value):Ql W l l:=⟨rfl,fun _ _=>rfl⟩
theorem Ql.trans {W:List Nat} {a b c:List Value} (h:Ql W a b) (k:Ql W b c):Ql W a c:=
 ⟨k.1.trans h.1,fun i d=>(k.2 i d).trans (h.2 i d)⟩
theorem Cb (a c:List Nat) (x:Ts a.length) (d:Nat→Value) (l:List Value): ∀i,(H5 a c x d i l).length=l.length:=by
 induction l with
 | nil=>intro i;rfl
 | cons v l b=>intro i;simp[H5,b]
theorem Bv (a b:List Nat) (x:Ts a.length) (d:Nat→Value) (l:List Value): ∀i j,(H5 a b x d i l)[j]? =(l[j]?).map fun v=>Rh (i+j) (if b.contains (i+j) then d (i+j) else v) a x:=by
 induction l with
 | nil=>intro i j;simp[H5]
 | cons v l c=>
  intro i j
  cases j with
  | zero=>simp[H5]
  | succ j=>simp only[H5,List.getElem?_cons_succ,c];rw[show i+1+j=i+(j+1) from by omega]
theorem Wk (i:Nat) (e:Value): ∀(b:List Nat) (x:Ts b.length),b.contains i=false→Rh i e b x=e
 | [],_,_=>rfl
 | [s],x,h=>by
  have a: ¬s=i:=by intro a;subst a;simp at h
  exact if_neg a
 | s::t::r,x,h=>by
  simp only[Rh]
  split
  ·rename_i a;subst a;simp at h
  ·refine Wk i e (t::r) x.2 ?_
   simp only[List.contains_cons,Bool.or_eq_false_iff] at h⊢
   exact h.2
theorem Q6i (l:List Value) (i:Nat) (e c:Value): ∀(b:List Nat),b.contains i=true→Rh i e b (Oo l b)=get l i
 | [],h=>by simp at h
 | [s],h=>by
  simp only[List.contains_cons,List.contains_nil,Bool.or_false,beq_iff_eq] at h
  subst h;simp[Rh,Oo]
 | s::t::r,h=>by
  simp only[Rh,Oo]
  split
  ·rename_i a;subst a;rfl
  ·rename_i a
   refine Q6i l i e c (t::r) ?_
   simp only[List.contains_cons,Bool.or_eq_true,beq_iff_eq] at h⊢
   rcases h with h | h
   ·exact absurd h.symm a
   ·exact h
theorem Kp (a c:List Nat) (l l':List Value) (j:l'.length=l.length)
 (h: ∀i,a.contains i=false→c.contains i=false→l'[i]? =l[i]?):l'=H5 a c (Oo l' a) (get l') 0 l:=by
 apply List.ext_getElem?
 intro i
 rw[Bv]
 simp only[Nat.zero_add]
 cases f:l[i]? with
 | none=>
  have:=List.getElem?_eq_none_iff.1 f
  simp only[Option.map_none]
  exact List.getElem?_eq_none (by omega)
 | some v=>
  have m:i<l.length:=(List.getElem?_eq_some_iff.1 f).1
  have k:l'[i]? =some (get l' i):=by
   simp only[get,List.getD_eq_getElem?_getD]
   rw[List.getElem?_eq_getElem (by omega)];rfl
  rw[k]
  simp only[Option.map_some,Option.some.injEq]
  by_cases g:a.contains i=true
  ·rw[Q6i l' i _ undef a g]
  ·have b:a.contains i=false:=by simpa using g
   rw[Wk _ _ _ _ b]
   by_cases e:c.contains i=true
   ·rw[if_pos e]
   ·have d:c.contains i=false:=by simpa using e
    rw[if_neg e]
    have:=h i b d
    rw[k,f] at this
    exact Option.some.inj this
theorem Q4W {v:Value} {t e b a:Prop} (c:t→b) (d:e→a) (h:X1 v t e):X1 v b a:=by
 rw[Q5X] at*
 unfold Q39 at*
 split at h
 ·exact c h
 ·exact d h
 ·exact h.elim
theorem Jr (P:Program) (c:List Oper) (next b:List Value→World→Prop) (W:List Nat) (k:List Value): ∀(ops:List Oper) (l:List Value) (w:World),
 (∀o∈ops,∀d,o.dst=some d→W.contains d=true)→Ql W k l→(∀l w,next l w→Ql W k l→b l w)→Z2 P c next ops l w→Z2 P c b ops l w
 | [],l,w,_,j,p,h=>p l w h j
 | o::f,l,w,q,j,p,h=>by
  have g: ∀v,Ql W k (put l o.dst v):=by
   intro v
   cases y:o.dst with
   | none=>exact j
   | some d=>
    have u:=q o (by simp) d y
    refine j.trans ⟨by simp[put],fun i r=>?_⟩
    have:d≠i:=by intro e;subst e;rw[u] at r;cases r
    simp[put,this]
  have a: ∀v w,Z2 P c next f (put l o.dst v) w→Z2 P c b f (put l o.dst v) w:=fun v w t=>
   Jr P c next b W k f _ w (fun o s=>q o (by simp[s])) (g v) p t
  simp only[Z2] at h⊢
  split at h
  ·exact K4 a h
  ·split at h
   ·refine Q19 ((Lz h).imp (fun ⟨m,n⟩=>⟨m,K4 a n⟩) (fun ⟨m,n⟩=>⟨m,a _ _ n⟩))
   ·exact a _ _ h
theorem Q4x {α:Type} {x0:α} {c b:(α→World→Prop)→α→(Nat→Value)→World→Prop} {w:World}
 (i: ∀a x d w,c a x d w→b a x d w) (h:lp x0 w c):lp x0 w b:=by
 obtain ⟨I,μ,f,g⟩:=X0e h
 exact Wo I μ f fun x d w e=>i _ _ _ _ (g x d w e)
theorem T5 {a b:List Nat} {i:Nat} (h:a.contains i=true):(a++b).contains i=true:=by simp at h⊢;exact .inl h
theorem R8 {a b:List Nat} {i:Nat} (h:b.contains i=true):(a++b).contains i=true:=by simp at h⊢;exact .inr h
theorem Q4B (P:Program) (q:List (Option (List Nat))) (c:Code): ∀(k:Nat) (Q A:Hq) (W:List Nat) (m l:List Value) (w:World),
 (∀i,(O4 q k c).contains i=true→W.contains i=true)→Ql W m l→
 (∀e l w,Q e l w→Ql W m l→A e l w)→Dj P q k c Q l w→Dj P q k c A l w:=by
 induction c with
 | skip=>intro k Q A W m l w _ g j h;exact j _ _ _ h g
 | label n=>intro k Q A W m l w _ g j h;exact j _ _ _ h g
 | exit id=>intro k Q A W m l w _ g j h;exact j _ _ _ h g
 | ret=>intro k Q A W m l w _ g j h;exact j _ _ _ h g
 | goto n=>intro k Q A W m l w _ g j h;exact h.elim
 | refuse s=>intro k Q A W m l w _ g j h;exact h.elim
 | scope c=>intro k Q A W m l w _ g j h;exact h.elim
 | rangeFunc f p a b=>intro k Q A W m l w _ g j h;exact h.elim
 | region id ops M=>
  intro k Q A W m l w B g j h
  have N: ∀o∈ops.toList,∀d,o.dst=some d→W.contains d=true:=by
   intro o R d hd
   refine B d ?_
   simp only[O4,R4,List.contains_eq_mem,List.mem_filterMap,decide_eq_true_eq]
   exact ⟨o,R,hd⟩
  cases M with
  | false=>exact Jr P _ _ _ W m _ _ _ N g (fun l w Z g=>j _ _ _ Z g) h
  | true=>
   intro t
   refine Jr P _ _ _ W m _ _ _ ?_ g (fun l w Z g=>j _ _ _ Z g) (h t)
   intro o R
   simp only[List.mem_filterMap] at R
   obtain ⟨i,_,r⟩:=R
   exact N o (by simpa using Array.mem_of_getElem? r)
 | seq x y E D=>
  intro k Q A W m l w B g j h
  have X: ∀i,(O4 q (k+1) x).contains i=true→W.contains i=true:=fun i r=>B i (R8 (T5 r))
  have hy: ∀i,(O4 q (k+1+Qk x) y).contains i=true→W.contains i=true:=fun i r=>B i (R8 (R8 r))
  simp only[Dj] at h⊢
  split at h
  ·refine E _ _ _ W m l w X g ?_ h
   intro e l' w' C u
   cases e with
   | normal=>exact D _ _ _ W m l' w' hy u j C
   | _=>exact j _ _ _ C u
  ·rename_i sl V
   obtain ⟨J,L,O⟩:=Q5E h
   refine Zy J (E _ _ _ W m l w X g ?_ L) fun z d w hz=>?_
   ·intro e l' w' C u
    cases e with
    | normal=>exact C
    | _=>exact j _ _ _ C u
   ·refine D _ _ _ W m _ w hy (g.trans ⟨Cb _ _ _ _ _ _,fun i r=>?_⟩) j (O z d w hz)
    rw[Bv]
    have L:sl.contains i=false:=by
     cases H:sl.contains i with
     | false=>rfl
     | true=>rw[B i (T5 (by rw[V];exact H))] at r;cases r
    have O:(O4 q (k+1) x).contains i=false:=by
     cases H:(O4 q (k+1) x).contains i with
     | false=>rfl
     | true=>rw[X i H] at r;cases r
    simp only[Nat.zero_add]
    cases hl:l[i]? with
    | none=>rfl
    | some v=>simp only[Option.map_some,Wk _ _ _ _ L,O,Bool.false_eq_true,if_false]
 | cond c x y E D=>
  intro k Q A W m l w B g j h
  exact Q4W (E k _ _ W m l w (fun i r=>B i (T5 r)) g j) (D _ _ _ W m l w (fun i r=>B i (R8 r)) g j) h
 | block id c Y=>
  intro k Q A W m l w B g j h
  refine Y k _ _ W m l w B g ?_ h
  intro e l' w' C u
  cases e with
  | exit ah=>simp only[Q3q] at C⊢;split<;>rename_i aa<;>simp only[aa,if_true,if_false] at C<;>exact j _ _ _ C u
  | _=>exact j _ _ _ C u
 | loop c Y=>
  intro k Q A W m l w B g j h
  refine Q4x (fun U x d w hb=>?_) h
  refine Y _ _ _ W m _ _ (fun i r=>B i (R8 r)) ?_ ?_ hb
  ·refine g.trans ⟨Cb _ _ _ _ _ _,fun i r=>?_⟩
   rw[Bv]
   have L:((q.getD k none).getD []).contains i=false:=by
    cases H:((q.getD k none).getD []).contains i with
    | false=>rfl
    | true=>rw[B i (T5 H)] at r;cases r
   have O:(O4 q (k+1) c).contains i=false:=by
    cases H:(O4 q (k+1) c).contains i with
    | false=>rfl
    | true=>rw[B i (R8 H)] at r;cases r
   simp only[Nat.zero_add]
   cases hl:l[i]? with
   | none=>rfl
   | some v=>simp only[Option.map_some,Wk _ _ _ _ L,O,Bool.false_eq_true,if_false]
  ·intro e l' w' C u
   cases e with
   | normal=>exact C
   | _=>exact j _ _ _ C u
theorem Q9b (P:Program) (g:List (Option (List Nat))) (c:Code): ∀(k:Nat) (Q:Hq) (a:Act) (w:World),
 a.defers=[]→Dj P g k c Q a.tmps.toList w→c.wp P (lift Q) a w:=by
 induction c with
 | skip=>intro k Q a w j h;exact wp_skip ⟨j,h⟩
 | label n=>intro k Q a w j h;exact wp_label ⟨j,h⟩
 | exit id=>intro k Q a w j h;exact wp_exit ⟨j,h⟩
 | ret=>intro k Q a w j h;exact wp_ret ⟨j,h⟩
 | goto n=>intro k Q a w j h;exact h.elim
 | refuse s=>intro k Q a w j h;exact h.elim
 | scope c=>intro k Q a w j h;exact h.elim
 | rangeFunc f p a b=>intro k Q a w j h;exact h.elim
 | region id ops B=>
  intro k Q a w j h
  cases B with
  | false=>
   refine wp_region (Q0H P ops _ _ (fun a w j h=>⟨j,h⟩) _ (by simp) a w j ?_)
   rw[Ak];exact h
  | true=>
   refine wp_region_draw fun t=>?_
   exact Q0H P ops _ _ (fun a w j h=>⟨j,h⟩) _ (Q2i _ _ _) a _ j (h t)
 | seq x y u r=>
  intro k Q a w j h
  simp only[Dj] at h
  split at h
  ·refine wp_seq (wp_mono (u _ _ a w j h) ?_)
   intro e o w' ⟨m,q⟩
   cases e with
   | normal=>exact r _ _ o w' m q
   | _=>exact ⟨m,q⟩
  ·rename_i Y Z
   obtain ⟨J,M,C⟩:=Q5E h
   have H:=Q4B P g x (k+1) _ (fun e l' w'=>thn (fun l' w'=>J (Oo l' Y) w') Q e l' w'∧Ql (O4 g (k+1) x) a.tmps.toList l') (O4 g (k+1) x) a.tmps.toList a.tmps.toList w (fun _ h=>h) (Ql.refl _ _) (fun e l w h O=>⟨h,O⟩) M
   refine wp_seq (wp_mono (u (k+1) _ a w j H) ?_)
   intro e o w' ⟨m,q,E⟩
   cases e with
   | normal=>
    refine r (k+1+Qk x) _ o w' m ?_
    rw[Kp Y (O4 g (k+1) x) a.tmps.toList o.tmps.toList E.1 (fun i _ h=>E.2 i h)]
    exact C _ _ _ q
   | _=>exact ⟨m,q⟩
 | cond c x y u r=>
  intro k Q a w j h
  simp only[Dj,Q5X,Q39] at h
  split at h
  ·rename_i N
   exact wp_cond_true (by rw[Q4d];exact N) (u _ _ _ _ j h)
  ·rename_i N
   exact wp_cond_false (by rw[Q4d];exact N) (r _ _ _ _ j h)
  ·exact h.elim
 | block id c U=>
  intro k Q a w j h
  refine wp_block (wp_mono (U k _ a w j h) ?_)
  intro e o w' ⟨m,q⟩
  cases e with
  | exit ad=>
   simp only[Q3q,Exit.inBlock] at q⊢
   split<;>rename_i W<;>simp only[W,if_true,if_false] at q<;>exact ⟨m,q⟩
  | _=>exact ⟨m,q⟩
 | loop c U=>
  intro k Q a w j h
  obtain ⟨I,μ,h0,hr⟩:=X0e h
  refine wp_loop (fun o w'=>o.defers=[]∧(∃d,o.tmps.toList=H5 ((g.getD k none).getD []) (O4 g (k+1) c) (Oo o.tmps.toList ((g.getD k none).getD [])) d 0 a.tmps.toList)∧I (Oo o.tmps.toList ((g.getD k none).getD [])) w') (fun o w'=>μ (Oo o.tmps.toList ((g.getD k none).getD [])) w') ⟨j,⟨get a.tmps.toList,Kp _ _ _ _ rfl (fun _ _ _=>rfl)⟩,h0⟩ ?_
  intro A w1 ⟨L,⟨d1,v⟩,V⟩
  have R:=hr _ d1 w1 V
  dsimp only at R
  rw[←v] at R
  have X:=Q4B P g c (k+1) _ (fun e l' w'=>thn (fun l' w'=>I (Oo l' ((g.getD k none).getD [])) w'∧μ (Oo l' ((g.getD k none).getD [])) w'<μ (Oo A.tmps.toList ((g.getD k none).getD [])) w1) Q e l' w'∧Ql (O4 g (k+1) c) A.tmps.toList l') (O4 g (k+1) c) A.tmps.toList A.tmps.toList w1 (fun _ h=>h) (Ql.refl _ _) (fun e l w h O=>⟨h,O⟩) R
  refine wp_mono (U _ _ A w1 L X) ?_
  intro e a2 w2 ⟨D,C,z⟩
  cases e with
  | normal=>
   refine ⟨⟨D,⟨get a2.tmps.toList,Kp _ _ _ _ ?_ ?_⟩,C.1⟩,C.2⟩
   ·rw[z.1,v,Cb]
   ·intro i M H
    rw[z.2 i H,v,Bv]
    simp only[Nat.zero_add,Wk _ _ _ _ M,H,Bool.false_eq_true,if_false,Option.map_id']
  | _=>exact ⟨D,C⟩
def Q8f:List Value→Nat→Value→(List Value→Prop)→Prop
 | [],_,_,k=>k []
 | _::l,0,v,k=>k (v::l)
 | x::l,n+1,v,k=>Q8f l n v (fun l'=>k (x::l'))
def Q3T (l:List Value) (d:Option Tmp) (v:Value) (k:List Value→Prop):Prop:=
 match d with
 | some d=>Q8f l d v k
 | none=>k l
def Q8X:List Value→Nat→(Value→Prop)→Prop
 | [],_,k=>k undef
 | x::_,0,k=>k x
 | _::l,n+1,k=>Q8X l n k
def evK (l:List Value) (o:Operand) (k:Value→Prop):Prop:=
 match o with
 | .tmp t=>Q8X l t k
 | .const v=>k v
 | .global g=>k (.pointer (some ⟨g,0,none⟩))
 | .func f=>k (.func (.func f) #[] #[])
def Q3H (i:Nat) (e:Value):(a:List Nat)→Ts a.length→(Value→Prop)→Prop
 | [],_,k=>k e
 | [s],x,k=>if s=i then k x else k e
 | s::t::r,x,k=>if s=i then k x.1 else Q3H i e (t::r) x.2 k
def Gn (a b:List Nat) (x:Ts a.length) (d:Nat→Value):Nat→List Value→(List Value→Prop)→Prop
 | _,[],k=>k []
 | i,v::l,k=>match b.contains i with
  | true=>Q3H i (d i) a x (fun u=>Gn a b x d (i+1) l (fun l'=>k (u::l')))
  | false=>Q3H i v a x (fun u=>Gn a b x d (i+1) l (fun l'=>k (u::l')))
theorem X27 (l:List Value): ∀(n:Nat) (v:Value) (k:List Value→Prop),Q8f l n v k=k (l.set n v):=by
 induction l with
 | nil=>intro n v k;rfl
 | cons x l a=>intro n v k;cases n with
  | zero=>rfl
  | succ n=>simp only[Q8f,a,List.set_cons_succ]
theorem Q7v (l:List Value) (d:Option Tmp) (v:Value) (k:List Value→Prop):Q3T l d v k=k (put l d v):=by
 cases d with
 | none=>rfl
 | some d=>exact X27 l d v k
theorem X1Y (l:List Value): ∀(n:Nat) (k:Value→Prop),Q8X l n k=k (get l n):=by
 induction l with
 | nil=>intro n k;rfl
 | cons x l a=>intro n k;cases n with
  | zero=>rfl
  | succ n=>simp only[Q8X,a];rfl
theorem X3i (l:List Value) (o:Operand) (k:Value→Prop):evK l o k=k (ev l o):=by
 cases o with
 | tmp t=>exact X1Y l t k
 | _=>rfl
theorem Q1l (i:Nat) (e:Value) (k:Value→Prop): ∀(a:List Nat) (x:Ts a.length),Q3H i e a x k=k (Rh i e a x)
 | [],_=>rfl
 | [s],x=>by
  by_cases h:s=i
  ·exact (if_pos h).trans (congrArg k (if_pos h).symm)
  ·exact (if_neg h).trans (congrArg k (if_neg h).symm)
 | s::t::r,x=>by
  by_cases h:s=i
  ·exact (if_pos h).trans (congrArg k (if_pos h).symm)
  ·exact ((if_neg h).trans (Q1l i e k (t::r) x.2)).trans (congrArg k (if_neg h).symm)
theorem Q4U (a c:List Nat) (x:Ts a.length) (d:Nat→Value) (l:List Value): ∀(i:Nat) (k:List Value→Prop),Gn a c x d i l k=k (H5 a c x d i l):=by
 induction l with
 | nil=>intro i k;rfl
 | cons v l b=>
  intro i k
  simp only[Gn,H5]
  split
  ·rename_i h;rw[Q1l,b,if_pos h]
  ·rename_i h;rw[Q1l,b,if_neg (by rw[h];simp)]
theorem Bt (b c a:List Nat) (h: ∀i,c.contains i=a.contains i) (x:Ts b.length) (d:Nat→Value) (l:List Value): ∀i,H5 b c x d i l=H5 b a x d i l:=by
 induction l with
 | nil=>intro i;rfl
 | cons v l e=>intro i;simp only[H5,e,h]
noncomputable def P3 (P:Program) (ops:List Oper) (next:List Value→World→Prop):List Oper→List Value→World→Prop
 | [],l,w=>next l w
 | o::a,l,w=>
  match o.guard with
  | none=>match o.op with
   | .move x=>evK l x fun v=>Q3T l o.dst v fun l=>P3 P ops next a l w
   | .assign x=>evK l x fun v=>Q3T l o.dst v fun l=>P3 P ops next a l w
   | _=>W2 P l o w (fun v w=>Q3T l o.dst v fun l=>P3 P ops next a l w)
  | some (j,b)=>match (ops[j]?).bind (·.dst) with
   | some d=>Q0 (get l d) b w (W2 P l o) (fun v w=>Q3T l o.dst v fun l=>P3 P ops next a l w)
   | none=>Q3T l o.dst undef fun l=>P3 P ops next a l w
theorem Ro (P:Program) (ops:List Oper) (next:List Value→World→Prop) (os:List Oper): ∀(l:List Value) (w:World),P3 P ops next os l w=Z2 P ops next os l w:=by
 induction os with
 | nil=>intro l w;rfl
 | cons o a c=>
  intro l w
  obtain ⟨dst,p,d,pos,e,g⟩:=o
  cases g with
  | none=>cases p<;>simp only[P3,Z2,Q7v,X3i,c,W2]
  | some q=>obtain ⟨j,b⟩:=q;simp only[P3,Z2,Q7v,c]
def Sw (T:World→World→Prop) (φ:Value→World→Prop):Prop:= ∀v w w',φ v w→T w w'→φ v w'
def dk (T:World→World→Prop) (φ:Value→World→Prop) (w:World):Value→World→Prop:=fun v w'=>T w w'∧φ v w'
def Q6m (T:World→World→Prop) (A:(Value→World→Prop)→Prop) (a:(Value→World→Prop)→Prop):Prop:=
 ∃φ,Sw T φ∧A φ∧a φ
theorem X0i: ∃f:(World→World→Prop)→((Value→World→Prop)→Prop)→((Value→World→Prop)→Prop)→Prop,f=Q6m:=⟨_,rfl⟩
noncomputable def Q5:(World→World→Prop)→((Value→World→Prop)→Prop)→((Value→World→Prop)→Prop)→Prop:=Classical.choose X0i
theorem X09:Q5=Q6m:=Classical.choose_spec X0i
def Q95 (w:World) (A:(World→World→Prop)→(World→Prop)→Prop):Prop:= ∃T B,B w.drew∧(∀w w',B w→T w w'→B w')∧A T B
theorem X1t: ∃f:World→((World→World→Prop)→(World→Prop)→Prop)→Prop,f=Q95:=⟨_,rfl⟩
noncomputable def dr:World→((World→World→Prop)→(World→Prop)→Prop)→Prop:=Classical.choose X1t
theorem X1M:dr=Q95:=Classical.choose_spec X1t
theorem Ph {w:World} {A:(World→World→Prop)→(World→Prop)→Prop} (T:World→World→Prop) (B:World→Prop) (h:B w.drew) (a: ∀w w',B w→T w w'→B w') (b:A T B):dr w A:=by
 rw[X1M];exact ⟨T,B,h,a,b⟩
theorem E8 {T:World→World→Prop} {A a:(Value→World→Prop)→Prop} (φ:Value→World→Prop) (b:Sw T φ) (h:A φ) (c:a φ):Q5 T A a:=by
 rw[X09];exact ⟨φ,b,h,c⟩
def Q4b (T:World→World→Prop) (A a:(List Value→Value→World→Prop)→Prop):Prop:=
 ∃φ,(∀xs,Sw T (φ xs))∧A φ∧a φ
theorem Q7L: ∃f:(World→World→Prop)→((List Value→Value→World→Prop)→Prop)→((List Value→Value→World→Prop)→Prop)→Prop,f=Q4b:=⟨_,rfl⟩
noncomputable def Sn:(World→World→Prop)→((List Value→Value→World→Prop)→Prop)→((List Value→Value→World→Prop)→Prop)→Prop:=Classical.choose Q7L
theorem Q82:Sn=Q4b:=Classical.choose_spec Q7L
theorem Q41 {T:World→World→Prop} {A a:(List Value→Value→World→Prop)→Prop} (φ:List Value→Value→World→Prop) (b: ∀xs,Sw T (φ xs)) (h:A φ) (c:a φ):Sn T A a:=by
 rw[Q82];exact ⟨φ,b,h,c⟩
noncomputable def runOp (P:Program) (ops:List Oper) (l:List Value) (o:Oper) (w:World) (K:Value→World→Prop):Prop:=
 match o.guard with
 | none=>W2 P l o w K
 | some (j,b)=>match (ops[j]?).bind (·.dst) with
  | some d=>Q0 (get l d) b w (W2 P l o) K
  | none=>False
inductive Ent where
  | val (v : Value)
  | ref (j : Nat)
def Ent.at (u:Nat→Value):Ent→Value
 | .val v=>v
 | .ref j=>u j
def Qf (u:Nat→Value) (S:List Ent):List Value:=S.map (Ent.at u)
def getE:List Ent→Nat→Ent
 | [],_=> .val undef
 | x::_,0=>x
 | _::l,n+1=>getE l n
def entOf (S:List Ent):Operand→Ent
 | .tmp t=>getE S t
 | .const v=> .val v
 | .global g=> .val (.pointer (some ⟨g,0,none⟩))
 | .func f=> .val (.func (.func f) #[] #[])
def mv (o:Oper):Option Operand:=
 match o.guard with
 | some _=>none
 | none=>match o.op with
  | .move x=>some x
  | .assign x=>some x
  | _=>none
def Q2T:List Ent→Nat→Ent→List Ent
 | [],_,_=>[]
 | _::l,0,e=>e::l
 | x::l,n+1,e=>x::Q2T l n e
def putE (S:List Ent) (d:Option Nat) (e:Ent):List Ent:=
 match d with
 | some d=>Q2T S d e
 | none=>S
def B9 (o:Oper):List Nat:=o.op.operands.toList.filterMap fun | .tmp t=>some t | _=>none
def R3 (ops:List Oper) (o:Oper):List Nat:=
 match o.guard with
 | none=>[]
 | some (j,_)=>match (ops[j]?).bind (·.dst) with | some d=>[d] | none=>[]
def Q1u:List Nat→List Nat
 | []=>[]
 | x::l=>x::(Q1u l).filter (fun y=> !(y==x))
def Q5h:Ent→List Nat
 | .ref j=>[j]
 | .val _=>[]
def Q1T (S:List Ent):List Nat→List Nat
 | []=>[]
 | s::l=>Q5h (getE S s)++Q1T S l
def refs (ops:List Oper) (S:List Ent) (o:Oper):List Nat:=Q1u (Q1T S (R3 ops o++B9 o))
def Kr:List Nat→(Nat→Value)→((Nat→Value)→Prop)→Prop
 | [],u,k=>k u
 | j::a,u,k=> ∀t:Value,Kr a (fun n=>if n=j then t else u n) k
abbrev Ct:=List (Nat×List Nat×(List Value→Value→World→Prop))
def Ve:Ct→Nat→Option (List Nat×(List Value→Value→World→Prop))
 | [],_=>none
 | (i,φ)::l,j=>if i=j then some φ else Ve l j
def Ky (b:Ct) (u:Nat→Value) (w:World) (a:Prop):List Nat→Prop
 | []=>a
 | j::c=>match Ve b j with
  | some ([],φ)=>φ [] (u j) w→Ky b u w a c
  | _=>Ky b u w a c
def Q1H (b:Ct) (u:Nat→Value) (w:World) (a:Prop):List Nat→Prop
 | []=>a
 | j::c=>match Ve b j with
  | some (R,φ)=>φ (R.map u) (u j) w→Q1H b u w a c
  | none=>Q1H b u w a c
def Q5S (o:Oper):Bool:=match o.op with | .store .. =>true | _=>false
noncomputable def chain (P:Program) (ops:List Oper) (T:World→World→Prop) (B:World→Prop) (V1:List Value→World→Prop) (tail:List Oper):Nat→List Oper→List Ent→Ct→List Nat→Prop
 | _,[],S,b,done=>Kr done (fun _=>undef) fun u=> ∀w,B w→Q1H b u w (P3 P ops V1 tail (Qf u S) w) done
 | i,o::a,S,b,done=>
  match mv o with
  | some x=>chain P ops T B V1 tail (i+1) a (putE S o.dst (entOf S x)) b done
  | none=>match Q5S o with
   | true=>Sn T (fun φ=>Kr (refs ops S o) (fun _=>undef) fun u=> ∀w,B w→Ky b u w (runOp P ops (Qf u S) o w (dk T (φ ((refs ops S o).map u)) w)) (refs ops S o))
    (fun φ=>chain P ops T B V1 tail (i+1) a (putE S o.dst (.ref i)) (b++[(i,refs ops S o,φ)]) (done++[i]))
   | false=>Q5 T (fun φ=>Kr (refs ops S o) (fun _=>undef) fun u=> ∀w,B w→Ky b u w (runOp P ops (Qf u S) o w (dk T φ w)) (refs ops S o))
    (fun φ=>chain P ops T B V1 tail (i+1) a (putE S o.dst (.ref i)) (b++[(i,[],fun _=>φ)]) (done++[i]))
def Xp:Op→Bool
 | .ready _ | .waits _ | .sliceToArrayPointer .. | .makeChan .. | .typeAssert .. | .go _ | .defer _ | .send .. | .recv .. | .select .. =>false
 | .call c=>match c.callee with | .invoke .. =>false | _=>true
 | _=>true
theorem Bh {l l':List Value} {x:Option Operand} (h: ∀y∈x.toArray,ev l y=ev l' y):evo l x=evo l' x:=by
 cases x with
 | none=>rfl
 | some y=>simp only[evo];rw[h y (by simp)]
theorem Q0P {l l':List Value} {xs:Array Operand} (h: ∀y∈xs,ev l y=ev l' y):evs l xs=evs l' xs:=by
 unfold evs;exact List.map_congr_left fun y a=>h y (by simpa using a)
theorem Q4j {l l':List Value} {xs:Array (Nat×Operand)} (h: ∀y∈(xs.toList.map (·.2)).toArray,ev l y=ev l' y):evp l xs=evp l' xs:=by
 unfold evp
 refine List.map_congr_left fun y a=>?_
 rw[h y.2 (by simp;exact ⟨y.1,by simpa using a⟩)]
theorem Ec {P:Program} {l l':List Value} {o:Oper} (k:Xp o.op=true) (h: ∀x∈o.op.operands,ev l x=ev l' x):W2 P l o=W2 P l' o:=by
 obtain ⟨d,p,C,pos,D,g⟩:=o
 funext w K
 cases p with
 | call c=>
  obtain ⟨j,i,B⟩:=c
  have q:evs l i=evs l' i:=Q0P fun y e=>h y (by simp[Op.operands,Call.operands];exact .inr e)
  cases j with
  | invoke r m=>simp[Xp] at k
  | builtin b=>simp only[W2,Ds,q]
  | value f=>
   have u:ev l f=ev l' f:=h f (by simp[Op.operands,Call.operands])
   cases f<;>simp only[W2,Ds,q,u]
 | build t s=>simp only[W2];rw[Q4j h]
 | buildSlice t n s=>simp only[W2];rw[Q4j h]
 | makeFunc f a b=>
  simp only[W2]
  rw[Q0P (xs:=a) fun y e=>h y (by simp[Op.operands];exact .inl e),Q0P (xs:=b) fun y e=>h y (by simp[Op.operands];exact .inr e)]
 | makeMap t r=>simp only[W2];rw[Bh h]
 | slice t x z A v=>
  simp only[W2]
  rw[h x (by simp[Op.operands]),Bh (x:=z) fun y e=>h y (by simp[Op.operands] at e⊢;simp[e]),Bh (x:=A) fun y e=>h y (by simp[Op.operands] at e⊢;simp[e]),Bh (x:=v) fun y e=>h y (by simp[Op.operands] at e⊢;simp[e])]
 | _=>first
  | (simp[Xp] at k;done)
  | (simp only[Op.operands,List.mem_toArray,List.mem_cons,List.not_mem_nil,or_false,forall_eq_or_imp,forall_eq] at h;simp only[W2,h];done)
  | rfl
def Pu:List Oper→List Nat→List Nat
 | [],acc=>acc
 | o::a,acc=>Pu a (acc++[(o.after.toList.filter (Region.binds .any)).foldl (fun s e=>s ||| 2 ^ e.on ||| acc.getD e.on 0) 0])
def Qn (a b:Oper):Bool:=
 match a.dst with
 | some d=>(B9 b).contains d||b.dst==some d
 | none=>false
def Q44 (a:List Nat) (ops:List Oper):Bool:=
 ops.zipIdx.all fun (o,j)=>ops.zipIdx.all fun (q,i)=> !(decide (i<j))|| !(Qn q o||Qn o q)||(a.getD j 0).testBit i
def Va (ops:List Oper):Bool:=
 ops.zipIdx.all fun (o,i)=>Xp o.op&&(o.after.toList.filter (Region.binds .any)).all (fun e=>decide (e.on<i))&&
  match o.guard with | none=>true | some (j,_)=>(o.after.toList.filter (Region.binds .any)).any (fun e=>e.on==j)
def Q5f (m:Region.Mode) (ops:List Oper):List Nat→List Nat→Bool
 | [],_=>true
 | j::L,seen=>((ops[j]?.map fun o=>o.after.toList).getD []).all (fun e=> !Region.binds m e||seen.contains e.on)&&Q5f m ops L (j::seen)
def A4 (m:Region.Mode) (ops:List Oper) (L:List Nat):Bool:=
 Q5f m ops L []&&(List.range ops.length).all (L.contains ·)&&ops.all (fun o=>o.after.toList.all fun e=> !Region.binds m e||decide (e.on<ops.length))
def X0G (m:Region.Mode) (ops:List Oper):Nat→List Nat→List Nat→List Nat
 | 0,_,seen=>seen.reverse
 | n+1,a,seen=>
  match a.find? (fun j=>((ops[j]?.map fun o=>o.after.toList).getD []).all (fun e=> !Region.binds m e||seen.contains e.on)) with
  | some j=>X0G m ops n (a.erase j) (j::seen)
  | none=>seen.reverse
def Yc:List Nat→Bool
 | []=>true
 | x::l=> !l.contains x&&Yc l
def A7 (ops:List Oper) (j:Nat):List Nat:=(ops[j]?.map fun o=>(o.after.toList.filter (Region.binds .any)).map (·.on)).getD []
def Rx (ops:List Oper) (L:List Nat):Prop:= ∀b j a,L=b++j::a→ ∀i∈A7 ops j,i∈b
theorem Q6D (f:Edge→Nat) (l:List Edge): ∀(s i:Nat),(l.foldl (fun s e=>s ||| 2 ^ e.on ||| f e) s).testBit i=true→
 s.testBit i=true∨ ∃e∈l,e.on=i∨(f e).testBit i=true:=by
 induction l with
 | nil=>intro s i h;exact .inl h
 | cons e l a=>
  intro s i h
  rcases a _ _ h with h | ⟨b,c,h⟩
  ·simp only[Nat.testBit_or,Bool.or_eq_true] at h
   rcases h with (h | h) | h
   ·exact .inl h
   ·rw[Nat.testBit_two_pow] at h
    exact .inr ⟨e,by simp, .inl (by simpa using h)⟩
   ·exact .inr ⟨e,by simp, .inr h⟩
  ·exact .inr ⟨b,by simp[c],h⟩
theorem Q4P (a:List Oper): ∀(b:List Oper) (acc:List Nat),acc.length+b.length=a.length→(∀k,acc.length≤k→a[k]? =b[k-acc.length]?)→
 (∀j i,j<acc.length→(acc.getD j 0).testBit i=true→ ∃k∈A7 a j,k=i∨(k<j∧(acc.getD k 0).testBit i=true))→
 (∀j,j<a.length→ ∀k∈A7 a j,k<j)→
 ∀j i,j<a.length→((Pu b acc).getD j 0).testBit i=true→ ∃k∈A7 a j,k=i∨(k<j∧((Pu b acc).getD k 0).testBit i=true)
 | [],acc,q,_,c,_=>by
  intro j i t h
  exact c j i (by simp at q;omega) h
 | o::b,acc,q,f,c,n=>by
  have w:a[acc.length]? =some o:=by rw[f _ (Nat.le_refl _)];simp
  refine Q4P a b _ (by simp at q⊢;omega) ?_ ?_ n
  ·intro k g
   simp only[List.length_append,List.length_cons,List.length_nil] at g⊢
   rw[f k (by omega)]
   obtain ⟨m,y⟩: ∃m,k-acc.length=m+1:=⟨k-acc.length-1,by omega⟩
   rw[y,List.getElem?_cons_succ]
   congr 1;omega
  ·intro j i t h
   simp only[List.length_append,List.length_cons,List.length_nil] at t
   have d: ∀k,k<acc.length→(acc++[(o.after.toList.filter (Region.binds .any)).foldl (fun s e=>s ||| 2 ^ e.on ||| acc.getD e.on 0) 0]).getD k 0=acc.getD k 0:=by
    intro k g
    simp only[List.getD_eq_getElem?_getD]
    rw[List.getElem?_append_left g]
   by_cases p:j<acc.length
   ·rw[d j p] at h
    obtain ⟨k,g,h⟩:=c j i p h
    exact ⟨k,g,h.imp id fun ⟨v,z⟩=>⟨v,by rw[d k (by omega)];exact z⟩⟩
   ·have r:j=acc.length:=by omega
    subst r
    simp only[List.getD_eq_getElem?_getD,List.getElem?_append_right (Nat.le_refl _),Nat.sub_self,List.getElem?_cons_zero,Option.getD_some] at h
    rcases Q6D (fun e=>acc.getD e.on 0) _ _ _ (by simpa only[List.getD_eq_getElem?_getD] using h) with h | ⟨e,u,h⟩
    ·simp at h
    ·have l:e.on∈A7 a acc.length:=by
      unfold A7;rw[w];simp only[Option.map_some,Option.getD_some,List.mem_map];exact ⟨e,u,rfl⟩
     refine ⟨e.on,l,h.imp id fun h=>?_⟩
     have g:=n acc.length (by simp at q;omega) _ l
     exact ⟨g,by rw[d _ g];exact h⟩
theorem Ps {ops:List Oper} (h:Va ops=true): ∀j,j<ops.length→ ∀k∈A7 ops j,k<j:=by
 intro j b k a
 simp only[Va,List.all_eq_true,Bool.and_eq_true] at h
 unfold A7 at a
 rw[List.getElem?_eq_getElem b] at a
 simp only[Option.map_some,Option.getD_some,List.mem_map] at a
 obtain ⟨e,c,rfl⟩:=a
 have:=(h (ops[j],j) (by rw[List.mem_zipIdx_iff_getElem?];simp[b])).1.2 e c
 simpa using this
theorem Q5u {ops:List Oper} (g:Va ops=true) {L:List Nat} (m:Rx ops L): ∀(j:Nat),j<ops.length→ ∀i b a,L=b++j::a→((Pu ops []).getD j 0).testBit i=true→i∈b:=by
 intro j
 induction j using Nat.strongRecOn with
 | _ j q=>
  intro e i b a f p
  obtain ⟨k,n,h⟩:=Q4P ops ops [] (by simp) (by simp) (by intro j i e;simp at e) (Ps g) j i e p
  have c:=m b j a f k n
  rcases h with rfl | ⟨d,h⟩
  ·exact c
  ·obtain ⟨o,l,rfl⟩:=List.append_of_mem c
   have:=q k d (by omega) i o (l++j::a) (by rw[f];simp) h
   exact List.mem_append_left _ this
theorem Wu: ∀(n:Nat) (a:List Nat),(∀k,k<n→k∈a)→n≤a.length
 | 0,_,_=>Nat.zero_le _
 | n+1,a,h=>by
  have b:=Wu n (a.erase n) fun k d=>(List.mem_erase_of_ne (by omega)).2 (h k (by omega))
  have e:=List.length_erase_of_mem (h n (by omega))
  have c:=List.length_pos_of_mem (h n (by omega))
  omega
theorem G6: ∀(n:Nat) (l:List Nat),l.Nodup→(∀k∈l,k<n)→l.length≤n
 | 0,l,_,h=>by
  cases l with
  | nil=>simp
  | cons x l=>exact absurd (h x (by simp)) (by omega)
 | n+1,l,b,h=>by
  by_cases c:n∈l
  ·have g:=G6 n (l.erase n) (b.erase n) fun k a=>by
    have f:=h k (List.mem_of_mem_erase a)
    have d:k≠n:=fun e=>by subst e;exact (List.Nodup.not_mem_erase b) a
    omega
   have f:=List.length_erase_of_mem c
   have d:=List.length_pos_of_mem c
   omega
  ·have:=G6 n l b fun k a=>by
    have f:=h k a
    have d:k≠n:=fun e=>by subst e;exact c a
    omega
   omega
theorem X0n {m:Region.Mode} {e:Edge} (h:Region.binds .any e=true):Region.binds m e=true:=by
 unfold Region.binds at h⊢
 cases a:e.ground<;>rw[a] at h<;>first | rfl | (exact absurd h (by simp<;>rfl)) | (simp at h;cases h)
theorem Q8L {m:Region.Mode} {ops:List Oper} {L:List Nat} (h:A4 m ops L=true) (k:Nat) (b:k<ops.length): ∀e∈(ops[k]?.map fun o=>o.after.toList).getD [],Region.binds m e=true→e.on<ops.length:=by
 intro e a c
 simp only[A4,Bool.and_eq_true,List.all_eq_true] at h
 rw[List.getElem?_eq_getElem b] at a
 have:=h.2 ops[k] (List.getElem_mem b) e (by simpa using a)
 rw[c] at this
 simpa using this
theorem Q69 {m:Region.Mode} {ops:List Oper} {L:List Nat} (h:A4 m ops L=true): ∀k,k<ops.length→k∈L:=by
 intro k a
 simp only[A4,Bool.and_eq_true,List.all_eq_true] at h
 simpa using h.1.2 k (by simpa using a)
theorem Q7V (m:Region.Mode) (ops:Array Oper) (Q:Va ops.toList=true) (L0:List Nat) (O:A4 m ops.toList L0=true): ∀(fuel t:Nat) (listed:Array Bool) (a:List Nat),
 fuel+a.length=ops.size→listed.size=ops.size→(∀i,i<ops.size→(listed.getD i true=true↔i∈a))→a.Nodup→(∀i∈a,i<ops.size)→Rx ops.toList a.reverse→
 (Region.linearise.go m ops fuel t listed a).Nodup∧(Region.linearise.go m ops fuel t listed a).length=ops.size∧Rx ops.toList (Region.linearise.go m ops fuel t listed a)
 | 0,t,listed,a,hf,_,_,hn,_,U=>by
  simp only[Region.linearise.go]
  exact ⟨List.pairwise_reverse.2 (hn.imp fun h=>Ne.symm h),by simp;omega,U⟩
 | fuel+1,t,listed,a,hf,z,H,hn,M,U=>by
  -- one that isn't listed may come
  have X: ∃k,k<ops.size∧k∉a:=by
   refine Classical.byContradiction fun ab=>?_
   have A: ∀k,k<ops.size→k∈a:=fun k hk=>Classical.byContradiction fun h=>ab ⟨k,hk,h⟩
   have:=Wu ops.size a A
   omega
  simp only[Region.linearise.go]
  split
  ·rename_i i hi
   have l:=List.mem_of_getElem? hi
   simp only[List.mem_filter,List.mem_range,Bool.and_eq_true,Bool.not_eq_true'] at l
   obtain ⟨d,w,r⟩:=l
   have v:i∉a:=fun h=>by rw[(H i d).2 h] at w;cases w
   refine Q7V m ops Q L0 O fuel _ _ _ (by simp;omega) (by simp[z]) ?_ (List.nodup_cons.2 ⟨v,hn⟩) ?_ ?_
   ·intro j hj
    by_cases n:i=j
    ·subst n;simp[Array.getD,z,d]
    ·have:(listed.setIfInBounds i true).getD j true=listed.getD j true:=by
      simp only[Array.getD_eq_getD_getElem?]
      rw[Array.getElem?_setIfInBounds_ne n]
     rw[this,H j hj]
     simp[Ne.symm n]
   ·intro j hj
    rcases List.mem_cons.1 hj with rfl | hj
    ·exact d
    ·exact M j hj
   ·rw[List.reverse_cons]
    intro aa j J Y k hk
    rcases List.eq_nil_or_concat J with rfl | ⟨q,x,rfl⟩
    ·have hh:=List.append_inj' Y rfl
     obtain ⟨h1,h2⟩:=hh
     simp only[List.cons.injEq,and_true] at h2
     subst h2;subst h1
     have ac:=hk
     unfold A7 at hk
     rw[show ops.toList[i]? =some ops[i] by simp[d]] at hk
     simp only[Option.map_some,Option.getD_some,List.mem_map,List.mem_filter] at hk
     obtain ⟨e,⟨f,W⟩,rfl⟩:=hk
     rw[show ops[i]? =some ops[i] by simp[d]] at r
     simp only[Option.map_some,Option.getD_some,Array.all_eq_true'] at r
     have h4:=r e (by simpa using f)
     simp only[Bool.or_eq_true,Bool.not_eq_true'] at h4
     rcases h4 with h4 | h4
     ·rw[X0n W] at h4;cases h4
     ·have ao:=Ps Q i (by simpa using d) e.on ac
      have:listed.getD e.on true=true:=by
       simp only[Array.getD_eq_getD_getElem?] at h4⊢
       rw[Array.getElem?_eq_getElem (by omega)] at h4⊢
       simpa using h4
      simpa using (H e.on (by omega)).1 this
    ·rw[List.concat_eq_append,←List.cons_append,←List.append_assoc] at Y
     have hh:=List.append_inj' Y rfl
     exact U aa j q hh.1 k hk
  ·rename_i p
   exfalso
   obtain ⟨k0,D,B⟩:=X
   have N:=O
   simp only[A4,Bool.and_eq_true] at N
   -- every number of L0 that is none of an operation's has no edges: it may stand there, but isn't looked at
   have g: ∃k,k<ops.size∧k∉a∧ ∀e∈(ops.toList[k]?.map fun o=>o.after.toList).getD [],Region.binds m e=true→e.on∈a∨ops.size≤e.on:=by
    -- the first of L0 that is an operation's number and isn't listed
    have key: ∀(L b:List Nat),Q5f m ops.toList L b=true→(∀k∈b,k∈a∨ops.size≤k)→(∃k∈L,k<ops.size∧k∉a)→
     ∃k,k<ops.size∧k∉a∧ ∀e∈(ops.toList[k]?.map fun o=>o.after.toList).getD [],Region.binds m e=true→e.on∈a∨ops.size≤e.on:=by
     intro L
     induction L with
     | nil=>rintro b _ _ ⟨k,hk,_⟩;simp at hk
     | cons j L ih=>
      rintro b h hs ⟨k,hk,V,E⟩
      simp only[Q5f,Bool.and_eq_true,List.all_eq_true] at h
      by_cases hj:j∈a∨ops.size≤j
      ·refine ih (j::b) h.2 (fun x hx=>by rcases List.mem_cons.1 hx with rfl | hx;exact hj;exact hs x hx) ⟨k,?_,V,E⟩
       rcases List.mem_cons.1 hk with rfl | hk
       ·rcases hj with hj | hj
        ·exact absurd hj E
        ·omega
       ·exact hk
      ·have Z:j<ops.size:=by
        refine Nat.lt_of_not_le fun h=>hj (.inr h)
       refine ⟨j,Z,fun h=>hj (.inl h),fun e Q R=>?_⟩
       have:=h.1 e Q
       rw[R] at this
       exact hs _ (by simpa using this)
    exact key L0 [] N.1.1 (by simp) ⟨k0,Q69 O k0 (by simpa using D),D,B⟩
   obtain ⟨k,c,af,C⟩:=g
   by_cases s:k∈(List.range ops.size).filter fun i=> !listed.getD i true&&((ops[i]?).map (·.after.all fun e=> !Region.binds m e||listed.getD e.on false)).getD false
   ·have y:=List.length_pos_of_mem s
    have:=List.getElem?_eq_none_iff.1 p
    have:=Nat.mod_lt t y
    omega
   ·refine s ?_
    simp only[List.mem_filter,List.mem_range,Bool.and_eq_true,Bool.not_eq_true']
    refine ⟨c,?_,?_⟩
    ·cases hc:listed.getD k true with
     | false=>rfl
     | true=>exact absurd ((H k c).1 hc) af
    ·rw[show ops[k]? =some ops[k] by simp[c]]
     simp only[Option.map_some,Option.getD_some,Array.all_eq_true']
     intro e f
     simp only[Bool.or_eq_true,Bool.not_eq_true']
     cases R:Region.binds m e with
     | false=>exact .inl rfl
     | true=>
      right
      rw[show ops.toList[k]? =some ops[k] by simp[c]] at C
      rcases C e (by simpa using f) R with h | h
      ·have u:=M _ h
       have:=(H e.on u).2 h
       simp only[Array.getD_eq_getD_getElem?] at this⊢
       rw[Array.getElem?_eq_getElem (by omega)] at this⊢
       simpa using this
      ·exact absurd h (by
        have:=Q8L O k (by simpa using c) e (by rw[show ops.toList[k]? =some ops[k] by simp[c]];simpa using f) R
        simp at this;omega)
theorem Q58 (b:Bool) (ops:Array Oper) (t:Nat) (f:Va ops.toList=true) (d: ∀m,∃L,A4 m ops.toList L=true):
 (Region.schedule b ops t).Nodup∧(Region.schedule b ops t).length=ops.size∧Rx ops.toList (Region.schedule b ops t):=by
 have key: ∀m t,(Region.linearise m ops t).Nodup∧(Region.linearise m ops t).length=ops.size∧Rx ops.toList (Region.linearise m ops t):=by
  intro m t
  obtain ⟨L,e⟩:=d m
  refine Q7V m ops f L e _ _ _ _ (by simp) (by simp) ?_ List.nodup_nil (by simp) ?_
  ·intro i c;simp[Array.getD,c]
  ·intro g j a h;simp at h
 unfold Region.schedule
 split<;>exact key _ _
theorem Yk: ∀(ops:List Oper),Yc (R4 ops)=true→ ∀(i j:Nat) (a b:Oper) (d:Nat),ops[i]? =some a→ops[j]? =some b→a.dst=some d→b.dst=some d→i=j
 | [],_,i,j,a,b,d,h,_,_,_=>by simp at h
 | o::c,l,i,j,a,b,d,m,n,r,p=>by
  have f: ∀(k:Nat) (q:Oper),c[k]? =some q→q.dst=some d→d∈R4 c:=by
   intro k q v s
   simp only[R4,List.mem_filterMap]
   exact ⟨q,List.mem_of_getElem? v,s⟩
  have g:Yc (R4 c)=true:=by
   simp only[R4,List.filterMap_cons] at l
   split at l
   ·exact l
   ·simp only[Yc,Bool.and_eq_true] at l;exact l.2
  have e:o.dst=some d→d∉R4 c:=by
   intro t
   simp only[R4,List.filterMap_cons,t,Yc,Bool.and_eq_true,Bool.not_eq_true'] at l
   intro u
   have:=l.1
   simp only[List.contains_eq_mem,decide_eq_false_iff_not] at this
   exact this u
  cases i with
  | zero=>
   simp only[List.getElem?_cons_zero,Option.some.injEq] at m
   subst m
   cases j with
   | zero=>rfl
   | succ j=>exact absurd (f j b (by simpa using n) p) (e r)
  | succ i=>
   cases j with
   | zero=>
    simp only[List.getElem?_cons_zero,Option.some.injEq] at n
    subst n
    exact absurd (f i a (by simpa using m) r) (e p)
   | succ j=>rw[Yk c g i j a b d (by simpa using m) (by simpa using n) r p]
theorem Pm (u:Nat→Value): ∀(S:List Ent) (s:Nat),get (Qf u S) s=(getE S s).at u
 | [],s=>by simp[Qf,get,getE,Ent.at]
 | e::S,0=>rfl
 | e::S,s+1=>Pm u S s
theorem Fy: ∀(S:List Ent) (s:Nat),getE S s=(S[s]?).getD (.val undef)
 | [],s=>by simp[getE]
 | e::S,0=>rfl
 | e::S,s+1=>by simp only[getE,List.getElem?_cons_succ];exact Fy S s
theorem Q1w: ∀(S:List Ent) (n:Nat) (e:Ent),Q2T S n e=S.set n e
 | [],n,e=>by simp[Q2T]
 | x::S,0,e=>rfl
 | x::S,n+1,e=>by simp only[Q2T,List.set_cons_succ,Q1w S n e]
theorem Q4E {x:Nat}: ∀{l:List Nat},x∈l→x∈Q1u l
 | y::l,h=>by
  simp only[Q1u,List.mem_cons,List.mem_filter]
  by_cases e:x=y
  ·exact .inl e
  ·exact .inr ⟨Q4E ((List.mem_cons.1 h).resolve_left e),by simpa using e⟩
theorem Bu {x:Nat}: ∀{l:List Nat},x∈Q1u l→x∈l
 | y::l,h=>by
  simp only[Q1u,List.mem_cons,List.mem_filter] at h⊢
  exact h.imp id fun h=>Bu h.1
theorem Q4Q {S:List Ent} {j:Nat}: ∀{l:List Nat} {s:Nat},s∈l→getE S s= .ref j→j∈Q1T S l
 | x::l,s,h,e=>by
  simp only[Q1T,List.mem_append]
  rcases List.mem_cons.1 h with rfl | h
  ·left;rw[e];simp[Q5h]
  ·right;exact Q4Q h e
theorem Bp {S:List Ent} {j:Nat}: ∀{l:List Nat},j∈Q1T S l→ ∃s∈l,getE S s= .ref j
 | x::l,h=>by
  simp only[Q1T,List.mem_append] at h
  rcases h with h | h
  ·refine ⟨x,by simp,?_⟩
   cases a:getE S x with
   | val v=>rw[a] at h;simp[Q5h] at h
   | ref k=>rw[a] at h;simp[Q5h] at h;rw[h]
  ·obtain ⟨s,b,e⟩:=Bp h
   exact ⟨s,by simp[b],e⟩
theorem Q2K: ∀(a:List Nat) (b u:Nat→Value) (k:(Nat→Value)→Prop),Kr a b k→ ∃c,k c∧ ∀x,(x∈a→c x=u x)∧(x∉a→c x=b x)
 | [],b,u,k,h=>⟨b,h,fun x=>⟨fun h=>by simp at h,fun _=>rfl⟩⟩
 | j::a,b,u,k,h=>by
  obtain ⟨c,g,d⟩:=Q2K a _ u k (h (u j))
  refine ⟨c,g,fun x=>⟨fun hx=>?_,fun hx=>?_⟩⟩
  ·by_cases f:x∈a
   ·exact (d x).1 f
   ·rw[(d x).2 f]
    rcases List.mem_cons.1 hx with rfl | hx
    ·simp
    ·exact absurd hx f
  ·rw[(d x).2 (fun h=>hx (List.mem_cons_of_mem _ h))]
   have:x≠j:=fun e=>hx (by simp[e])
   simp[this]
theorem Q2R {e:Ct} {u:Nat→Value} {w:World} {a:Prop}: ∀{b:List Nat},Ky e u w a b→(∀j∈b,∀φ,Ve e j=some ([],φ)→φ [] (u j) w)→a
 | [],h,_=>h
 | j::b,h,c=>by
  simp only[Ky] at h
  split at h
  ·rename_i φ f
   exact Q2R (h (c j (by simp) φ f)) fun k d=>c k (by simp[d])
  ·exact Q2R h fun k d=>c k (by simp[d])
theorem Q0I {e:Ct} {u:Nat→Value} {w:World} {a:Prop}: ∀{b:List Nat},Q1H e u w a b→(∀j∈b,∀R φ,Ve e j=some (R,φ)→φ (R.map u) (u j) w)→a
 | [],h,_=>h
 | j::b,h,c=>by
  simp only[Q1H] at h
  split at h
  ·rename_i R φ f
   exact Q0I (h (c j (by simp) R φ f)) fun k d=>c k (by simp[d])
  ·exact Q0I h fun k d=>c k (by simp[d])
theorem Py {a:Ct} {i j:Nat} {φ:List Nat×(List Value→Value→World→Prop)} (h:i≠j):Ve (a++[(i,φ)]) j=Ve a j:=by
 induction a with
 | nil=>simp[Ve,h]
 | cons p a b=>obtain ⟨k,ψ⟩:=p;simp only[List.cons_append,Ve,b]
theorem Oc {a:Ct} {i:Nat} {φ:List Nat×(List Value→Value→World→Prop)} (h:Ve a i=none):Ve (a++[(i,φ)]) i=some φ:=by
 induction a with
 | nil=>simp[Ve]
 | cons p a b=>
  obtain ⟨k,ψ⟩:=p
  simp only[Ve] at h
  split at h
  ·cases h
  ·rename_i c;simp only[List.cons_append,Ve,c,if_false];exact b h
def Cl (S:List Ent) (i:Nat) (o:Oper):Ent:=match mv o with | some x=>entOf S x | none=> .ref i
def O6 (S:List Ent):Nat→List Oper→List Ent
 | _,[]=>S
 | i,o::a=>O6 (putE S o.dst (Cl S i o)) (i+1) a
theorem Q4s: ∀(a:List Oper) (S:List Ent) (i k:Nat) (o:Oper),a[k]? =some o→
 O6 S i (a.take (k+1))=putE (O6 S i (a.take k)) o.dst (Cl (O6 S i (a.take k)) (i+k) o)
 | [],_,_,_,_,h=>by simp at h
 | x::a,S,i,0,o,h=>by
  simp only[List.getElem?_cons_zero,Option.some.injEq] at h
  subst h
  simp[O6]
 | x::a,S,i,k+1,o,h=>by
  simp only[List.getElem?_cons_succ] at h
  have:=Q4s a (putE S x.dst (Cl S i x)) (i+1) k o h
  simp only[List.take_succ_cons,O6]
  rw[this,show i+1+k=i+(k+1) from by omega]
def Zd (S:List Ent) (D:List Nat):Prop:= ∀e∈S,∀j,e= .ref j→j∈D
theorem Zd.getE {S:List Ent} {D:List Nat} (h:Zd S D) {s j:Nat} (e:Go.Emb.getE S s= .ref j):j∈D:=by
 rw[Fy] at e
 cases a:S[s]? with
 | none=>rw[a] at e;cases e
 | some x=>rw[a] at e;exact h x (List.mem_of_getElem? a) j e
theorem Zd.putE {S:List Ent} {D:List Nat} (h:Zd S D) (d:Option Nat) {e:Ent} (c: ∀j,e= .ref j→j∈D):Zd (Go.Emb.putE S d e) D:=by
 cases d with
 | none=>exact h
 | some d=>
  intro x a j b
  simp only[Go.Emb.putE,Q1w] at a
  rcases List.mem_or_eq_of_mem_set a with a | rfl
  ·exact h x a j b
  ·exact c j b
theorem Zd.mono {S:List Ent} {D D':List Nat} (h:Zd S D) (a: ∀j∈D,j∈D'):Zd S D':=fun e b j c=>a j (h e b j c)
theorem Zd.entOf {S:List Ent} {D:List Nat} (h:Zd S D) (x:Operand) {j:Nat} (e:Go.Emb.entOf S x= .ref j):j∈D:=by
 cases x with
 | tmp t=>exact h.getE e
 | _=>cases e
theorem Q8g {S:List Ent} {D:List Nat} (h:Zd S D) {u a:Nat→Value} (b: ∀j∈D,a j=u j):Qf a S=Qf u S:=by
 unfold Qf
 refine List.map_congr_left fun e c=>?_
 cases e with
 | val v=>rfl
 | ref j=>exact b j (h _ c j rfl)
theorem Q2d {P:Program} {ops:List Oper} {l l':List Value} {o:Oper} (c:Xp o.op=true) (h: ∀s∈R3 ops o++B9 o,get l s=get l' s):runOp P ops l o=runOp P ops l' o:=by
 funext w K
 unfold runOp
 rw[Ec c fun x e=>by
  cases x with
  | tmp s=>exact h s (List.mem_append_right _ (by simp only[B9,List.mem_filterMap];exact ⟨.tmp s,by simpa using e,rfl⟩))
  | _=>rfl]
 cases a:o.guard with
 | none=>rfl
 | some q=>
  obtain ⟨j,b⟩:=q
  simp only
  cases f:(ops[j]?).bind (·.dst) with
  | none=>rfl
  | some d=>simp only;rw[h d (List.mem_append_left _ (by simp[R3,a,f]))]
theorem Q33 {P:Program} {ops:List Oper} {l:List Value} {o:Oper} {w:World} {K d:Value→World→Prop} (b: ∀v w,K v w→d v w) (h:runOp P ops l o w K):runOp P ops l o w d:=by
 unfold runOp at*
 split at h
 ·exact K4 b h
 ·split at h
  ·exact Q19 ((Lz h).imp (fun ⟨a,c⟩=>⟨a,K4 b c⟩) (fun ⟨a,c⟩=>⟨a,b _ _ c⟩))
  ·exact h.elim
theorem Q3E {P:Program} {ops:List Oper} {V1:List Value→World→Prop} {o:Oper} {a:List Oper} {l:List Value} {w:World}
 (h:runOp P ops l o w (fun v w=>Z2 P ops V1 a (put l o.dst v) w)):Z2 P ops V1 (o::a) l w:=by
 simp only[Z2]
 unfold runOp at h
 cases e:o.guard with
 | none=>simp only[e] at h⊢;exact h
 | some q=>
  obtain ⟨j,b⟩:=q
  simp only[e] at h⊢
  split at h
  ·rename_i d c
   first | exact h | (simp only[c];exact h) | (rw[c];exact h)
  ·exact h.elim
structure Whole (P : Program) (ops : List Oper) (T : World → World → Prop) (B : World → Prop) (V1 : List Value → World → Prop) (tail : List Oper) (Φ : Nat → (Nat → Value) → World → Prop) (S : List Ent) (i : Nat) (rest : List Oper) (D : List Nat) : Prop where
  stable : ∀ k o, rest[k]? = some o → mv o = none → ∀ u w w', Φ (i + k) u w → T w w' → Φ (i + k) u w'
  loc : ∀ k o, rest[k]? = some o → mv o = none → ∀ u u', (∀ r ∈ (i + k) :: refs ops (O6 S i (rest.take k)) o, u r = u' r) → Φ (i + k) u = Φ (i + k) u'
  run : ∀ k o, rest[k]? = some o → mv o = none → Xp o.op = true → ∀ u w, B w → (∀ j ∈ refs ops (O6 S i (rest.take k)) o, Φ j u w) →
    runOp P ops (Qf u (O6 S i (rest.take k))) o w (fun v w' => T w w' ∧ ∀ u', (∀ r ∈ refs ops (O6 S i (rest.take k)) o, u' r = u r) → u' (i + k) = v → Φ (i + k) u' w')
  last : ∀ u w, B w → (∀ j ∈ D, Φ j u w) → (∀ k o, rest[k]? = some o → mv o = none → Φ (i + k) u w) → Z2 P ops V1 tail (Qf u (O6 S i rest)) w
theorem Q0K (P:Program) (ops:List Oper) (T:World→World→Prop) (B:World→Prop) (V1:List Value→World→Prop) (tail:List Oper): ∀(f:List Oper) (i:Nat) (S:List Ent) (m:Ct) (done:List Nat),
 Zd S done→(∀j,j∈done→j<i∧ ∃φ,Ve m j=some φ)→(∀j φ,Ve m j=some φ→j<i∧ ∀r∈φ.1,r∈done)→chain P ops T B V1 tail i f S m done→
 ∃Φ:Nat→(Nat→Value)→World→Prop,(∀j R φ,Ve m j=some (R,φ)→Φ j=fun u w=>φ (R.map u) (u j) w)∧Whole P ops T B V1 tail Φ S i f done
 | [],i,S,m,done,L,V,E,h=>by
  refine ⟨fun j u w=>match Ve m j with | some (R,φ)=>φ (R.map u) (u j) w | none=>True,fun j R φ hj=>by simp[hj],⟨by simp,by simp,by simp,?_⟩⟩
  intro u w hB H _
  obtain ⟨t,q,g⟩:=Q2K done _ u _ h
  have p:=Q0I (q w hB) fun j hj R φ M=>by
   have:=H j hj
   simp only[M] at this
   rw[(g j).1 hj,show R.map t=R.map u from List.map_congr_left fun r d=>(g r).1 ((E j _ M).2 r d)];exact this
  rw[Q8g L fun j hj=>(g j).1 hj,Ro] at p
  exact p
 | o::f,i,S,m,done,L,V,E,h=>by
  simp only[chain] at h
  cases y:mv o with
  | some x=>
   simp only[y] at h
   have c:Cl S i o=entOf S x:=by simp[Cl,y]
   obtain ⟨Φ,q,g⟩:=Q0K P ops T B V1 tail f (i+1) _ m done (L.putE _ fun j hj=>L.entOf x hj) (fun j hj=>⟨by have:=(V j hj).1;omega,(V j hj).2⟩) (fun j φ hj=>⟨by have:=(E j φ hj).1;omega,(E j φ hj).2⟩) h
   refine ⟨Φ,q,⟨?_,?_,?_,?_⟩⟩
   ·intro k l b a
    cases k with
    | zero=>simp only[List.getElem?_cons_zero,Option.some.injEq] at b;subst b;rw[y] at a;cases a
    | succ k=>have:=g.stable k l (by simpa using b) a;rwa [show i+1+k=i+(k+1) from by omega] at this
   ·intro k l b a u t J
    cases k with
    | zero=>simp only[List.getElem?_cons_zero,Option.some.injEq] at b;subst b;rw[y] at a;cases a
    | succ k=>
     simp only[List.take_succ_cons,O6,c] at J
     have:=g.loc k l (by simpa using b) a u t (by rwa [show i+1+k=i+(k+1) from by omega])
     rwa [show i+1+k=i+(k+1) from by omega] at this
   ·intro k l b a z u w hB d
    cases k with
    | zero=>simp only[List.getElem?_cons_zero,Option.some.injEq] at b;subst b;rw[y] at a;cases a
    | succ k=>
     simp only[List.take_succ_cons,O6,c] at d⊢
     have:=g.run k l (by simpa using b) a z u w hB d
     rwa [show i+1+k=i+(k+1) from by omega] at this
   ·intro u w hB H U
    simp only[O6,c]
    refine g.last u w hB H fun k l b a=>?_
    have:=U (k+1) l (by simpa using b) a
    rwa [show i+(k+1)=i+1+k from by omega] at this
  | none=>
   have h': ∃(R:List Nat) (φ:List Value→Value→World→Prop),(∀r∈R,r∈refs ops S o)∧(∀xs,Sw T (φ xs))∧
    (Kr (refs ops S o) (fun _=>undef) fun u=> ∀w,B w→Ky m u w (runOp P ops (Qf u S) o w (dk T (φ (R.map u)) w)) (refs ops S o))∧
    chain P ops T B V1 tail (i+1) f (putE S o.dst (.ref i)) (m++[(i,R,φ)]) (done++[i]):=by
    cases O:Q5S o with
    | true=>
     simp only[y,O,Q82,Q4b] at h
     obtain ⟨φ,q,g,p⟩:=h
     exact ⟨_,φ,fun _ h=>h,q,g,p⟩
    | false=>
     simp only[y,O,X09,Q6m] at h
     obtain ⟨φ,q,g,p⟩:=h
     exact ⟨[],fun _=>φ,by simp,fun _=>q,g,p⟩
   clear h
   obtain ⟨R,φ,Q,ab,N,h⟩:=h'
   have X: ∀r∈refs ops S o,r∈done:=fun r d=>by
    obtain ⟨s,_,Y⟩:=Bp (Bu d)
    exact L.entOf (.tmp s) Y
   have c:Cl S i o= .ref i:=by simp[Cl,y]
   have n:Ve m i=none:=by
    cases H:Ve m i with
    | none=>rfl
    | some ψ=>have:=(E i ψ H).1;omega
   obtain ⟨Φ,q,g⟩:=Q0K P ops T B V1 tail f (i+1) _ (m++[(i,R,φ)]) (done++[i])
    ((L.mono fun j hj=>List.mem_append_left _ hj).putE _ fun j hj=>by cases hj;simp)
    (fun j hj=>by
     rcases List.mem_append.1 hj with hj | hj
     ·obtain ⟨p,ψ,C⟩:=V j hj
      exact ⟨by omega,ψ,by rw[Py (by omega)];exact C⟩
     ·simp at hj;subst hj;exact ⟨by omega,(R,φ),Oc n⟩)
    (fun j ψ hj=>by
     by_cases e:i=j
     ·subst e
      rw[Oc n] at hj;cases hj
      exact ⟨by omega,fun r d=>List.mem_append_left _ (X r (Q r d))⟩
     ·rw[Py e] at hj
      obtain ⟨p,C⟩:=E j ψ hj
      exact ⟨by omega,fun r d=>List.mem_append_left _ (C r d)⟩) h
   have D:Φ i=fun u w=>φ (R.map u) (u i) w:=q i R φ (Oc n)
   have A: ∀j R' ψ,Ve m j=some (R',ψ)→Φ j=fun u w=>ψ (R'.map u) (u j) w:=fun j R' ψ hj=>q j R' ψ (by rw[Py (by have:=(E j _ hj).1;omega)];exact hj)
   refine ⟨Φ,A,⟨?_,?_,?_,?_⟩⟩
   ·intro k l b a
    cases k with
    | zero=>
     intro u w w' ha W
     rw[Nat.add_zero,D] at ha⊢
     exact ab _ _ _ _ ha W
    | succ k=>have:=g.stable k l (by simpa using b) a;rwa [show i+1+k=i+(k+1) from by omega] at this
   ·intro k l b a u t J
    cases k with
    | zero=>
     simp only[List.getElem?_cons_zero,Option.some.injEq] at b
     subst b
     simp only[List.take_zero,O6,Nat.add_zero] at J
     rw[Nat.add_zero,D]
     funext w
     show φ (R.map u) (u i) w=φ (R.map t) (t i) w
     rw[show R.map u=R.map t from List.map_congr_left fun r d=>J r (List.mem_cons_of_mem _ (Q r d)),J i (by simp)]
    | succ k=>
     simp only[List.take_succ_cons,O6,c] at J
     have:=g.loc k l (by simpa using b) a u t (by rwa [show i+1+k=i+(k+1) from by omega])
     rwa [show i+1+k=i+(k+1) from by omega] at this
   ·intro k l b a z u w hB d
    cases k with
    | zero=>
     simp only[List.getElem?_cons_zero,Option.some.injEq] at b
     subst b
     simp only[List.take_zero,O6,Nat.add_zero] at d⊢
     obtain ⟨t,p,C⟩:=Q2K _ _ u _ N
     have h5:=Q2R (p w hB) fun j hj ψ hψ=>by
      have h6:=d j hj
      rw[A j [] ψ hψ] at h6
      rw[(C j).1 hj];exact h6
     rw[Q2d z (l':=Qf u S)] at h5
     ·refine Q33 ?_ h5
      rintro v w' ⟨W,hf⟩
      refine ⟨W,fun Z aa hi=>?_⟩
      rw[D]
      show φ (R.map Z) (Z i) w'
      rw[hi,show R.map Z=R.map t from List.map_congr_left fun r d=>by rw[aa r (Q r d),(C r).1 (Q r d)]]
      exact hf
     ·intro s O
      rw[Pm,Pm]
      cases Y:getE S s with
      | val v=>rfl
      | ref j=>exact (C j).1 (Q4E (Q4Q O Y))
    | succ k=>
     simp only[List.take_succ_cons,O6,c] at d⊢
     have:=g.run k l (by simpa using b) a z u w hB d
     rwa [show i+1+k=i+(k+1) from by omega] at this
   ·intro u w hB H U
    simp only[O6,c]
    refine g.last u w hB (fun j hj=>?_) fun k l b a=>?_
    ·rcases List.mem_append.1 hj with hj | hj
     ·exact H j hj
     ·simp at hj;subst hj
      have:=U 0 o (by simp) y
      simpa using this
    ·have:=U (k+1) l (by simpa using b) a
     rwa [show i+(k+1)=i+1+k from by omega] at this
def Qr (os:List Oper) (S0:List Ent) (q:Nat):Ent:=
 match os[q]? with
 | some o=>Cl (O6 S0 0 (os.take q)) q o
 | none=> .val undef
theorem Q7K {os:List Oper} {S0:List Ent} {q:Nat} {o:Oper} (h:os[q]? =some o):O6 S0 0 (os.take (q+1))=putE (O6 S0 0 (os.take q)) o.dst (Qr os S0 q):=by
 rw[Q4s os S0 0 q o h]
 simp[Qr,h]
theorem Q7h (S:List Ent) (d:Option Nat) (e:Ent):(putE S d e).length=S.length:=by
 cases d with
 | none=>rfl
 | some d=>simp[putE,Q1w]
theorem Kh (os:List Oper) (S0:List Ent): ∀q,q≤os.length→(O6 S0 0 (os.take q)).length=S0.length
 | 0,_=>by simp[O6]
 | q+1,h=>by rw[Q7K (List.getElem?_eq_getElem (by omega)),Q7h,Kh os S0 q (by omega)]
theorem Sz {os:List Oper} {S0:List Ent} (t:Yc (R4 os)=true) (u: ∀d∈R4 os,d<S0.length): ∀q,q≤os.length→
 (∀p,p<q→ ∀o d,os[p]? =some o→o.dst=some d→(O6 S0 0 (os.take q))[d]? =some (Qr os S0 p))∧
  (∀s,(∀p,p<q→ ∀o,os[p]? =some o→o.dst≠some s)→(O6 S0 0 (os.take q))[s]? =S0[s]?)
 | 0,_=>⟨fun p k=>absurd k (by omega),fun s _=>by simp[O6]⟩
 | q+1,h=>by
  obtain ⟨n,r⟩:=Sz t u q (by omega)
  have j:os[q]? =some os[q]:=List.getElem?_eq_getElem (by omega)
  have g:=Kh os S0 q (by omega)
  rw[Q7K j]
  cases a:os[q].dst with
  | none=>
   refine ⟨fun p k o d b c=>?_,fun s l=>r s fun p k=>l p (by omega)⟩
   by_cases e:p=q
   ·subst e;rw[j] at b;cases b;rw[a] at c;cases c
   ·exact n p (by omega) o d b c
  | some i=>
   have m:i<S0.length:=u i (by simp only[R4,List.mem_filterMap];exact ⟨os[q],List.getElem_mem _,a⟩)
   simp only[putE,Q1w]
   refine ⟨fun p k o d b c=>?_,fun s l=>?_⟩
   ·by_cases e:p=q
    ·subst e;rw[j] at b;cases b;rw[a] at c;cases c
     rw[List.getElem?_set_self (by rw[g];exact m)]
    ·have f:i≠d:=by
      rintro rfl
      exact e (Yk os t p q o os[q] i b j c a)
     rw[List.getElem?_set_ne f]
     exact n p (by omega) o d b c
   ·have f:i≠s:=fun e=>l q (by omega) os[q] j (by rw[a,e])
    rw[List.getElem?_set_ne f]
    exact r s fun p k=>l p (by omega)
def Nc (os:List Oper) (p:Nat):Bool:=
 match os[p]? with
 | some o=>match mv o with
  | some (.tmp s)=> !(R4 os).contains s
  | some _=>true
  | none=>false
 | none=>false
theorem X3u {P:Program} {o:Oper} {x:Operand} (h:mv o=some x) (l:List Value) (w:World) (K:Value→World→Prop):o.guard=none∧W2 P l o w K=K (ev l x) w:=by
 unfold mv at h
 split at h
 ·cases h
 ·rename_i b
  refine ⟨b,?_⟩
  split at h
  ·rename_i y a;cases h;simp only[W2,a]
  ·rename_i y a;cases h;simp only[W2,a]
  ·cases h
theorem Q6M {P:Program} {ops:List Oper} {V1:List Value→World→Prop} {o:Oper} {c a:List Oper} {l l':List Value} {w:World} (p:Xp o.op=true) (m: ∀s∈R3 ops o++B9 o,get l' s=get l s)
 (f: ∀v w,Z2 P ops V1 c (put l o.dst v) w→Z2 P ops V1 a (put l' o.dst v) w) (h:Z2 P ops V1 (o::c) l w):Z2 P ops V1 (o::a) l' w:=by
 have n:W2 P l' o=W2 P l o:=Ec p fun x r=>by
  cases x with
  | tmp s=>exact m s (List.mem_append_right _ (by simp only[B9,List.mem_filterMap];exact ⟨.tmp s,by simpa using r,rfl⟩))
  | _=>rfl
 simp only[Z2] at h⊢
 cases e:o.guard with
 | none=>simp only[e] at h⊢;rw[n];exact K4 f h
 | some q=>
  obtain ⟨j,b⟩:=q
  simp only[e] at h⊢
  cases k:(ops[j]?).bind (·.dst) with
  | none=>simp only[k] at h⊢;exact f _ _ h
  | some d=>
   simp only[k] at h⊢
   rw[m d (List.mem_append_left _ (by simp[R3,e,k])),n]
   exact Q19 ((Lz h).imp (fun ⟨g,i⟩=>⟨g,K4 f i⟩) (fun ⟨g,i⟩=>⟨g,f _ _ i⟩))
structure At (os : List Oper) (l0 : List Value) (pre : List Nat) (l : List Value) (u : Nat → Value) : Prop where
  len : l.length = l0.length
  done : ∀ p ∈ pre, ∀ o d, os[p]? = some o → o.dst = some d → l[d]? = some ((Qr os (l0.map .val) p).at u)
  rest : ∀ s, (∀ p ∈ pre, ∀ o, os[p]? = some o → o.dst ≠ some s) → l[s]? = l0[s]?
  refs : ∀ p ∈ pre, ∀ r, Qr os (l0.map .val) p = .ref r → r ∈ pre ∧ ∃ o, os[r]? = some o ∧ mv o = none
theorem X4E {P:Program} {ops os:List Oper} {T:World→World→Prop} {B:World→Prop} {V1:List Value→World→Prop} {m:Nat} {C:List Value} {Φ:Nat→(Nat→Value)→World→Prop}
 (bit:Nat→Nat→Bool) (bv: ∀o∈os,Xp o.op=true) (hn:Yc (R4 os)=true) (hd: ∀d∈R4 os,d<C.length)
 (af: ∀p q a b,p<q→os[p]? =some a→os[q]? =some b→(Qn a b||Qn b a)=true→bit p q=true)
 (hg: ∀q o j b,os[q]? =some o→o.guard=some (j,b)→ ∃p,p<q∧os[p]? =ops[j]? ∧bit p q=true)
 (hm:m≤os.length) (am: ∀q,m≤q→q<os.length→ ∀p,p<q→bit p q=true∨(p<m∧Nc os p=true))
 (hT: ∀w w',B w→T w w'→B w') (hW:Whole P ops T B V1 (os.drop m) Φ (C.map .val) 0 (os.take m) [])
 (L:List Nat) (H:L.Nodup) (bm:L.length=os.length) (ac: ∀q∈L,q<os.length)
 (hC: ∀c q f,L=c++q::f→ ∀p,bit p q=true→p<os.length→p∈c):
 ∀(f c:List Nat),L=c++f→(∀q∈c,q<m)→ ∀(l:List Value) (u:Nat→Value) (w:World),At os C c l u→B w→
  (∀r∈c,∀o,os[r]? =some o→mv o=none→Φ r u w∧ ∀j∈refs ops (O6 (C.map .val) 0 (os.take r)) o,j∈c)→Z2 P ops V1 (f.filterMap (os[·]?)) l w:=by
 have ba: ∀d∈R4 os,d<(C.map Ent.val).length:=by simpa using hd
 have a3: ∀q,q≤m→(os.take m).take q=os.take q:=fun q hq=>by rw[List.take_take,Nat.min_eq_left hq]
 have V: ∀q,q<m→(os.take m)[q]? =os[q]? :=fun q hq=>by rw[List.getElem?_take_of_lt hq]
 -- when all of the first part is done
 have cu: ∀(c f:List Nat),L=c++f→(∀q∈c,q<m)→(∀q,q<m→q∈c)→ ∀l u w,At os C c l u→B w→
  (∀r∈c,∀o,os[r]? =some o→mv o=none→Φ r u w∧ ∀j∈refs ops (O6 (C.map .val) 0 (os.take r)) o,j∈c)→Z2 P ops V1 (f.filterMap (os[·]?)) l w:=by
  intro c f E D an l u w hA hB hΦ
  have cd: ∀(f c:List Nat),L=c++f→m≤c.length→(∀q,q∈c↔q<c.length)→f.filterMap (os[·]?)=os.drop c.length:=by
   intro f
   induction f with
   | nil=>
    intro c E _ _
    rw[List.append_nil] at E
    rw[←E,bm];simp
   | cons q f ih=>
    intro c E c5 a4
    have ct:q∉c:=by
     rw[E] at H
     intro h
     exact (List.nodup_append.1 H).2.2 q h q (by simp) rfl
    have cw:c.length≤q:=Nat.le_of_not_lt fun h=>ct ((a4 q).2 h)
    have W:=ac q (by rw[E];simp)
    have cn:q=c.length:=by
     refine Nat.le_antisymm (Nat.le_of_not_lt fun h=>?_) cw
     have:=hC c q f E c.length ((am q (by omega) W _ h).resolve_right (by omega)) (by omega)
     have:=(a4 _).1 this
     omega
    subst cn
    rw[List.filterMap_cons,List.getElem?_eq_getElem W]
    simp only
    rw[ih (c++[c.length]) (by rw[E];simp) (by simp;omega) (by intro x;simp only[List.mem_append,a4,List.mem_singleton,List.length_append,List.length_cons,List.length_nil];omega)]
    simp only[List.length_append,List.length_cons,List.length_nil]
    rw[←List.drop_eq_getElem_cons W]
  have bc:c.length=m:=by
   have J:=G6 m c (by rw[E] at H;exact (List.nodup_append.1 H).1) D
   have R:=Wu m c an
   omega
  have J:=cd f c E (by omega) (fun q=>by rw[bc];exact ⟨D q,an q⟩)
  rw[J,bc]
  have R:=hW.last u w hB (by simp) fun k o hk t=>by
   have aw:k<m:=by
    have:=(List.getElem?_eq_some_iff.1 hk).1
    simp at this;omega
   rw[Nat.zero_add]
   rw[V k aw] at hk
   exact (hΦ k (an k aw) o hk t).1
  have h3:l=Qf u (O6 (C.map .val) 0 (os.take m)):=by
   obtain ⟨g1,g2⟩:=Sz hn ba m hm
   apply List.ext_getElem?
   intro s
   rw[Qf,List.getElem?_map]
   by_cases hs: ∃p,p<m∧ ∃o,os[p]? =some o∧o.dst=some s
   ·obtain ⟨p,hp,o,i,z⟩:=hs
    rw[hA.done p (an p hp) o s i z,g1 p hp o s i z];rfl
   ·have ad: ∀p,p<m→ ∀o,os[p]? =some o→o.dst≠some s:=fun p hp o i z=>hs ⟨p,hp,o,i,z⟩
    rw[hA.rest s (fun p hp=>ad p (D p hp)),g2 s ad,List.getElem?_map]
    cases C[s]? <;>rfl
  rw[h3];exact R
 -- moves that come late, among the tail
 have ce: ∀(f c:List Nat) (k:Nat),L=c++f→m≤k→k≤os.length→(∀q,m≤q→(q∈c↔q<k))→(∀p∈f,p<m→Nc os p=true)→
  ∀(l lf:List Value) (w:World),l.length=C.length→lf.length=C.length→(∀s,(∀p∈f,p<m→ ∀o,os[p]? =some o→o.dst≠some s)→l[s]? =lf[s]?)→
   (∀p∈f,p<m→ ∀o d x,os[p]? =some o→mv o=some x→o.dst=some d→lf[d]? =some (ev C x))→(∀s,(R4 os).contains s=false→l[s]? =C[s]?)→
   Z2 P ops V1 (os.drop k) lf w→Z2 P ops V1 (f.filterMap (os[·]?)) l w:=by
  intro f
  induction f with
  | nil=>
   intro c k E bb bk ab _ l lf w hl a9 ap _ _ h
   rw[List.append_nil] at E
   have hk:k=os.length:=by
    refine Nat.le_antisymm bk (Nat.le_of_not_lt fun D=>?_)
    have cr:k∉c:=fun e=>by have:=(ab k bb).1 e;omega
    have J:=G6 os.length (k::c) (List.nodup_cons.2 ⟨cr,E▸H⟩) (fun x hx=>by
     rcases List.mem_cons.1 hx with rfl | hx
     ·exact D
     ·exact ac x (by rw[E];exact hx))
    simp at J
    rw[E] at bm;omega
   have:l=lf:=List.ext_getElem? fun s=>ap s (by simp)
   rw[this]
   rw[hk,List.drop_length] at h
   exact h
  | cons q f ih=>
   intro c k E bb bk ab al l lf w hl a9 ap az Z h
   have O:q∉c:=by
    rw[E] at H
    intro h
    exact (List.nodup_append.1 H).2.2 q h q (by simp) rfl
   have cl:q∉f:=by
    rw[E] at H
    exact (List.nodup_cons.1 (List.nodup_append.1 H).2.1).1
   have W:=ac q (by rw[E];simp)
   have A:os[q]? =some os[q]:=List.getElem?_eq_getElem W
   have bz:L=(c++[q])++f:=by rw[E];simp
   rw[List.filterMap_cons,A]
   simp only
   by_cases aa:q<m
   ·-- a late move
    have D:=al q (by simp) aa
    unfold Nc at D
    rw[A] at D
    simp only at D
    cases t:mv os[q] with
    | none=>rw[t] at D;cases D
    | some x=>
     rw[t] at D
     have hx:ev l x=ev C x:=by
      cases x with
      | tmp s=>
       simp only[Bool.not_eq_true'] at D
       simp only[ev,get,List.getD_eq_getElem?_getD,Z s D]
      | _=>rfl
     obtain ⟨a8,a2⟩:=X3u (P:=P) t l w (fun v w=>Z2 P ops V1 (f.filterMap (os[·]?)) (put l os[q].dst v) w)
     simp only[Z2,a8]
     rw[a2,hx]
     refine ih (c++[q]) k bz bb bk (fun q' av=>?_) (fun p hp=>al p (by simp[hp])) _ lf w ?_ a9 (fun s hs=>?_) (fun p hp=>az p (by simp[hp])) (fun s hs=>?_) h
     ·rw[←ab q' av];simp only[List.mem_append,List.mem_singleton]
      exact ⟨fun e=>e.resolve_right (by omega), .inl⟩
     ·cases g:os[q].dst<;>simp[put,hl]
     ·cases g:os[q].dst with
      | none=>
       refine ap s fun p hp M o i=>?_
       rcases List.mem_cons.1 hp with rfl | hp
       ·rw[A] at i;cases i;rw[g];simp
       ·exact hs p hp M o i
      | some d=>
       have ao:d<C.length:=hd d (by simp only[R4,List.mem_filterMap];exact ⟨os[q],List.getElem_mem _,g⟩)
       simp only[put]
       by_cases e:d=s
       ·subst e
        rw[List.getElem?_set_self (by rw[hl];exact ao)]
        exact (az q (by simp) aa os[q] d x A t g).symm
       ·rw[List.getElem?_set_ne e]
        refine ap s fun p hp M o i=>?_
        rcases List.mem_cons.1 hp with rfl | hp
        ·rw[A] at i;cases i;rw[g];simpa using e
        ·exact hs p hp M o i
     ·cases g:os[q].dst with
      | none=>exact Z s hs
      | some d=>
       have aj:(R4 os).contains d=true:=by
        rw[List.contains_iff_mem];simp only[R4,List.mem_filterMap];exact ⟨os[q],List.getElem_mem _,g⟩
       simp only[put]
       rw[List.getElem?_set_ne (by rintro rfl;rw[hs] at aj;cases aj)]
       exact Z s hs
   ·have aa:m≤q:=by omega
    have cv:q=k:=by
     have J:k≤q:=Nat.le_of_not_lt fun e=>O ((ab q aa).2 e)
     refine Nat.le_antisymm (Nat.le_of_not_lt fun e=>?_) J
     have:=hC c q f E k ((am q aa W k e).resolve_right (by omega)) (by omega)
     have:=(ab k bb).1 this
     omega
    subst cv
    rw[List.drop_eq_getElem_cons W] at h
    have b6: ∀p∈f,p<m→bit p q=true→False:=fun p hp M hb=>by
     have:=hC c q f E p hb (by omega)
     rw[E] at H
     exact (List.nodup_append.1 H).2.2 p this p (by simp[hp]) rfl
    refine Q6M (bv _ (List.getElem_mem _)) (fun s hs=>?_) (fun v w' hv=>?_) h
    ·have:l[s]? =lf[s]? :=ap s fun p hp M o i z=>by
      rcases List.mem_cons.1 hp with rfl | hp
      ·omega
      refine b6 p hp M ?_
      rcases List.mem_append.1 hs with hs | hs
      ·unfold R3 at hs
       split at hs
       ·simp at hs
       ·rename_i j b bl
        split at hs
        ·rename_i d bj
         simp only[List.mem_singleton] at hs
         subst hs
         obtain ⟨p',ar,bp,hb⟩:=hg q os[q] j b A bl
         obtain ⟨o',bo,cb⟩:=Option.bind_eq_some_iff.1 bj
         have:=Yk os hn p' p o' o s (by rw[bp,bo]) i cb z
         subst this;exact hb
        ·simp at hs
      ·exact af p q o os[q] (by omega) i A (by simp only[Qn,z,Bool.or_eq_true];left;left;simpa using hs)
     simp only[get,List.getD_eq_getElem?_getD,this]
    ·refine ih (c++[q]) (q+1) bz (by omega) (by omega) (fun q' av=>?_) (fun p hp=>al p (by simp[hp])) _ _ w' ?_ ?_ (fun s hs=>?_) (fun p hp M o d x i a7 z=>?_) (fun s hs=>?_) hv
     ·simp only[List.mem_append,List.mem_singleton,ab q' av];omega
     ·cases g:os[q].dst<;>simp[put,hl]
     ·cases g:os[q].dst<;>simp[put,a9]
     ·have hb:l[s]? =lf[s]? ∨os[q].dst=some s:=by
       left
       refine ap s fun p hp M o i=>?_
       rcases List.mem_cons.1 hp with rfl | hp
       ·omega
       ·exact hs p hp M o i
      cases g:os[q].dst with
      | none=>
       rcases hb with hb | hb
       ·exact hb
       ·rw[g] at hb;cases hb
      | some d=>
       simp only[put]
       by_cases e:d=s
       ·subst e
        have ao:d<C.length:=hd d (by simp only[R4,List.mem_filterMap];exact ⟨os[q],List.getElem_mem _,g⟩)
        rw[List.getElem?_set_self (by rw[hl];exact ao),List.getElem?_set_self (by rw[a9];exact ao)]
       ·rw[List.getElem?_set_ne e,List.getElem?_set_ne e]
        rcases hb with hb | hb
        ·exact hb
        ·rw[g] at hb;cases hb;exact absurd rfl e
     ·have cc:=az p (by simp[hp]) M o d x i a7 z
      cases g:os[q].dst with
      | none=>exact cc
      | some d'=>
       have Y:d'≠d:=by
        rintro rfl
        have:=Yk os hn p q o os[q] d' i A z g
        omega
       simp only[put]
       rw[List.getElem?_set_ne Y];exact cc
     ·cases g:os[q].dst with
      | none=>exact Z s hs
      | some d=>
       have aj:(R4 os).contains d=true:=by
        rw[List.contains_iff_mem];simp only[R4,List.mem_filterMap];exact ⟨os[q],List.getElem_mem _,g⟩
       simp only[put]
       rw[List.getElem?_set_ne (by rintro rfl;rw[hs] at aj;cases aj)]
       exact Z s hs
 intro f
 induction f with
 | nil=>
  intro c E D l u w hA hB hΦ
  refine cu c [] E D ?_ l u w hA hB hΦ
  intro q hq
  rw[List.append_nil] at E
  refine Classical.byContradiction fun a1=>?_
  have J:=G6 os.length (q::c) (List.nodup_cons.2 ⟨a1,E▸H⟩) (fun k hk=>by
   rcases List.mem_cons.1 hk with rfl | hk
   ·omega
   ·exact ac k (by rw[E];exact hk))
  simp at J
  rw[E] at bm;omega
 | cons q f ih=>
  intro c E D l u w hA hB hΦ
  have O:q∉c:=by
   rw[E] at H
   intro h
   exact (List.nodup_append.1 H).2.2 q h q (by simp) rfl
  have W:=ac q (by rw[E];simp)
  by_cases aa:m≤q
  ·-- the tail begins
   have ak: ∀p,p<m→p∉c→Nc os p=true:=fun p hp bs=>by
    rcases am q aa W p (by omega) with h | h
    ·exact absurd (hC c q f E p h (by omega)) bs
    ·exact h.2
   have be: ∀p,Nc os p=true→ ∀o,os[p]? =some o→ ∃x,mv o=some x∧ ∀s,x= .tmp s→(R4 os).contains s=false:=by
    intro p hp o i
    unfold Nc at hp
    rw[i] at hp
    simp only at hp
    cases N:mv o with
    | none=>rw[N] at hp;cases hp
    | some x=>
     refine ⟨x,rfl,fun s hs=>?_⟩
     subst hs
     rw[N] at hp;simpa using hp
   obtain ⟨g1,g2⟩:=Sz hn ba m hm
   have bf: ∀s,(R4 os).contains s=false→ ∀(p:Nat) o,os[p]? =some o→o.dst≠some s:=by
    intro s hs p o i z
    have:(R4 os).contains s=true:=by
     rw[List.contains_iff_mem];simp only[R4,List.mem_filterMap]
     exact ⟨o,List.mem_of_getElem? i,z⟩
    rw[hs] at this;cases this
   refine ce (q::f) c m E (Nat.le_refl _) hm (fun q' av=>⟨fun e=>D q' e,fun e=>absurd av (by omega)⟩) (fun p hp M=>ak p M fun e=>by
    rw[E] at H
    exact (List.nodup_append.1 H).2.2 p e p hp rfl) l (Qf u (O6 (C.map .val) 0 (os.take m))) w hA.len (by simp[Qf,Kh os _ m hm]) (fun s hs=>?_) (fun p hp M o d x i a7 z=>?_) (fun s hs=>?_) ?_
   ·rw[Qf,List.getElem?_map]
    by_cases aq: ∃p,p<m∧ ∃o,os[p]? =some o∧o.dst=some s
    ·obtain ⟨p,hp,o,i,z⟩:=aq
     by_cases X:p∈c
     ·rw[hA.done p X o s i z,g1 p hp o s i z];rfl
     ·exfalso
      have b3:p∈L:=by
       refine Classical.byContradiction fun a1=>?_
       have J:=G6 os.length (p::L) (List.nodup_cons.2 ⟨a1,H⟩) (fun k hk=>by
        rcases List.mem_cons.1 hk with rfl | hk
        ·omega
        ·exact ac k hk)
       simp at J;omega
      rw[E] at b3
      rcases List.mem_append.1 b3 with h | h
      ·exact X h
      ·exact hs p h hp o i z
    ·have ad: ∀p,p<m→ ∀o,os[p]? =some o→o.dst≠some s:=fun p hp o i z=>aq ⟨p,hp,o,i,z⟩
     rw[hA.rest s (fun p hp=>ad p (D p hp)),g2 s ad,List.getElem?_map]
     cases C[s]? <;>rfl
   ·have X:p∉c:=fun e=>by
     rw[E] at H
     exact (List.nodup_append.1 H).2.2 p e p hp rfl
    rw[Qf,List.getElem?_map,g1 p M o d i z]
    simp only[Option.map_some,Option.some.injEq]
    have U:Qr os (C.map .val) p=entOf (O6 (C.map .val) 0 (os.take p)) x:=by simp[Qr,i,Cl,a7]
    rw[U]
    obtain ⟨x',b8,cp⟩:=be p (ak p M X) o i
    rw[a7] at b8;cases b8
    cases x with
    | tmp s=>
     have hs:=cp s rfl
     obtain ⟨_,k2⟩:=Sz (S0:=C.map .val) hn ba p (by omega)
     simp only[entOf]
     rw[Fy,k2 s (fun p' _ o' bo=>bf s hs p' o' bo),List.getElem?_map]
     simp only[ev,get,List.getD_eq_getElem?_getD]
     cases C[s]? <;>rfl
    | _=>rfl
   ·exact hA.rest s fun p _ o i=>bf s hs p o i
   ·refine hW.last u w hB (by simp) fun k o hk t=>?_
    have aw:k<m:=by
     have:=(List.getElem?_eq_some_iff.1 hk).1
     simp at this;omega
    rw[Nat.zero_add]
    rw[V k aw] at hk
    refine (hΦ k (Classical.byContradiction fun bs=>?_) o hk t).1
    obtain ⟨x,hx,_⟩:=be k (ak k aw bs) o hk
    rw[t] at hx;cases hx
  ·have aa:q<m:=by omega
   have A:os[q]? =some os[q]:=List.getElem?_eq_getElem W
   obtain ⟨g1,g2⟩:=Sz (S0:=C.map .val) hn ba q (by omega)
   -- what a slot holds that this operation reads
   have ae: ∀s,(∃p o,os[p]? =some o∧o.dst=some s∧p<q∧bit p q=true)∨s∈B9 os[q]→
    get l s=(getE (O6 (C.map .val) 0 (os.take q)) s).at u∧ ∀r,getE (O6 (C.map .val) 0 (os.take q)) s= .ref r→r∈c∧ ∃o,os[r]? =some o∧mv o=none:=by
    intro s hs
    have ad:(∀p∈c,∀o,os[p]? =some o→o.dst≠some s)→(∀p,p<q→ ∀o,os[p]? =some o→o.dst≠some s)→
     get l s=(getE (O6 (C.map .val) 0 (os.take q)) s).at u∧ ∀r,getE (O6 (C.map .val) 0 (os.take q)) s= .ref r→r∈c∧ ∃o,os[r]? =some o∧mv o=none:=by
     intro J R
     rw[Fy,g2 s R,List.getElem?_map]
     simp only[get,List.getD_eq_getElem?_getD,hA.rest s J]
     cases C[s]? with
     | none=>exact ⟨rfl,fun r hr=>by cases hr⟩
     | some v=>exact ⟨rfl,fun r hr=>by cases hr⟩
    have bh: ∀p o,os[p]? =some o→o.dst=some s→p<q→p∈c→
     get l s=(getE (O6 (C.map .val) 0 (os.take q)) s).at u∧ ∀r,getE (O6 (C.map .val) 0 (os.take q)) s= .ref r→r∈c∧ ∃o,os[r]? =some o∧mv o=none:=by
     intro p o hp i ar X
     rw[Fy,g1 p ar o s hp i]
     simp only[get,List.getD_eq_getElem?_getD,hA.done p X o s hp i,Option.getD_some]
     first | exact ⟨rfl,hA.refs p X⟩ | exact ⟨trivial,hA.refs p X⟩
    rcases hs with ⟨p,o,hp,i,ar,hb⟩ | hs
    ·exact bh p o hp i ar (hC c q f E p hb (by omega))
    ·by_cases aq: ∃(p:Nat) (o:Oper),os[p]? =some o∧o.dst=some s
     ·obtain ⟨p,o,hp,i⟩:=aq
      have cz:=(List.getElem?_eq_some_iff.1 hp).1
      have Z: ∀p' o',os[p']? =some o'→o'.dst=some s→p'=p:=fun p' o' J R=>Yk os hn p' p o' o s J hp R i
      rcases Nat.lt_trichotomy p q with h | h | h
      ·have hb:=af p q o os[q] h hp A (by simp only[Qn,i,Bool.or_eq_true];left;left;simpa using hs)
       exact bh p o hp i h (hC c q f E p hb (by omega))
      ·subst h
       exact ad (fun p' ah o' J R=>by rw[Z p' o' J R] at ah;exact O ah) (fun p' ah o' J R=>by rw[Z p' o' J R] at ah;omega)
      ·refine ad (fun p' ah o' J R=>?_) (fun p' ah o' J R=>by rw[Z p' o' J R] at ah;omega)
       have e:=Z p' o' J R
       subst e
       have hb:=af q p' os[q] o' h A J (by simp only[Qn,R,Bool.or_eq_true];right;left;simpa using hs)
       obtain ⟨p1,p2,X⟩:=List.append_of_mem ah
       have:=hC p1 p' (p2++q::f) (by rw[E,X];simp) q hb W
       exact O (by rw[X];exact List.mem_append_left _ this)
     ·exact ad (fun p _ o J R=>aq ⟨p,o,J,R⟩) (fun p _ o J R=>aq ⟨p,o,J,R⟩)
   have bu: ∀s∈R3 ops os[q]++B9 os[q],(∃p o,os[p]? =some o∧o.dst=some s∧p<q∧bit p q=true)∨s∈B9 os[q]:=by
    intro s hs
    rcases List.mem_append.1 hs with hs | hs
    ·left
     unfold R3 at hs
     split at hs
     ·simp at hs
     ·rename_i j b bl
      split at hs
      ·rename_i d bj
       simp only[List.mem_singleton] at hs
       subst hs
       obtain ⟨p,ar,bp,hb⟩:=hg q os[q] j b A bl
       obtain ⟨o,i,z⟩:=Option.bind_eq_some_iff.1 bj
       exact ⟨p,o,by rw[bp,i],z,ar,hb⟩
      ·simp at hs
    ·exact .inr hs
   have ax:=V q aa
   rw[A] at ax
   rw[List.filterMap_cons,A]
   simp only
   -- the state behind it
   have step: ∀(v:Value) (u':Nat→Value) (w':World),(∀p∈c,(Qr os (C.map .val) p).at u'=(Qr os (C.map .val) p).at u)→v=(Qr os (C.map .val) q).at u'→
    (∀r,Qr os (C.map .val) q= .ref r→r∈q::c∧ ∃o,os[r]? =some o∧mv o=none)→B w'→(∀r∈q::c,∀o,os[r]? =some o→mv o=none→Φ r u' w'∧ ∀j∈refs ops (O6 (C.map .val) 0 (os.take r)) o,j∈q::c)→
    Z2 P ops V1 (f.filterMap (os[·]?)) (put l os[q].dst v) w':=by
    intro v u' w' hu hv hr cq b4
    have Q: ∀x,x∈c++[q]↔x∈q::c:=by intro x;simp[or_comm]
    refine ih (c++[q]) (by rw[E];simp) (fun x hx=>by rcases List.mem_cons.1 ((Q x).1 hx) with rfl | hx;exact aa;exact D x hx) _ u' w' ?_ cq (fun r hr o i N=>⟨(b4 r ((Q r).1 hr) o i N).1,fun j hj=>(Q j).2 ((b4 r ((Q r).1 hr) o i N).2 j hj)⟩)
    have a0: ∀p∈c++[q],∀r,Qr os (C.map .val) p= .ref r→r∈c++[q]∧ ∃o,os[r]? =some o∧mv o=none:=by
     intro p hp r bn
     rcases List.mem_cons.1 ((Q p).1 hp) with rfl | hp
     ·exact ⟨(Q r).2 (hr r bn).1,(hr r bn).2⟩
     ·obtain ⟨J,R⟩:=hA.refs p hp r bn
      exact ⟨List.mem_append_left _ J,R⟩
    cases g:os[q].dst with
    | none=>
     refine ⟨hA.len,?_,?_,a0⟩
     ·intro p hp o d i z
      rcases List.mem_cons.1 ((Q p).1 hp) with rfl | hp
      ·rw[A] at i;cases i;rw[g] at z;cases z
      ·rw[hu p hp];exact hA.done p hp o d i z
     ·intro s hs;exact hA.rest s fun p hp=>hs p (List.mem_append_left _ hp)
    | some d0=>
     have ao:d0<C.length:=hd d0 (by simp only[R4,List.mem_filterMap];exact ⟨os[q],List.getElem_mem _,g⟩)
     refine ⟨by simp[put,hA.len],?_,?_,a0⟩
     ·intro p hp o d i z
      rcases List.mem_cons.1 ((Q p).1 hp) with rfl | hp2
      ·rw[A] at i;cases i
       rw[g] at z;cases z
       simp only[put]
       rw[List.getElem?_set_self (by rw[hA.len];exact ao),hv]
      ·have Y:d0≠d:=by
        rintro rfl
        have:=Yk os hn p q o os[q] d0 i A z g
        subst this;exact O hp2
       simp only[put]
       rw[List.getElem?_set_ne Y,hu p hp2]
       exact hA.done p hp2 o d i z
     ·intro s hs
      have Y:d0≠s:=fun e=>hs q (by simp) os[q] A (by rw[g,e])
      simp only[put]
      rw[List.getElem?_set_ne Y]
      exact hA.rest s fun p hp=>hs p (List.mem_append_left _ hp)
   cases t:mv os[q] with
   | some x=>
    have U:Qr os (C.map .val) q=entOf (O6 (C.map .val) 0 (os.take q)) x:=by simp[Qr,A,Cl,t]
    -- a move: what the operand holds
    have hx:ev l x=(entOf (O6 (C.map .val) 0 (os.take q)) x).at u∧ ∀r,entOf (O6 (C.map .val) 0 (os.take q)) x= .ref r→r∈c∧ ∃o,os[r]? =some o∧mv o=none:=by
     cases x with
     | tmp s=>
      have hs:s∈B9 os[q]:=by
       unfold mv at t
       split at t
       ·cases t
       ·simp only[B9,List.mem_filterMap]
        split at t
        ·rename_i y hy;cases t;exact ⟨.tmp s,by rw[hy];simp[Op.operands],rfl⟩
        ·rename_i y hy;cases t;exact ⟨.tmp s,by rw[hy];simp[Op.operands],rfl⟩
        ·cases t
      exact ae s (.inr hs)
     | _=>exact ⟨rfl,fun r hr=>by cases hr⟩
    have a8:os[q].guard=none:=by
     unfold mv at t
     split at t
     ·cases t
     ·assumption
    simp only[Z2,a8]
    have a2:W2 P l os[q] w (fun v w=>Z2 P ops V1 (f.filterMap (os[·]?)) (put l os[q].dst v) w)=Z2 P ops V1 (f.filterMap (os[·]?)) (put l os[q].dst (ev l x)) w:=by
     unfold mv at t
     rw[a8] at t
     simp only at t
     split at t
     ·rename_i y hy;cases t;simp only[W2,hy]
     ·rename_i y hy;cases t;simp only[W2,hy]
     ·cases t
    rw[a2]
    refine step _ u w (fun _ _=>rfl) (by rw[U];exact hx.1) (fun r hr=>by
     rw[U] at hr
     obtain ⟨J,R⟩:=hx.2 r hr
     exact ⟨List.mem_cons_of_mem _ J,R⟩) hB (fun r hr o i N=>by
     rcases List.mem_cons.1 hr with rfl | hr
     ·rw[A] at i;cases i;rw[t] at N;cases N
     ·exact ⟨(hΦ r hr o i N).1,fun j hj=>List.mem_cons_of_mem _ ((hΦ r hr o i N).2 j hj)⟩)
   | none=>
    have U:Qr os (C.map .val) q= .ref q:=by simp[Qr,A,Cl,t]
    have bg:=hW.run q os[q] ax t (bv _ (List.getElem_mem _)) u w hB
    rw[a3 q (by omega),Nat.zero_add] at bg
    have cs:=hW.stable
    have br:=bg (fun j hj=>by
     obtain ⟨s,hs,he⟩:=Bp (Bu hj)
     obtain ⟨J,o,R,h3⟩:=(ae s (bu s hs)).2 j he
     exact (hΦ j J o R h3).1)
    have b5: ∀j∈refs ops (O6 (C.map .val) 0 (os.take q)) os[q],j∈c:=fun j hj=>by
     obtain ⟨s,hs,he⟩:=Bp (Bu hj)
     exact ((ae s (bu s hs)).2 j he).1
    refine Q3E ?_
    rw[Q2d (bv _ (List.getElem_mem _)) (l':=Qf u (O6 (C.map .val) 0 (os.take q))) (fun s hs=>by rw[Pm];exact (ae s (bu s hs)).1)]
    refine Q33 ?_ br
    intro v w' ⟨cg,hφ⟩
    have Y: ∀r∈c,r≠q:=fun r hr e=>O (e▸hr)
    refine step v (fun n=>if n=q then v else u n) w' ?_ (by rw[U];simp[Ent.at]) (fun r hr=>by rw[U] at hr;cases hr;exact ⟨by simp,os[q],A,t⟩) (hT w w' hB cg) ?_
    ·intro p hp
     cases he:Qr os (C.map .val) p with
     | val x=>rfl
     | ref r=>
      have:=Y r (hA.refs p hp r he).1
      simp[Ent.at,this]
    ·intro r hr o i N
     rcases List.mem_cons.1 hr with rfl | hr
     ·rw[A] at i;cases i
      exact ⟨hφ _ (fun x hx=>by simp[Y x (b5 x hx)]) (by simp),fun j hj=>List.mem_cons_of_mem _ (b5 j hj)⟩
     ·obtain ⟨f1,f2⟩:=hΦ r hr o i N
      have cf:=D r hr
      have b0:=Y r hr
      have hl:=hW.loc r o (by rw[V r cf];exact i) N (fun n=>if n=q then v else u n) u (fun x hx=>by
       rw[a3 r (by omega),Nat.zero_add] at hx
       have:x≠q:=by
        rcases List.mem_cons.1 hx with rfl | hx
        ·exact b0
        ·exact Y x (f2 x hx)
       simp[this])
      have hs:=cs r o (by rw[V r cf];exact i) N
      rw[Nat.zero_add] at hs hl
      refine ⟨?_,fun j hj=>List.mem_cons_of_mem _ (f2 j hj)⟩
      rw[hl]
      exact hs _ _ _ f1 cg
def X3H:Op→Bool
 | .move _ | .assign _ | .fieldAddr .. | .indexAddr .. | .field .. | .index .. | .binOp .. | .unOp .. | .extract .. | .pick .. | .makeFunc .. | .nilCheck _ | .slice .. =>true
 | _=>false
def ready (ops:List Oper) (a:List Nat) (j:Nat):Bool:=(A7 ops j).all (a.contains ·)
def X3l (ops:List Oper) (j:Nat):Bool:=match ops[j]? with | some o=>X3H o.op | none=>false
def Q8j (ops:List Oper):Nat→List Nat→List Nat→List Nat
 | 0,_,a=>a.reverse
 | n+1,b,a=>
  match b.find? (fun j=>X3l ops j&&ready ops a j) with
  | some j=>Q8j ops n (b.erase j) (j::a)
  | none=>match b.find? (ready ops a) with
   | some j=>Q8j ops n (b.erase j) (j::a)
   | none=>a.reverse
def H3 (ops:List Oper):List Nat:=Q8j ops ops.length (List.range ops.length) []
def F3 (ops:List Oper) (a:List Nat) (p q:Nat):Bool:=((Pu ops []).getD (a.getD q 0) 0).testBit (a.getD p 0)
def Z5 (ops:List Oper) (a:List Nat):List Oper:=a.map fun i=>ops.getD i default
def cutA (ops:List Oper) (a:List Nat):Nat→Nat
 | 0=>0
 | j+1=>if (List.range j).all (fun i=>F3 ops a i j||Nc (Z5 ops a) i) then cutA ops a j else j+1
def X4C (ops:List Oper) (a:List Nat) (c n:Nat):Bool:=(List.range n).all fun q=>(List.range q).all fun p=>decide (p<c)||F3 ops a p q
def Rn (ops:List Oper) (a:List Nat) (n:Nat):Nat:=if X4C ops a (cutA ops a n) n then cutA ops a n else n
theorem Q4K (ops:List Oper) (a:List Nat): ∀n,cutA ops a n≤n∧ ∀q,cutA ops a n≤q→q<n→ ∀p,p<q→F3 ops a p q=true∨Nc (Z5 ops a) p=true
 | 0=>⟨Nat.le_refl _,fun q _ h=>by omega⟩
 | j+1=>by
  obtain ⟨g,f⟩:=Q4K ops a j
  simp only[cutA]
  split
  ·rename_i h
   refine ⟨by omega,fun q c b p d=>?_⟩
   by_cases e:q=j
   ·subst e
    simpa using List.all_eq_true.1 h p (by simpa using d)
   ·exact f q c (by omega) p d
  ·exact ⟨Nat.le_refl _,fun q c b=>by omega⟩
theorem Q8K (ops:List Oper) (a:List Nat) (n:Nat):Rn ops a n≤n∧ ∀q,Rn ops a n≤q→q<n→ ∀p,p<q→F3 ops a p q=true∨(p<Rn ops a n∧Nc (Z5 ops a) p=true):=by
 obtain ⟨f,g⟩:=Q4K ops a n
 unfold Rn
 split
 ·rename_i i
  refine ⟨f,fun q d b p e=>?_⟩
  by_cases c:p<cutA ops a n
  ·exact (g q d b p e).imp id fun h=>⟨c,h⟩
  ·left
   have:=List.all_eq_true.1 (List.all_eq_true.1 i q (by simpa using b)) p (by simpa using e)
   simpa [c] using this
 ·exact ⟨Nat.le_refl _,fun q d b=>by omega⟩
def Q5c (ops:List Oper) (a:List Nat):Bool:=
 a.length==ops.length&&(List.range ops.length).all (a.contains ·)&&Yc a&&a.all (fun i=>decide (i<ops.length))&&
  (List.range ops.length).all fun q=>(List.range q).all fun p=> !F3 ops a q p
def Wh (ops:List Oper) (n:Nat):Bool:=
 Va ops&&Q44 (Pu ops []) ops&&Yc (R4 (Z5 ops (H3 ops)))&&(R4 (Z5 ops (H3 ops))).all (fun d=>decide (d<n))&&
  (A4 .any ops (List.range ops.length)&&A4 .text ops (List.range ops.length)&&A4 .gc ops (X0G .gc ops ops.length (List.range ops.length) []))&&Q5c ops (H3 ops)
theorem Q0n: ∀{l:List Nat},Yc l=true→l.Nodup
 | [],_=>List.nodup_nil
 | x::l,h=>by
  simp only[Yc,Bool.and_eq_true,Bool.not_eq_true'] at h
  exact List.nodup_cons.2 ⟨by simpa using h.1,Q0n h.2⟩
theorem Q6n {ops:List Oper}: ∀(b:List Oper) (a:List Nat),a.length+b.length=ops.length→(∀k,a.length≤k→ops[k]? =b[k-a.length]?)→
 (∀j k,j<a.length→k∈A7 ops j→(a.getD j 0).testBit k=true)→ ∀j k,j<ops.length→k∈A7 ops j→((Pu b a).getD j 0).testBit k=true
 | [],a,n,_,c=>fun j k p d=>c j k (by simp at n;omega) d
 | o::b,a,n,f,c=>by
  have r:ops[a.length]? =some o:=by rw[f _ (Nat.le_refl _)];simp
  refine Q6n b _ (by simp at n⊢;omega) ?_ ?_
  ·intro k d
   simp only[List.length_append,List.length_cons,List.length_nil] at d⊢
   rw[f k (by omega)]
   obtain ⟨m,t⟩: ∃m,k-a.length=m+1:=⟨k-a.length-1,by omega⟩
   rw[t,List.getElem?_cons_succ]
   congr 1;omega
  ·intro j k p d
   simp only[List.length_append,List.length_cons,List.length_nil] at p
   by_cases g:j<a.length
   ·simp only[List.getD_eq_getElem?_getD,List.getElem?_append_left g]
    simpa only[List.getD_eq_getElem?_getD] using c j k g d
   ·have i:j=a.length:=by omega
    subst i
    simp only[List.getD_eq_getElem?_getD,List.getElem?_append_right (Nat.le_refl _),Nat.sub_self,List.getElem?_cons_zero,Option.getD_some]
    unfold A7 at d
    rw[r] at d
    simp only[Option.map_some,Option.getD_some,List.mem_map] at d
    obtain ⟨e,q,rfl⟩:=d
    have key: ∀(l:List Edge) (s:Nat),(e∈l∨s.testBit e.on=true)→(l.foldl (fun s e=>s ||| 2 ^ e.on ||| (a[e.on]?).getD 0) s).testBit e.on=true:=by
     intro l
     induction l with
     | nil=>intro s h;simpa using h
     | cons x l u=>
      intro s h
      refine u _ ?_
      rcases h with h | h
      ·rcases List.mem_cons.1 h with rfl | h
       ·right;simp
       ·exact .inl h
      ·right;simp[h]
    exact key _ _ (.inl q)
theorem Sm {α β:Type} {f g:α→Option β}: ∀{l:List α},(∀x∈l,f x=g x)→l.filterMap f=l.filterMap g
 | [],_=>rfl
 | x::l,h=>by
  rw[List.filterMap_cons,List.filterMap_cons,h x (by simp),Sm fun y a=>h y (by simp[a])]
structure Arr (ops : List Oper) (ord : List Nat) (L : List Nat) : Prop where
  hpl : ∀ o ∈ Z5 ops ord, Xp o.op = true
  hclash : ∀ p q a b, p < q → (Z5 ops ord)[p]? = some a → (Z5 ops ord)[q]? = some b → (Qn a b || Qn b a) = true → F3 ops ord p q = true
  hg : ∀ q o j b, (Z5 ops ord)[q]? = some o → o.guard = some (j, b) → ∃ p, p < q ∧ (Z5 ops ord)[p]? = ops[j]? ∧ F3 ops ord p q = true
  hn : L.Nodup
  hlt : ∀ q ∈ L, q < (Z5 ops ord).length
  hC : ∀ pre q post, L = pre ++ q :: post → ∀ p, F3 ops ord p q = true → p < (Z5 ops ord).length → p ∈ pre
  hLl : L.length = (Z5 ops ord).length
theorem Ki {ops:Array Oper} {c:List Nat} (X:Va ops.toList=true) (hc:Q44 (Pu ops.toList []) ops.toList=true) (bd:A4 .any ops.toList (List.range ops.toList.length)=true) (be:A4 .text ops.toList (List.range ops.toList.length)=true) (ba:A4 .gc ops.toList (X0G .gc ops.toList ops.toList.length (List.range ops.toList.length) [])=true) (L:Q5c ops.toList c=true) (b:Bool) (t:Nat):
 (Region.schedule b ops t).filterMap (ops[·]?)=((Region.schedule b ops t).map (c.idxOf ·)).filterMap ((Z5 ops.toList c)[·]?)∧Arr ops.toList c ((Region.schedule b ops t).map (c.idxOf ·))∧(Z5 ops.toList c).length=ops.toList.length∧(Region.schedule b ops t).Nodup∧ ∀i∈Region.schedule b ops t,i<ops.toList.length∧c.getD (c.idxOf i) 0=i:=by
 simp only[Q5c,Bool.and_eq_true,beq_iff_eq] at L
 obtain ⟨⟨⟨⟨ae,U⟩,ar⟩,N⟩,H⟩:=L
 have ai:=Q0n ar
 have af:(Z5 ops.toList c).length=ops.toList.length:=by simp[Z5,ae]
 have g: ∀p,p<ops.toList.length→c.getD p 0<ops.toList.length:=by
  intro p W
  simp only[List.getD_eq_getElem?_getD]
  rw[List.getElem?_eq_getElem (by omega)]
  have:=List.all_eq_true.1 N c[p] (List.getElem_mem _)
  simpa using this
 have d: ∀p,p<ops.toList.length→(Z5 ops.toList c)[p]? =ops.toList[c.getD p 0]? :=by
  intro p W
  have n:=g p W
  simp only[List.getD_eq_getElem?_getD] at n
  rw[List.getElem?_eq_getElem (by omega:p<c.length)] at n
  simp only[Option.getD_some] at n
  simp only[Z5,List.getElem?_map,List.getD_eq_getElem?_getD]
  rw[List.getElem?_eq_getElem (by omega:p<c.length)]
  simp only[Option.map_some,Option.getD_some]
  rw[List.getElem?_eq_getElem n]
  simp
 obtain ⟨Q,J,w⟩:=Q58 b ops t X (fun m=>by cases m<;>exact ⟨_,by assumption⟩)
 have f:=Q2i b ops t
 generalize Region.schedule b ops t=L0 at Q J w f⊢
 have v: ∀i,i<ops.toList.length→i∈c:=fun i s=>by simpa using List.all_eq_true.1 U i (by simpa using s)
 have l: ∀i,i<ops.toList.length→c.idxOf i<ops.toList.length∧c.getD (c.idxOf i) 0=i:=by
  intro i s
  have n:=List.idxOf_lt_length_of_mem (v i s)
  refine ⟨by omega,?_⟩
  simp only[List.getD_eq_getElem?_getD]
  rw[List.getElem?_eq_getElem n]
  simp
 have r: ∀p,p<ops.toList.length→c.idxOf (c.getD p 0)=p:=by
  intro p W
  simp only[List.getD_eq_getElem?_getD]
  rw[List.getElem?_eq_getElem (by omega:p<c.length)]
  simp only[Option.getD_some]
  exact List.Nodup.idxOf_getElem ai p (by omega)
 have ac: ∀p q,p<q→q<ops.toList.length→F3 ops.toList c q p=false:=by
  intro p q V u
  have:=List.all_eq_true.1 (List.all_eq_true.1 H q (by simpa using u)) p (by simpa using V)
  simpa using this
 have a0:L0.filterMap (ops[·]?)=(L0.map (c.idxOf ·)).filterMap ((Z5 ops.toList c)[·]?):=by
  rw[List.filterMap_map]
  refine Sm fun i s=>?_
  have:=f i s
  have n:=l i (by simpa using this)
  simp only[Function.comp]
  rw[d _ n.1,n.2]
  simp
 refine ⟨a0,⟨?_,?_,?_,?_,?_,?_,by simp[J,ae,Z5]⟩,af,Q,fun i s=>⟨by simpa using f i s,(l i (by simpa using f i s)).2⟩⟩
 ·intro o ho
  simp only[Z5,List.mem_map] at ho
  obtain ⟨i,s,rfl⟩:=ho
  have z:i<ops.toList.length:=by simpa using List.all_eq_true.1 N i s
  simp only[Va,List.all_eq_true,Bool.and_eq_true] at X
  have:=(X (ops.toList[i],i) (by rw[List.mem_zipIdx_iff_getElem?];simpa using z)).1.1
  rw[List.getD_eq_getElem?_getD,List.getElem?_eq_getElem z]
  exact this
 ·intro p q a b' V ha C D
  have W:p<ops.toList.length:=by have:=(List.getElem?_eq_some_iff.1 ha).1;omega
  have u:q<ops.toList.length:=by have:=(List.getElem?_eq_some_iff.1 C).1;omega
  rw[d p W] at ha
  rw[d q u] at C
  have ag: ∀i i' x Z,i<i'→ops.toList[i]? =some x→ops.toList[i']? =some Z→(Qn x Z||Qn Z x)=true→((Pu ops.toList []).getD i' 0).testBit i=true:=by
   intro i i' x Z aq hx ao D
   simp only[Q44,List.all_eq_true] at hc
   have:=hc (Z,i') (by rw[List.mem_zipIdx_iff_getElem?];simpa using ao) (x,i) (by rw[List.mem_zipIdx_iff_getElem?];simpa using hx)
   simp only[aq,D,decide_true,Bool.not_true,Bool.false_or,Bool.or_self] at this
   exact this
  have Y:c.getD p 0≠c.getD q 0:=by
   intro e
   have:=r p W
   rw[e,r q u] at this
   omega
  rcases Nat.lt_or_gt_of_ne Y with h | h
  ·exact ag _ _ a b' h ha C D
  ·have n:=ag _ _ b' a h C ha (by rw[Bool.or_comm];exact D)
   have B:=ac p q V u
   unfold F3 at B
   rw[n] at B;cases B
 ·intro q o j b' u aw
  have E:q<ops.toList.length:=by have:=(List.getElem?_eq_some_iff.1 u).1;omega
  rw[d q E] at u
  have M:j∈A7 ops.toList (c.getD q 0):=by
   have ab:=X
   simp only[Va,List.all_eq_true,Bool.and_eq_true] at ab
   have:=(ab (o,c.getD q 0) (by rw[List.mem_zipIdx_iff_getElem?];simpa using u)).2
   rw[aw] at this
   simp only[List.any_eq_true] at this
   obtain ⟨e,al,am⟩:=this
   unfold A7
   rw[u]
   simp only[Option.map_some,Option.getD_some,List.mem_map]
   exact ⟨e,al,by simpa using am⟩
  have az:=Ps X _ (g q E) j M
  have hj:j<ops.toList.length:=by have:=g q E;omega
  have C:=Q6n (ops:=ops.toList) ops.toList [] (by simp) (by simp) (by intro j k hj;simp at hj) _ j (g q E) M
  obtain ⟨n,B⟩:=l j hj
  have O:F3 ops.toList c (c.idxOf j) q=true:=by unfold F3;rw[B];exact C
  refine ⟨c.idxOf j,?_,by rw[d _ n,B],O⟩
  rcases Nat.lt_trichotomy (c.idxOf j) q with h | h | h
  ·exact h
  ·rw[←h,B] at az;omega
  ·have:=ac q _ h n
   rw[O] at this;cases this
 ·refine List.pairwise_map.2 (Q.imp_of_mem ?_)
  intro x y hx hy a2 a3
  have n:=(l x (by simpa using f x hx)).2
  have B:=(l y (by simpa using f y hy)).2
  exact a2 (by rw[←n,←B,a3])
 ·intro q u
  simp only[List.mem_map] at u
  obtain ⟨i,s,rfl⟩:=u
  have:=(l i (by simpa using f i s)).1
  omega
 ·intro bb q a8 hL p C W
  rw[List.map_eq_append_iff] at hL
  obtain ⟨aj,a1,ad,aa,A⟩:=hL
  rw[List.map_eq_cons_iff] at A
  obtain ⟨i,R,hr,s,ay⟩:=A
  subst hr s aa
  have z:i<ops.toList.length:=by simpa using f i (by rw[ad];simp)
  obtain ⟨n,B⟩:=l i z
  unfold F3 at C
  rw[B] at C
  have an:p<ops.toList.length:=by omega
  have:=Q5u X w i z (c.getD p 0) aj R ad C
  rw[List.mem_map]
  exact ⟨c.getD p 0,this,r p an⟩
theorem Q4L {ops:Array Oper} {n:Nat} (a:Wh ops.toList n=true) (b:Bool) (t:Nat): ∃L,(Region.schedule b ops t).filterMap (ops[·]?)=L.filterMap ((Z5 ops.toList (H3 ops.toList))[·]?)∧Arr ops.toList (H3 ops.toList) L∧(Z5 ops.toList (H3 ops.toList)).length=ops.toList.length:=by
 simp only[Wh,Bool.and_eq_true] at a
 obtain ⟨⟨⟨⟨⟨k,i⟩,l⟩,m⟩,⟨f,d⟩,e⟩,c⟩:=a
 obtain ⟨g,j,h,_⟩:=Ki k i f d e c b t
 exact ⟨_,g,j,h⟩
theorem X2a (P:Program) (ops:Array Oper) (T:World→World→Prop) (B:World→Prop) (V1:List Value→World→Prop) (i:List Value) (c:Wh ops.toList i.length=true)
 (s: ∀w w',B w→T w w'→B w')
 (h:chain P ops.toList T B V1 ((Z5 ops.toList (H3 ops.toList)).drop (Rn ops.toList (H3 ops.toList) ops.toList.length)) 0
  ((Z5 ops.toList (H3 ops.toList)).take (Rn ops.toList (H3 ops.toList) ops.toList.length)) (i.map .val) [] [])
 (b:Bool) (t:Nat) (w:World) (H:B w):Z2 P ops.toList V1 ((Region.schedule b ops t).filterMap (ops[·]?)) i w:=by
 obtain ⟨L,n,g,r⟩:=Q4L c b t
 simp only[Wh,Bool.and_eq_true] at c
 obtain ⟨⟨⟨⟨⟨k,Q⟩,J⟩,M⟩,⟨A,D⟩,E⟩,o⟩:=c
 generalize H3 ops.toList=a at*
 obtain ⟨Φ,_,y⟩:=Q0K P ops.toList T B V1 _ _ 0 (i.map .val) [] [] (by intro e k j O;simp only[List.mem_map] at k;obtain ⟨v,_,rfl⟩:=k;cases O) (by simp) (by simp[Ve]) h
 rw[n]
 obtain ⟨l,f⟩:=Q8K ops.toList a ops.toList.length
 exact X4E (os:=Z5 ops.toList a) (m:=Rn ops.toList a ops.toList.length) (T:=T) (B:=B) (Φ:=Φ) (F3 ops.toList a) g.hpl J (fun d z=>by simpa using List.all_eq_true.1 M d z) g.hclash g.hg (by omega)
  (fun q u C p N=>f q u (by omega) p N) s y L g.hn g.hLl g.hlt g.hC _ [] rfl (by simp) i (fun _=>undef) w
  ⟨rfl,by simp,fun _ _=>rfl,by simp⟩ H (by simp)
def Jf {α:Type} (P:Program) (s:Sem α):Prop:= ∀w v w',s.run P w= .ok v w'→w'=w
section
variable {P : Program} {α β : Type}
theorem Uz (a:α):Jf P (Pure.pure a:Sem α):=fun w v w' h=>by simp at h;exact h.2.symm
theorem Q7j (m:String):Jf P (stuck m:Sem α):=fun w v w' h=>by simp at h
theorem Qj {s:Sem α} {f:α→Sem β} (c:Jf P s) (d: ∀a,Jf P (f a)):Jf P (s>>=f):=fun w v w' h=>by
 rw[Sem.run_bind] at h
 cases b:s.run P w with
 | halt x w1=>rw[b] at h;simp[Result.andThen] at h
 | ok a w1=>
  rw[b] at h
  have:=c _ _ _ b
  subst this
  exact d a _ _ _ h
theorem Q3m (a:Addr) (m:Mode):Jf P (load a m):=fun w v w' h=>by
 unfold load at h
 simp only[Sem.run] at h
 split at h
 ·cases h;rfl
 ·split at h
  ·cases h;rfl
  ·cases h
theorem Ik (t:TypeId):Jf P (typeInfo t):=fun w v w' h=>by
 unfold typeInfo at h
 simp only[Sem.run_bind,run_program,Result.andThen_ok] at h
 split at h<;>simp at h
 exact h.2.symm
theorem Q2D (t:TypeId):Jf P (underlying t):=fun w v w' h=>by
 unfold underlying at h
 simp only[Sem.run_bind,run_program,Result.andThen_ok] at h
 split at h<;>simp at h
 exact h.2.symm
theorem Q6U (t:TypeId):Jf P (isAgg t):=by
 unfold isAgg
 refine Qj (Q2D t) fun d=>?_
 split<;>exact Uz _
theorem Q6z (t:TypeId):Jf P (sizeOf t):=Qj (Ik t) fun _=>Uz _
theorem Q2v (a:Addr): ∀(n i:Nat) (b:Array Value),Jf P (loadCellsFrom a i n b)
 | 0,i,b=>Uz _
 | n+1,i,b=>Qj (Q3m _ _) fun v=>Q2v a n (i+1) _
theorem Q50 (t:TypeId) (a:Addr):Jf P (loadVar t a):=by
 unfold loadVar
 refine Qj (Q6U t) fun b=>?_
 split
 ·exact Qj (Q6z t) fun n=>Qj (Q2v a n 0 #[]) fun cs=>Uz _
 ·exact Q3m _ _
theorem Q6s (t:TypeId) (v:Value):Jf P (Instr.loadAt t v):=by
 unfold Instr.loadAt
 refine Qj ?_ fun a=>Q50 t a
 unfold Instr.sureAddr
 split
 ·exact Uz _
 ·exact Q7j _
def Jg (P:Program) (s:Sem α):Prop:= ∀w v w1,s.run P w= .ok v w1→w1=w∧ ∀w',s.run P w'= .ok v w'
theorem Jt (a:α):Jg P (Pure.pure a:Sem α):=fun w v w' h=>by simp at h⊢;exact ⟨h.2.symm,h.1⟩
theorem Mn (m:String):Jg P (stuck m:Sem α):=fun w v w' h=>by simp at h
theorem Qq {s:Sem α} {f:α→Sem β} (i:Jg P s) (g: ∀a,Jg P (f a)):Jg P (s>>=f):=fun w v w' h=>by
 rw[Sem.run_bind] at h
 cases b:s.run P w with
 | halt x w1=>rw[b] at h;simp[Result.andThen] at h
 | ok a w1=>
  rw[b] at h
  obtain ⟨rfl,j⟩:=i _ _ _ b
  obtain ⟨d,e⟩:=g a _ _ _ h
  refine ⟨d,fun c=>?_⟩
  rw[Sem.run_bind,j c]
  exact e c
theorem Tt (t:TypeId):Jg P (typeInfo t):=fun w v w' h=>by
 unfold typeInfo at h⊢
 simp only[Sem.run_bind,run_program,Result.andThen_ok] at h⊢
 split at h<;>simp at h
 rename_i i a
 refine ⟨h.2.symm,fun w'=>?_⟩
 simp[a,h.1]
theorem Mx (t:TypeId):Jg P (underlying t):=fun w v w' h=>by
 unfold underlying at h⊢
 simp only[Sem.run_bind,run_program,Result.andThen_ok] at h⊢
 split at h<;>simp at h
 rename_i i a
 refine ⟨h.2.symm,fun w'=>?_⟩
 simp[a,h.1]
theorem Cp (v:Value) (i:Nat):Jg P (Instr.extract v i):=by
 unfold Instr.extract
 split
 ·split
  ·exact Jt _
  ·exact Mn _
 ·exact Mn _
theorem Q9z (v:Value):Jg P (Instr.sureAddr v):=by
 unfold Instr.sureAddr
 split
 ·exact Jt _
 ·exact Mn _
theorem Q4c {s:Sem α} (h: ∀w v w',s.run P w≠ .ok v w'):Jg P s:=fun w v w' e=>absurd e (h w v w')
theorem Q49 {s:Sem α} {f:α→Sem β} (c: ∀a w v w',(f a).run P w≠ .ok v w'): ∀w v w',(s>>=f).run P w≠ .ok v w':=fun w v w' h=>by
 rw[Sem.run_bind] at h
 cases b:s.run P w with
 | halt x w1=>rw[b] at h;simp[Result.andThen] at h
 | ok a w1=>rw[b] at h;exact c a _ _ _ h
theorem Q3A (e:Int×Int×Bool×BoundsCode): ∀w v w',(runtimePanic (.bounds e.1 e.2.1 e.2.2.1 e.2.2.2):Sem α).run P w≠ .ok v w':=by
 unfold runtimePanic
 exact Q49 fun p=>fun w v w' h=>by cases h
theorem Q2x (k:IntKind) (x y:Int) (c:BoundsCode):Jg P (boundsPanic k x y c:Sem α):=Q4c (by
 unfold boundsPanic
 dsimp only
 split
 ·exact Q49 fun b=>Q3A (_,_,_,_)
 ·exact Q49 fun b=>Q3A (_,_,_,_))
theorem Cd (t:TypeId) (x i:Value):Jg P (Instr.indexAt t x i):=by
 unfold Instr.indexAt
 refine Qq ?_ fun q=>?_
 ·unfold asIntOf
  split
  ·exact Jt _
  ·exact Q4c fun w v w' h=>by cases h
  ·exact Mn _
 refine Qq (Mx t) fun d=>?_
 dsimp only
 have key: ∀(z:Option Addr×Nat×TypeId),Jg P (match z with
  | (base,b,elem)=>do
   let __do_lift←underlying t
   have c:Bool:=decide (b≤1)&&match __do_lift with
    | TypeDesc.array b elem=>true
    | x=>false
   match base with
    | some a=>
     if 0≤q.snd∧q.snd< ↑b then do
      let __do_lift←sizeOf elem
      pure (Value.pointer (some (a.add (q.snd.toNat*__do_lift))))
     else
      if c=true then unsupported (Unsupported.noEntry "op/indexAddr.an index out of range at an array of length 0 or 1 (ledger 616)")
      else boundsPanic q.fst q.snd (↑b) BoundsCode.index
    | none=>boundsPanic q.fst q.snd 0 BoundsCode.index):=by
  rintro ⟨base,b,elem⟩
  dsimp only
  refine Qq (Mx t) fun g=>?_
  cases base with
  | none=>exact Q2x _ _ _ _
  | some a=>
   dsimp only
   by_cases e:0≤q.snd∧q.snd< ↑b
   ·rw[if_pos e]
    exact Qq (Qq (Tt _) fun _=>Jt _) fun n=>Jt _
   ·rw[if_neg e]
    by_cases f:(decide (b≤1)&&match g with
     | TypeDesc.array b elem=>true
     | x=>false)=true
    ·rw[if_pos f]
     exact Q4c fun w v w' h=>by cases h
    ·rw[if_neg f]
     exact Q2x _ _ _ _
 split
 ·exact Qq (Q9z _) fun a=>Qq (Jt _) key
 ·exact Qq (Jt _) key
 ·exact Qq (Mn _) key
def Q15 (o:Oper):Bool:=match o.op with | .move _ | .assign _ | .load .. | .extract .. | .indexAddr .. =>true | _=>false
def Q43 (o:Oper):Bool:=match o.op with | .move _ | .assign _ | .extract .. | .indexAddr .. =>true | _=>false
theorem Rm {s:Sem Value} {w:World} {K:Value→World→Prop} (h:op P (sv s) w K): ∃v w',s.run P w= .ok v w'∧K v w':=by
 rw[T3] at h
 unfold P5 sv at h
 rw[Sem.run_bind] at h
 cases a:s.run P w with
 | halt x w1=>rw[a] at h;exact h.elim
 | ok v w1=>rw[a] at h;exact ⟨v,w1,rfl,h⟩
theorem Rr {s:Sem Value} {v:Value} {w w':World} {K:Value→World→Prop} (h:s.run P w= .ok v w') (k:K v w'):op P (sv s) w K:=by
 rw[T3]
 unfold P5 sv
 rw[Sem.run_bind,h]
 exact k
theorem Q98 {p:Program} {w w':World} {a k:Addr} {u:TypeId} {b:Bool} {r} (h: ∀(i:Nat) o,w.heap[i]? =some o→w'.heap[i]? =some o) (c:w.seen p a u k b= .ok r):w'.seen p a u k b= .ok r:=by
 cases e:w.heap[a.block]? with
 | some o=>
  have d:=h _ _ e
  unfold World.seen at*
  rw[d]
  rw[e] at c
  exact c
 | none=>
  exfalso
  unfold World.seen at c
  simp only[e,bind,Except.bind,throw,throwThe,MonadExceptOf.throw,pure,Except.pure] at c
  repeat (first | cases c | split at c)
theorem X0H {p:Program} {w w':World} {a:Addr} {b:Bool} {r} (h: ∀(i:Nat) o,w.heap[i]? =some o→w'.heap[i]? =some o) (c:w.farLoad p a b= .ok r):w'.farLoad p a b= .ok r:=by
 unfold World.farLoad at*
 cases e:w.heap[a.block]? with
 | none=>rw[e] at c;cases c
 | some o=>
  rw[e] at c
  rw[h _ _ e]
  cases o with
  | view d u=>
   simp only at c⊢
   cases f:w.viewLoad p d u a b with
   | error s=>rw[f] at c;cases c
   | ok q=>
    rw[f] at c
    have:w'.viewLoad p d u a b= .ok q:=by
     unfold World.viewLoad at*
     cases g:w.seen p d u a b with
     | error s=>rw[g] at f;cases f
     | ok z=>rw[Q98 h g];rw[g] at f;exact f
    rw[this]
    exact c
  | _=>simp only at c;cases c
def Ed {α:Type} (P:Program) (s:Sem α):Prop:= ∀w v w1,s.run P w= .ok v w1→w1=w∧ ∀w':World,(∀(i:Nat) o,w.heap[i]? =some o→w'.heap[i]? =some o)→s.run P w'= .ok v w'
section
variable {P : Program} {α β : Type}
theorem Hi (a:α):Ed P (Pure.pure a:Sem α):=fun w v w' h=>by simp at h⊢;exact ⟨h.2.symm,fun _ _=>h.1⟩
theorem Q8Q (m:String):Ed P (stuck m:Sem α):=fun w v w' h=>by simp at h
theorem Uo {s:Sem α} {f:α→Sem β} (j:Ed P s) (i: ∀a,Ed P (f a)):Ed P (s>>=f):=fun w v w' h=>by
 rw[Sem.run_bind] at h
 cases b:s.run P w with
 | halt x w1=>rw[b] at h;simp[Result.andThen] at h
 | ok a w1=>
  rw[b] at h
  obtain ⟨rfl,k⟩:=j _ _ _ b
  obtain ⟨e,g⟩:=i a _ _ _ h
  refine ⟨e,fun d c=>?_⟩
  rw[Sem.run_bind,k d c]
  exact g d c
theorem Q4l (a:Addr) (m:Mode):Ed P (load a m):=fun w v w1 h=>by
 unfold load at h⊢
 simp only[Sem.run] at h⊢
 cases e:w.cell? a with
 | some x=>
  rw[e] at h
  cases h
  refine ⟨rfl,fun w' d=>?_⟩
  have:w'.cell? a=some v:=by
   unfold World.cell? at*
   cases c:w.heap[a.block]? with
   | none=>rw[c] at e;cases e
   | some o=>rw[c] at e;rw[d _ _ c];exact e
  rw[this]
 | none=>
  rw[e] at h
  simp only at h
  cases b:w.farLoad P a (m== .atomic) with
  | error s=>rw[b] at h;cases h
  | ok q=>
   rw[b] at h
   cases h
   refine ⟨rfl,fun w' d=>?_⟩
   have f:=X0H d b
   cases g:w'.cell? a with
   | none=>simp only[f]
   | some x=>
    exfalso
    unfold World.farLoad at b
    unfold World.cell? at g
    cases c:w.heap[a.block]? with
    | none=>rw[c] at b;cases b
    | some o=>
     rw[d _ _ c] at g
     rw[c] at b
     cases o<;>first | cases g | (simp only at b;cases b)
theorem Q4A {s:Sem α} (h:Jg P s):Ed P s:=fun w v w1 e=>⟨(h w v w1 e).1,fun w' _=>(h w v w1 e).2 w'⟩
theorem Q8u (t:TypeId):Ed P (isAgg t):=by
 unfold isAgg
 refine Uo (Q4A (Mx t)) fun d=>?_
 split<;>exact Hi _
theorem Q3i (a:Addr): ∀(n i:Nat) (b:Array Value),Ed P (loadCellsFrom a i n b)
 | 0,i,b=>Hi _
 | n+1,i,b=>Uo (Q4l _ _) fun v=>Q3i a n (i+1) _
theorem Q6J (t:TypeId) (v:Value):Ed P (Instr.loadAt t v):=by
 unfold Instr.loadAt
 refine Uo ?_ fun a=>?_
 ·unfold Instr.sureAddr
  split
  ·exact Hi _
  ·exact Q8Q _
 ·unfold loadVar
  refine Uo (Q8u t) fun b=>?_
  split
  ·exact Uo (Uo (Q4A (Tt t)) fun _=>Hi _) fun n=>Uo (Q3i a n 0 #[]) fun cs=>Hi _
  ·exact Q4l _ _
def Cf (o:Oper):Bool:=match o.op with | .alloc .. =>true | _=>false
theorem X02 {l:List Value} {o:Oper} {w:World} {K:Value→World→Prop} (h:Q15 o=true) (c:W2 P l o w K): ∃v,K v w∧ ∀(w':World) b,(∀(i:Nat) o,w.heap[i]? =some o→w'.heap[i]? =some o)→b v w'→W2 P l o w' b:=by
 obtain ⟨d,p,m,pos,n,g⟩:=o
 cases p<;>(first | (simp[Q15] at h;done) | skip)<;>simp only[W2] at c⊢
 ·exact ⟨_,c,fun w' b _ a=>a⟩
 ·exact ⟨_,c,fun w' b _ a=>a⟩
 ·obtain ⟨v,w',f,j⟩:=Rm c
  obtain ⟨rfl,e⟩:=Q6J _ _ _ _ _ f
  exact ⟨v,j,fun w' b k a=>Rr (e w' k) a⟩
 ·obtain ⟨v,w',f,j⟩:=Rm c
  obtain ⟨rfl,e⟩:=Cd _ _ _ _ _ _ f
  exact ⟨v,j,fun w' b k a=>Rr (e w') a⟩
 ·obtain ⟨v,w',f,j⟩:=Rm c
  obtain ⟨rfl,e⟩:=Cp _ _ _ _ _ f
  exact ⟨v,j,fun w' b k a=>Rr (e w') a⟩
theorem Q4e {γ δ:Type} {s:Sem γ} {f:γ→Sem δ} {w w':World} {v:δ} (h:(s>>=f).run P w= .ok v w'): ∃a w1,s.run P w= .ok a w1∧(f a).run P w1= .ok v w':=by
 rw[Sem.run_bind] at h
 cases b:s.run P w with
 | halt x w1=>rw[b] at h;simp[Result.andThen] at h
 | ok a w1=>rw[b] at h;exact ⟨a,w1,rfl,h⟩
theorem X1g {γ:Type} {r:Unsupported}:Jf P (unsupported r:Sem γ):=fun w v w' h=>by simp[unsupported] at h
theorem Q6a {l:List Value} {o:Oper} {w:World} {K:Value→World→Prop} (h:Cf o=true) (r:W2 P l o w K): ∃v w',(∀(i:Nat) o,w.heap[i]? =some o→w'.heap[i]? =some o)∧K v w'∧ ∀b:Value→World→Prop,b v w'→W2 P l o w b:=by
 obtain ⟨d,p,B,pos,H,g⟩:=o
 cases p<;>(first | (simp[Cf] at h;done) | skip)
 simp only[W2] at r⊢
 obtain ⟨v,w',f,u⟩:=Rm r
 refine ⟨v,w',?_,u,fun b t=>Rr f t⟩
 have a:=f
 unfold Instr.alloc zeroValue at a
 obtain ⟨z,w1,A,m⟩:=Q4e a
 have s:w1=w:=Qj (Ik _) (fun i=>by split;exact Uz _;exact X1g) _ _ _ A
 subst s
 simp only at m
 obtain ⟨c,E,n,q⟩:=Q4e m
 simp only[Sem.run_pure,Result.ok.injEq] at q
 obtain ⟨_,rfl⟩:=q
 unfold newVar newRow at n
 obtain ⟨D,C,e,j⟩:=Q4e n
 simp only[Sem.run_pure,Result.ok.injEq] at j
 obtain ⟨_,rfl⟩:=j
 unfold newObj at e
 simp only[Sem.run,Result.ok.injEq] at e
 obtain ⟨_,rfl⟩:=e
 intro i o k
 have y:=(Array.getElem?_eq_some_iff.1 k).1
 simp only[Array.getElem?_push]
 rw[if_neg (by omega)]
 exact k
end
theorem Q64 {l:List Value} {o:Oper} {w:World} {K:Value→World→Prop} (h:Q15 o=true) (e:W2 P l o w K): ∃v,K v w∧ ∀c,c v w→W2 P l o w c:=by
 obtain ⟨d,p,i,pos,j,g⟩:=o
 cases p<;>(first | (simp[Q15] at h;done) | skip)<;>simp only[W2] at e⊢
 ·exact ⟨_,e,fun c a=>a⟩
 ·exact ⟨_,e,fun c a=>a⟩
 ·obtain ⟨v,w',b,f⟩:=Rm e
  have:=Q6s _ _ _ _ _ b
  subst this
  exact ⟨v,f,fun c a=>Rr b a⟩
 ·obtain ⟨v,w',b,f⟩:=Rm e
  have:=(Cd _ _ _ _ _ _ b).1
  subst this
  exact ⟨v,f,fun c a=>Rr b a⟩
 ·obtain ⟨v,w',b,f⟩:=Rm e
  have:=(Cp _ _ _ _ _ b).1
  subst this
  exact ⟨v,f,fun c a=>Rr b a⟩
theorem Q2C {l:List Value} {o:Oper} {w:World} {K:Value→World→Prop} (h:Q43 o=true) (c:W2 P l o w K): ∃v,K v w∧ ∀w' b,b v w'→W2 P l o w' b:=by
 obtain ⟨d,p,j,pos,k,g⟩:=o
 cases p<;>(first | (simp[Q43] at h;done) | skip)<;>simp only[W2] at c⊢
 ·exact ⟨_,c,fun w' b a=>a⟩
 ·exact ⟨_,c,fun w' b a=>a⟩
 ·obtain ⟨v,w',f,i⟩:=Rm c
  obtain ⟨rfl,e⟩:=Cd _ _ _ _ _ _ f
  exact ⟨v,i,fun w' b a=>Rr (e w') a⟩
 ·obtain ⟨v,w',f,i⟩:=Rm c
  obtain ⟨rfl,e⟩:=Cp _ _ _ _ _ f
  exact ⟨v,i,fun w' b a=>Rr (e w') a⟩
end
structure Swap (ops : List Oper) (a b : Oper) : Prop where
  pa : Xp a.op = true
  pb : Xp b.op = true
  ga : a.guard = none
  ab : ∀ d, a.dst = some d → d ∉ R3 ops b ++ B9 b
  ba : ∀ d, b.dst = some d → d ∉ R3 ops a ++ B9 a
  dd : ∀ d, a.dst = some d → b.dst ≠ some d
  gb : ∀ j c, b.guard = some (j, c) → ((ops[j]?).bind (·.dst)).isSome = true
  rd : (Q15 a = true ∧ (Q15 b = true ∨ Cf b = true) ∧ b.guard = none ∨ Cf a = true ∧ Q43 b = true ∧ b.guard = none) ∨ Q43 a = true
section
variable {P : Program} {ops : List Oper} {V1 : List Value → World → Prop}
theorem Q2O {l:List Value} {d:Option Nat} {v:Value} {s:Nat} (h: ∀e,d=some e→e≠s):get (put l d v) s=get l s:=by
 cases d with
 | none=>rfl
 | some e=>simp only[put,get,List.getD_eq_getElem?_getD,List.getElem?_set_ne (h e rfl)]
theorem X01 {l:List Value} {d e:Option Nat} {v u:Value} (h: ∀x,d=some x→e≠some x):put (put l d v) e u=put (put l e u) d v:=by
 cases d with
 | none=>rfl
 | some d=>cases e with
  | none=>rfl
  | some e=>simp only[put];exact List.set_comm _ _ (by intro a;subst a;exact h d rfl rfl)
theorem Q4p {o:Oper} {s:Nat} (a:Operand.tmp s∈o.op.operands):s∈B9 o:=by
 simp only[B9,List.mem_filterMap]
 exact ⟨.tmp s,by simpa using a,rfl⟩
theorem Q7e {a b:Oper} {R:List Oper} {l:List Value} {w:World} (O:Swap ops a b) (h:Z2 P ops V1 (a::b::R) l w):Z2 P ops V1 (b::a::R) l w:=by
 obtain ⟨pa,Q,W,L,ba,X,Z,M⟩:=O
 have r: ∀v,W2 P (put l a.dst v) b=W2 P l b:=fun v=>Ec Q fun x C=>by
  cases x with
  | tmp s=>exact Q2O fun e t g=>L e t (List.mem_append_right _ (g▸Q4p C))
  | _=>rfl
 have m: ∀v,W2 P (put l b.dst v) a=W2 P l a:=fun v=>Ec pa fun x C=>by
  cases x with
  | tmp s=>exact Q2O fun e t g=>ba e t (List.mem_append_right _ (g▸Q4p C))
  | _=>rfl
 have n: ∀v u,put (put l b.dst u) a.dst v=put (put l a.dst v) b.dst u:=fun v u=>(X01 X).symm
 simp only[Z2,W] at h⊢
 cases k:b.guard with
 | none=>
  simp only[k] at h⊢
  rcases M with (⟨B,rb | rb,_⟩ | ⟨B,Y,_⟩) | fa
  ·obtain ⟨z,f,i⟩:=Q64 B h
   rw[r] at f
   obtain ⟨A,o,p⟩:=Q64 rb f
   refine p _ ?_
   rw[m]
   exact i _ (by rw[n];exact o)
  ·obtain ⟨z,f,i⟩:=X02 B h
   rw[r] at f
   obtain ⟨A,V,k,o,p⟩:=Q6a rb f
   refine p _ ?_
   rw[m]
   exact i V _ k (by rw[n];exact o)
  ·obtain ⟨z,wa,k,f,i⟩:=Q6a B h
   rw[r] at f
   obtain ⟨A,o,p⟩:=Q2C Y f
   refine p w _ ?_
   rw[m]
   exact i _ (by rw[n];exact o)
  ·obtain ⟨z,f,i⟩:=Q2C fa h
   rw[r] at f
   refine K4 (fun A w' D=>?_) f
   rw[m]
   exact i w' _ (by rw[n];exact D)
 | some q=>
  obtain ⟨j,c⟩:=q
  rcases M with (⟨_,_,y⟩ | ⟨_,_,y⟩) | fa
  ·rw[k] at y;cases y
  ·rw[k] at y;cases y
  obtain ⟨d,N⟩:=Option.isSome_iff_exists.1 (Z j c k)
  have J:d∈R3 ops b:=by simp[R3,k,N]
  have U: ∀v,get (put l a.dst v) d=get l d:=fun v=>Q2O fun e t g=>L e t (List.mem_append_left _ (g▸J))
  simp only[k,N] at h⊢
  obtain ⟨z,f,i⟩:=Q2C fa h
  rw[r,U] at f
  refine Q19 ((Lz f).imp (fun ⟨E,H⟩=>⟨E,K4 (fun A w' D=>?_) H⟩) (fun ⟨E,H⟩=>⟨E,?_⟩))
  ·rw[m];exact i w' _ (by rw[n];exact D)
  ·rw[m];exact i w _ (by rw[n];exact H)
theorem Q2k {a:Oper} {R R':List Oper} {l:List Value} {w:World} (b: ∀l w,Z2 P ops V1 R l w→Z2 P ops V1 R' l w) (h:Z2 P ops V1 (a::R) l w):Z2 P ops V1 (a::R') l w:=by
 simp only[Z2] at h⊢
 cases k:a.guard with
 | none=>simp only[k] at h⊢;exact K4 (fun v w e=>b _ _ e) h
 | some q=>
  obtain ⟨j,c⟩:=q
  simp only[k] at h⊢
  cases i:(ops[j]?).bind (·.dst) with
  | none=>simp only[i] at h⊢;exact b _ _ h
  | some d=>
   simp only[i] at h⊢
   exact Q19 ((Lz h).imp (fun ⟨f,g⟩=>⟨f,K4 (fun m w' e=>b _ _ e) g⟩) (fun ⟨f,g⟩=>⟨f,b _ _ g⟩))
theorem Q0w {q:Oper} {R:List Oper}: ∀(A:List Oper) {l:List Value} {w:World},(∀a∈A,Swap ops a q)→Z2 P ops V1 (A++q::R) l w→Z2 P ops V1 (q::(A++R)) l w
 | [],_,_,_,h=>h
 | a::A,l,w,c,h=>Q7e (c a (by simp)) (Q2k (R:=A++q::R) (fun _ _ h=>Q0w A (fun b d=>c b (by simp[d])) h) h)
theorem My: ∀(A:List Oper) {B:List Oper} {l:List Value} {w:World},Z2 P ops V1 (A++B) l w=Z2 P ops (fun l w=>Z2 P ops V1 B l w) A l w
 | [],B,l,w=>rfl
 | a::A,B,l,w=>by
  simp only[List.cons_append,Z2]
  split
  ·congr 1;funext v w;exact My A
  ·split
   ·congr 1;funext v w;exact My A
   ·exact My A
theorem Q90 {A B B':List Oper} {l:List Value} {w:World} (c: ∀l w,Z2 P ops V1 B l w→Z2 P ops V1 B' l w): ∀{l:List Value} {w:World},Z2 P ops V1 (A++B) l w→Z2 P ops V1 (A++B') l w:=by
 induction A with
 | nil=>exact fun h=>c _ _ h
 | cons a A b=>exact fun h=>Q2k (fun _ _ h=>b h) h
theorem Q7F (os:List Oper) (bit:Nat→Nat→Bool) (r: ∀p q a b,p<q→os[p]? =some a→os[q]? =some b→bit p q=false→Swap ops a b):
 ∀(n:Nat) (V1:List Value→World→Prop) (L:List Nat) (l:List Value) (w:World),L.Nodup→L.length=n→(∀q∈L,q<n)→n≤os.length→L.Pairwise (fun q p=>p<q→bit p q=false)→
  Z2 P ops V1 (os.take n) l w→Z2 P ops V1 (L.filterMap (os[·]?)) l w
 | 0,V1,L,l,w,u,z,g,v,E,h=>by
  have:L=[]:=List.eq_nil_of_length_eq_zero z
  subst this;exact h
 | n+1,V1,L,l,w,u,z,g,v,E,h=>by
  have U:n∈L:=Classical.byContradiction fun j=>by
   have O:=G6 n L u fun k M=>by
    have t:=g k M
    have H:k≠n:=fun e=>j (e▸M)
    omega
   omega
  obtain ⟨A,B,rfl⟩:=List.append_of_mem U
  have c:n<os.length:=by omega
  have d:os[n]? =some os[n]:=List.getElem?_eq_getElem c
  have i:=List.nodup_append.1 u
  have C:n∉B:=(List.nodup_cons.1 i.2.1).1
  have D:n∉A:=fun e=>i.2.2 n e n (by simp) rfl
  have Q:os.take (n+1)=os.take n++[os[n]]:=(List.take_append_getElem c).symm
  rw[Q,My] at h
  have s: ∀q∈A++B,q<n:=fun q J=>by
   have O:q<n+1:=g q (by rcases List.mem_append.1 J with h | h<;>simp[h])
   have t:q≠n:=fun e=>by
    subst e
    rcases List.mem_append.1 J with h | h
    ·exact D h
    ·exact C h
   omega
  have f:(A++B).Sublist (A++n::B):=List.Sublist.append (List.Sublist.refl A) (List.sublist_cons_self n B)
  have t:=Q7F os bit r n _ (A++B) l w (u.sublist f) (by simp at z⊢;omega) s (by omega) (E.sublist f) h
  rw[←My] at t
  rw[List.filterMap_append,List.append_assoc] at t
  rw[List.filterMap_append,List.filterMap_cons,d]
  refine Q90 (l:=l) (w:=w) (fun l w H=>?_) t
  have:=Q0w (R:=[]) (B.filterMap (os[·]?)) (fun a V=>?_) H
  ·rwa [List.append_nil] at this
  ·obtain ⟨p,m,y⟩:=List.mem_filterMap.1 V
   have o:=s p (List.mem_append_right _ m)
   refine r p n a _ o y d ?_
   have N:=(List.pairwise_append.1 E).2.1
   exact (List.pairwise_cons.1 N).1 p m o
end
def Q3n (ops:List Oper) (a b:Oper):Bool:=
 (match a.guard with | none=>true | some _=>false)&&(match b.guard with | none=>true | some (j,_)=>match (ops[j]?).bind (·.dst) with | some _=>true | none=>false)&&
  (((Q15 a&&(Q15 b||Cf b)||Cf a&&Q43 b)&&(match b.guard with | none=>true | some _=>false))||Q43 a)
def Q45 (o:Oper):Bool:=match o.op with | .call c=>(match c.callee with | .value (.func _)=>true | _=>false) | _=>false
def Q8w (ops:List Oper) (a:List Nat):Bool:=
 ops.any Q5S&&ops.any Q45&&(List.range ops.length).all fun q=>(List.range q).all fun p=>F3 ops a p q||Q3n ops (ops.getD (a.getD p 0) default) (ops.getD (a.getD q 0) default)
theorem Ea {α:Type} {R:α→α→Prop}: ∀(a b:List α) {L:List α},L=b++a→(∀b q a,L=b++q::a→ ∀p∈a,R q p)→a.Pairwise R
 | [],_,_,_,_=>List.Pairwise.nil
 | q::a,b,L,c,h=>List.pairwise_cons.2 ⟨h b q a c,Ea a (b++[q]) (by rw[c];simp) h⟩
theorem Q40 {P:Program} {ops:Array Oper} {V1:List Value→World→Prop} {l0:List Value} {ord L:List Nat} {bit:Nat→Nat→Bool} (ha:Arr ops.toList ord L) (hosl:(Z5 ops.toList ord).length=ops.toList.length) (hn:Yc (R4 (Z5 ops.toList ord))=true) (hbit: ∀p q,F3 ops.toList ord p q=true→bit p q=true)
 (hsq: ∀p q,p<q→q<ops.toList.length→(bit p q||Q3n ops.toList (ops.toList.getD (ord.getD p 0) default) (ops.toList.getD (ord.getD q 0) default))=true) (hpair:L.Pairwise fun q p=>p<q→bit p q=false) (w:World)
 (h:Z2 P ops.toList V1 (Z5 ops.toList ord) l0 w):Z2 P ops.toList V1 (L.filterMap ((Z5 ops.toList ord)[·]?)) l0 w:=by
 refine Q7F (Z5 ops.toList ord) bit (fun p q a b' hpq hpa hqb hb=>?_) _ V1 L l0 w ha.hn rfl (fun q hq=>by rw[ha.hLl];exact ha.hlt q hq) (by rw[ha.hLl];exact Nat.le_refl _) hpair (by rw[ha.hLl,List.take_length];exact h)
 have hql:q<ops.toList.length:=by have:=(List.getElem?_eq_some_iff.1 hqb).1;omega
 have hpl:p<ops.toList.length:=by omega
 have hget: ∀i o,(Z5 ops.toList ord)[i]? =some o→ops.toList.getD (ord.getD i 0) default=o:=by
  intro i o hi
  unfold Z5 at hi
  rw[List.getElem?_map] at hi
  cases ho:ord[i]? with
  | none=>rw[ho] at hi;cases hi
  | some x=>
   rw[ho] at hi
   simp only[Option.map_some,Option.some.injEq] at hi
   rw[List.getD_eq_getElem?_getD (l:=ord),ho];exact hi
 have hnc:(Qn a b'||Qn b' a)=false:=by
  cases hx:Qn a b'||Qn b' a with
  | false=>rfl
  | true=>rw[hbit p q (ha.hclash p q a b' hpq hpa hqb hx)] at hb;cases hb
 rw[Bool.or_eq_false_iff] at hnc
 have hs:=hsq p q hpq hql
 rw[hb,Bool.false_or,hget p a hpa,hget q b' hqb] at hs
 simp only[Q3n,Bool.and_eq_true,Bool.or_eq_true] at hs
 obtain ⟨⟨g1,g2⟩,g3⟩:=hs
 have hga:a.guard=none:=by
  cases hx:a.guard with
  | none=>rfl
  | some _=>rw[hx] at g1;cases g1
 have c1: ∀d,a.dst=some d→d∉B9 b'∧b'.dst≠some d:=fun d hd=>by
  have:=hnc.1
  unfold Qn at this
  rw[hd] at this
  simp only[Bool.or_eq_false_iff] at this
  exact ⟨fun hm=>by simp[hm] at this,fun hm=>by simp[hm] at this⟩
 have c2: ∀d,b'.dst=some d→d∉B9 a:=fun d hd=>by
  have:=hnc.2
  unfold Qn at this
  rw[hd] at this
  simp only[Bool.or_eq_false_iff] at this
  exact fun hm=>by simp[hm] at this
 refine ⟨ha.hpl a (List.mem_of_getElem? hpa),ha.hpl b' (List.mem_of_getElem? hqb),hga,fun d hd'=>?_,fun d hd'=>?_,fun d hd'=>(c1 d hd').2,fun j c hbg=>?_,?_⟩
 ·rw[List.mem_append,not_or]
  refine ⟨fun hm=>?_,(c1 d hd').1⟩
  unfold R3 at hm
  cases hbg:b'.guard with
  | none=>rw[hbg] at hm;simp at hm
  | some q0=>
   obtain ⟨j,c⟩:=q0
   obtain ⟨p',hp',hpj,hbt⟩:=ha.hg q b' j c hqb hbg
   rw[hbg] at hm
   simp only at hm
   cases hjd:ops.toList[j]?.map (·.dst) with
   | none=>
    cases hj:ops.toList[j]? with
    | none=>rw[hj] at hm;simp at hm
    | some oj=>rw[hj] at hjd;cases hjd
   | some dj=>
    cases hj:ops.toList[j]? with
    | none=>rw[hj] at hjd;cases hjd
    | some oj=>
     rw[hj] at hm hpj
     simp only[Option.bind_some] at hm
     cases hdj:oj.dst with
     | none=>rw[hdj] at hm;simp at hm
     | some d2=>
      rw[hdj] at hm
      simp only[List.mem_singleton] at hm
      subst hm
      have:=Yk (Z5 ops.toList ord) hn p' p oj a d hpj hpa hdj hd'
      subst this
      rw[hbit _ _ hbt] at hb;cases hb
 ·rw[List.mem_append,not_or]
  exact ⟨fun hm=>by simp[R3,hga] at hm,c2 d hd'⟩
 ·rw[hbg] at g2
  simp only at g2
  cases hx:(ops.toList[j]?).bind (·.dst) with
  | none=>rw[hx] at g2;cases g2
  | some _=>rfl
 ·rcases g3 with ⟨g3,g5⟩ | g3
  ·have hn:b'.guard=none:=by
    cases hx:b'.guard with
    | none=>rfl
    | some _=>rw[hx] at g5;cases g5
   exact .inl (g3.imp (fun g=>⟨g.1,g.2,hn⟩) fun g=>⟨g.1,g.2,hn⟩)
  ·exact .inr g3
theorem X3g (P:Program) (ops:Array Oper) (V1:List Value→World→Prop) (n:List Value) (a:Wh ops.toList n.length=true) (f:Q8w ops.toList (H3 ops.toList)=true)
 (b:Bool) (t:Nat) (w:World) (h:Z2 P ops.toList V1 (Z5 ops.toList (H3 ops.toList)) n w):Z2 P ops.toList V1 ((Region.schedule b ops t).filterMap (ops[·]?)) n w:=by
 obtain ⟨L,l,i,d⟩:=Q4L a b t
 simp only[Wh,Bool.and_eq_true] at a
 obtain ⟨⟨⟨⟨⟨C,D⟩,B⟩,E⟩,⟨v,y⟩,z⟩,o⟩:=a
 generalize H3 ops.toList=e at*
 rw[l]
 refine Q40 i d B (bit:=F3 ops.toList e) (fun _ _ h=>h) (fun p q c k=>?_) ?_ w h
 ·simp only[Q8w,Bool.and_eq_true] at f
  exact List.all_eq_true.1 (List.all_eq_true.1 f.2 q (by simpa using k)) p (by simpa using c)
 ·refine Ea L [] (L:=L) rfl fun m q g j p s c=>?_
  cases A:F3 ops.toList e p q with
  | false=>rfl
  | true=>
   have u:=i.hC m q g j p A (i.hlt p (by rw[j];simp[s]))
   have r:=i.hn
   rw[j] at r
   exact absurd rfl ((List.nodup_append.1 r).2.2 p u p (by simp[s]))
def X33 (b:List Nat) (a c:Nat):List Nat:=((b.erase a).takeWhile (· !=c))++a::((b.erase a).dropWhile (· !=c))
def Q5I (ops:List Oper) (d b:List Nat) (a c:Nat):Bool:=
 Q5c ops b&&Yc (R4 (Z5 ops b))&&
  ((List.range ops.length).all fun q=>(List.range q).all fun p=>(F3 ops d p q||(d.getD p 0==c&&d.getD q 0==a))||Q3n ops (ops.getD (d.getD p 0) default) (ops.getD (d.getD q 0) default))&&
  ((List.range ops.length).all fun q=>(List.range q).all fun p=>(F3 ops b p q||(b.getD p 0==a&&b.getD q 0==c))||Q3n ops (ops.getD (b.getD p 0) default) (ops.getD (b.getD q 0) default))
def Q93 (ops:List Oper):Option (List Nat):=
 match ops.any Q5S&&ops.any Q45&&ops.any Cf with
 | true=>match ops.findIdx Cf !=ops.findIdx Q45&&Q5I ops (H3 ops) (X33 (H3 ops) (ops.findIdx Cf) (ops.findIdx Q45)) (ops.findIdx Cf) (ops.findIdx Q45) with
  | true=>some (X33 (H3 ops) (ops.findIdx Cf) (ops.findIdx Q45))
  | false=>none
 | false=>none
theorem X1v {ops:Array Oper} {a g:List Nat} {x y:Nat} (U:g.Nodup) (A: ∀i∈g,i<ops.toList.length∧a.getD (a.idxOf i) 0=i) (r:Arr ops.toList a (g.map (a.idxOf ·))) (u: ∀e m b,g≠e++y::(m++x::b)):
 (g.map (a.idxOf ·)).Pairwise fun q p=>p<q→(F3 ops.toList a p q||(a.getD p 0==x&&a.getD q 0==y))=false:=by
 refine Ea _ [] (L:=g.map (a.idxOf ·)) rfl fun e q b c p l C=>?_
 rw[Bool.or_eq_false_iff]
 constructor
 ·cases Q:F3 ops.toList a p q with
  | false=>rfl
  | true=>
   have h:=r.hC e q b c p Q (r.hlt p (by rw[c];simp[l]))
   have f:=r.hn
   rw[c] at f
   exact absurd rfl ((List.nodup_append.1 f).2.2 p h p (by simp[l]))
 ·rw[Bool.and_eq_false_iff]
  refine Classical.byContradiction fun d=>?_
  rw[not_or] at d
  obtain ⟨h,f⟩:=d
  have h:a.getD p 0=x:=by simpa using h
  have f:a.getD q 0=y:=by simpa using f
  rw[List.map_eq_append_iff] at c
  obtain ⟨j,s,B,_,w⟩:=c
  rw[List.map_eq_cons_iff] at w
  obtain ⟨i,n,J,H,t⟩:=w
  rw[←t,List.mem_map] at l
  obtain ⟨k,N,o⟩:=l
  obtain ⟨D,E,O⟩:=List.append_of_mem N
  subst J B O
  have z:=(A i (by simp)).2
  have v:=(A k (by simp)).2
  rw[H] at z
  rw[o] at v
  have M:i=y:=by rw[←z];exact f
  have R:k=x:=by rw[←v];exact h
  subst M R
  exact u j D E rfl
theorem X2x (P:Program) (ops:Array Oper) (V1:List Value→World→Prop) (D:List Value) (o:Wh ops.toList D.length=true) {d:List Nat} {a c:Nat} (Y:a≠c) (A:Q5I ops.toList (H3 ops.toList) d a c=true)
 (b:Bool) (t:Nat) (w:World) (X:Z2 P ops.toList V1 (Z5 ops.toList (H3 ops.toList)) D w) (h2:Z2 P ops.toList V1 (Z5 ops.toList d) D w):Z2 P ops.toList V1 ((Region.schedule b ops t).filterMap (ops[·]?)) D w:=by
 simp only[Wh,Bool.and_eq_true] at o
 obtain ⟨⟨⟨⟨⟨R,U⟩,hn⟩,hd⟩,⟨s,z⟩,B⟩,n⟩:=o
 simp only[Q5I,Bool.and_eq_true] at A
 obtain ⟨⟨⟨j,H⟩,J⟩,M⟩:=A
 by_cases v: ∃i g f,Region.schedule b ops t=i++a::(g++c::f)
 ·obtain ⟨E,u,Q,r,O⟩:=Ki R U s z B j b t
  rw[E]
  refine Q40 u Q H (bit:=fun p q=>F3 ops.toList d p q||(d.getD p 0==a&&d.getD q 0==c)) (fun p q h=>by rw[h];rfl) (fun p q k l=>?_) (X1v r O u fun i g f e=>?_) w h2
  ·exact List.all_eq_true.1 (List.all_eq_true.1 M q (by simpa using l)) p (by simpa using k)
  ·obtain ⟨V,W,N,e'⟩:=v
   have C: ∀{L p m q:List Nat} {x y:Nat},L=p++x::(m++y::q)→L[p.length]? =some x∧L[p.length+1+m.length]? =some y∧p.length+1+m.length<L.length:=by
    rintro L p m q x y rfl
    refine ⟨by simp,?_,by simp;omega⟩
    rw[List.getElem?_append_right (by omega),show p.length+1+m.length-p.length=m.length+1 by omega,List.getElem?_cons_succ]
    simp
   obtain ⟨g1,g2,g3⟩:=C e
   obtain ⟨g4,Z,g6⟩:=C e'
   have k1:=(List.getElem?_inj (by omega) r).1 (g1.trans Z.symm)
   have k2:=(List.getElem?_inj (by omega) r).1 (g2.trans g4.symm)
   omega
 ·obtain ⟨E,u,Q,r,O⟩:=Ki R U s z B n b t
  rw[E]
  refine Q40 u Q hn (bit:=fun p q=>F3 ops.toList (H3 ops.toList) p q||((H3 ops.toList).getD p 0==c&&(H3 ops.toList).getD q 0==a)) (fun p q h=>by rw[h];rfl) (fun p q k l=>?_) (X1v r O u fun i g f e=>v ⟨i,g,f,e⟩) w X
  exact List.all_eq_true.1 (List.all_eq_true.1 J q (by simpa using l)) p (by simpa using k)
theorem X39 (P:Program) (ops:Array Oper) (V1:List Value→World→Prop) (d:List Value) (e:Wh ops.toList d.length=true) {a:List Nat} (c:Q93 ops.toList=some a)
 (b:Bool) (t:Nat) (w:World) (h:Z2 P ops.toList V1 (Z5 ops.toList (H3 ops.toList)) d w∧Z2 P ops.toList V1 (Z5 ops.toList a) d w):Z2 P ops.toList V1 ((Region.schedule b ops t).filterMap (ops[·]?)) d w:=by
 unfold Q93 at c
 split at c
 ·split at c
  ·rename_i f
   cases c
   rw[Bool.and_eq_true] at f
   exact X2x P ops V1 d e (by simpa using f.1) f.2 b t w h.1 h.2
  ·cases c
 ·cases c
theorem X1B: ∃f:World→(World→Prop)→Prop,f=fun w A=>A w.drew:=⟨_,rfl⟩
noncomputable def sq:World→(World→Prop)→Prop:=Classical.choose X1B
theorem Q92:sq=fun w A=>A w.drew:=Classical.choose_spec X1B
def Q5i:List Ent→Nat→Ent→(List Ent→Prop)→Prop
 | [],_,_,k=>k []
 | _::l,0,e,k=>k (e::l)
 | x::l,n+1,e,k=>Q5i l n e (fun l'=>k (x::l'))
def Q5b (S:List Ent) (d:Option Nat) (e:Ent) (k:List Ent→Prop):Prop:=
 match d with
 | some d=>Q5i S d e k
 | none=>k S
def Q8d:List Ent→Nat→(Ent→Prop)→Prop
 | [],_,k=>k (.val undef)
 | x::_,0,k=>k x
 | _::l,n+1,k=>Q8d l n k
def Q9q (S:List Ent) (x:Operand) (k:Ent→Prop):Prop:=
 match x with
 | .tmp t=>Q8d S t k
 | .const v=>k (.val v)
 | .global g=>k (.val (.pointer (some ⟨g,0,none⟩)))
 | .func f=>k (.val (.func (.func f) #[] #[]))
def Q1x (u:Nat→Value):List Ent→(List Value→Prop)→Prop
 | [],k=>k []
 | .val v::S,k=>Q1x u S (fun l=>k (v::l))
 | .ref j::S,k=>Q1x u S (fun l=>k (u j::l))
def Q8m:List Value→(List Ent→Prop)→Prop
 | [],k=>k []
 | v::l,k=>Q8m l (fun S=>k (.val v::S))
theorem Q6x: ∀(S:List Ent) (n:Nat) (e:Ent) (k:List Ent→Prop),Q5i S n e k=k (Q2T S n e)
 | [],_,_,_=>rfl
 | _::_,0,_,_=>rfl
 | _::l,n+1,e,k=>by simp only[Q5i,Q2T,Q6x l n e]
theorem Q2N (S:List Ent) (d:Option Nat) (e:Ent) (k:List Ent→Prop):Q5b S d e k=k (putE S d e):=by
 cases d with
 | none=>rfl
 | some d=>exact Q6x S d e k
theorem Q5B: ∀(S:List Ent) (n:Nat) (k:Ent→Prop),Q8d S n k=k (getE S n)
 | [],_,_=>rfl
 | _::_,0,_=>rfl
 | _::l,n+1,k=>Q5B l n k
theorem Q9N (S:List Ent) (x:Operand) (k:Ent→Prop):Q9q S x k=k (entOf S x):=by
 cases x with
 | tmp t=>exact Q5B S t k
 | _=>rfl
theorem Q2I (u:Nat→Value): ∀(S:List Ent) (k:List Value→Prop),Q1x u S k=k (Qf u S)
 | [],_=>rfl
 | .val v::S,k=>by simp only[Q1x,Q2I u S];rfl
 | .ref j::S,k=>by simp only[Q1x,Q2I u S];rfl
theorem Q7Y: ∀(l:List Value) (k:List Ent→Prop),Q8m l k=k (l.map .val)
 | [],_=>rfl
 | v::l,k=>by simp only[Q8m,Q7Y l];rfl
noncomputable def Cc (P:Program) (ops:List Oper) (T:World→World→Prop) (B:World→Prop) (V1:List Value→World→Prop) (tail:List Oper):Nat→List Oper→List Ent→Ct→List Nat→Prop
 | _,[],S,b,done=>Kr done (fun _=>undef) fun u=> ∀w,B w→Q1H b u w (Q1x u S fun l=>P3 P ops V1 tail l w) done
 | i,o::a,S,b,done=>
  match mv o with
  | some x=>Q9q S x fun e=>Q5b S o.dst e fun S=>Cc P ops T B V1 tail (i+1) a S b done
  | none=>match Q5S o with
   | true=>Sn T (fun φ=>Kr (refs ops S o) (fun _=>undef) fun u=> ∀w,B w→Ky b u w (runOp P ops (Qf u S) o w (dk T (φ ((refs ops S o).map u)) w)) (refs ops S o))
    (fun φ=>Q5b S o.dst (.ref i) fun c=>Cc P ops T B V1 tail (i+1) a c (b++[(i,refs ops S o,φ)]) (done++[i]))
   | false=>Q5 T (fun φ=>Kr (refs ops S o) (fun _=>undef) fun u=> ∀w,B w→Ky b u w (runOp P ops (Qf u S) o w (dk T φ w)) (refs ops S o))
    (fun φ=>Q5b S o.dst (.ref i) fun c=>Cc P ops T B V1 tail (i+1) a c (b++[(i,[],fun _=>φ)]) (done++[i]))
theorem Bj (P:Program) (ops:List Oper) (T:World→World→Prop) (B:World→Prop) (V1:List Value→World→Prop) (tail:List Oper): ∀(a:List Oper) (i:Nat) (S:List Ent) (b:Ct) (done:List Nat),
 Cc P ops T B V1 tail i a S b done=chain P ops T B V1 tail i a S b done
 | [],i,S,b,done=>by simp only[Cc,chain,Q2I]
 | o::a,i,S,b,done=>by
  simp only[Cc,chain]
  split
  ·rw[Q9N,Q2N,Bj]
  ·split
   ·congr 1
    funext φ
    rw[Q2N,Bj]
   ·congr 1
    funext φ
    rw[Q2N,Bj]
noncomputable def X1C (P:Program) (ops:List Oper) (V1:List Value→World→Prop) (l:List Value) (w:World):Prop:=
 dr w fun T B=>Q8m l fun S=>Cc P ops T B V1 ((Z5 ops (H3 ops)).drop (Rn ops (H3 ops) ops.length)) 0 ((Z5 ops (H3 ops)).take (Rn ops (H3 ops) ops.length)) S [] []
def Q1J (a b:List Nat):Bool:=a.all (b.contains ·)&&b.all (a.contains ·)
theorem Su {a b:List Nat} (h:Q1J a b=true) (i:Nat):a.contains i=b.contains i:=by
 simp only[Q1J,Bool.and_eq_true,List.all_eq_true] at h
 rw[Bool.eq_iff_iff]
 constructor
 ·intro c;exact h.1 i (by simpa using c)
 ·intro c;exact h.2 i (by simpa using c)
abbrev V8:=List (Option (List Nat×List Nat))
def V8.slots (a:V8):List (Option (List Nat)):=a.map (·.map (·.1))
theorem V8.slots_get (a:V8) (k:Nat):a.slots.getD k none=(a.getD k none).map (·.1):=by
 simp only[V8.slots,List.getD_eq_getElem?_getD,List.getElem?_map]
 cases a[k]? <;>rfl
noncomputable def Wz (P:Program) (a:V8) (b:List (Option (List Nat))):Nat→Code→Hq→List Value→World→Prop
 | _, .skip,Q,l,w=>Q .normal l w
 | _, .label _,Q,l,w=>Q .normal l w
 | _, .exit id,Q,l,w=>Q (.exit id) l w
 | _, .ret,Q,l,w=>Q .ret l w
 | _, .region _ ops false,Q,l,w=>P3 P ops.toList (fun l w=>Q .normal l w) ops.toList l w
 | _, .region _ ops true,Q,l,w=>match Wh ops.toList l.length with
  | true=>match Q8w ops.toList (H3 ops.toList) with
   | true=>sq w fun w=>P3 P ops.toList (fun l w=>Q .normal l w) (Z5 ops.toList (H3 ops.toList)) l w
   | false=>match Q93 ops.toList with
    | some g=>sq w fun w=>P3 P ops.toList (fun l w=>Q .normal l w) (Z5 ops.toList (H3 ops.toList)) l w∧P3 P ops.toList (fun l w=>Q .normal l w) (Z5 ops.toList g) l w
    | none=>X1C P ops.toList (fun l w=>Q .normal l w) l w
  | false=>False
 | k, .seq x y,Q,l,w=>match a.getD k none with
  | none=>Wz P a b (k+1) x (thn (fun l w=>Wz P a b (k+1+Qk x) y Q l w) Q) l w
  | some (f,h)=>match Q1J h (O4 b (k+1) x) with
   | true=>jn w (fun J w=>Wz P a b (k+1) x (thn (fun l' w'=>J (Oo l' f) w') Q) l w)
    (fun z d w=>Gn f h z d 0 l fun l=>Wz P a b (k+1+Qk x) y Q l w)
   | false=>False
 | k, .cond c x y,Q,l,w=>X1 (ev l c) (Wz P a b k x Q l w) (Wz P a b (k+Qk x) y Q l w)
 | k, .block id c,Q,l,w=>Wz P a b k c (Q3q id Q) l w
 | k, .loop c,Q,l,w=>match a.getD k none with
  | none=>False
  | some (f,h)=>match Q1J h (O4 b (k+1) c) with
   | true=>lp (Oo l f) w (fun e x d w=>Gn f h x d 0 l fun l=>Wz P a b (k+1) c (thn (fun l' w'=>e (Oo l' f) w') Q) l w)
   | false=>False
 | _,_,_,_,_=>False
theorem Q0q {next a:List Value→World→Prop} {Q b:Hq} (d: ∀l w,next l w→a l w) (c: ∀e l w,Q e l w→b e l w): ∀e l w,thn next Q e l w→thn a b e l w:=by
 intro e l w h;cases e<;>first | exact d _ _ h | exact c _ _ _ h
theorem X13 (P:Program) (m:V8) (c:Code): ∀(k:Nat) (Q j:Hq) (l:List Value) (w:World),(∀e l w,Q e l w→j e l w)→
 Wz P m m.slots k c Q l w→Dj P m.slots k c j l w:=by
 induction c with
 | skip=>intro k Q j l w g h;exact g _ _ _ h
 | label n=>intro k Q j l w g h;exact g _ _ _ h
 | exit id=>intro k Q j l w g h;exact g _ _ _ h
 | ret=>intro k Q j l w g h;exact g _ _ _ h
 | goto n=>intro k Q j l w g h;exact h.elim
 | refuse s=>intro k Q j l w g h;exact h.elim
 | scope c=>intro k Q j l w g h;exact h.elim
 | rangeFunc f p a b=>intro k Q j l w g h;exact h.elim
 | region id ops v=>
  intro k Q j l w g h
  cases v with
  | true=>
   simp only[Wz] at h
   split at h
   ·rename_i u
    intro t
    have C:Z2 P ops.toList (fun l w=>Q .normal l w) ((Region.schedule (P.follows .mixedOrders) ops t).filterMap (ops[·]?)) l w.drew:=by
     split at h
     ·rename_i N
      simp only[Q92,Ro] at h
      exact X3g P ops _ l u N _ t _ h
     ·split at h
      ·rename_i X O
       simp only[Q92,Ro] at h
       exact X39 P ops _ l u O _ t _ h
      ·simp only[X1C,X1M,Q95,Q7Y,Bj] at h
       obtain ⟨T,B,h0,hT,h⟩:=h
       exact X2a P ops T B _ l u hT h (P.follows .mixedOrders) t w.drew h0
    refine Jr P _ _ _ (R4 ops.toList) l _ _ _ ?_ (Ql.refl _ _) (fun l w U _=>g _ _ _ U) C
    intro o D d C
    simp only[List.mem_filterMap] at D
    obtain ⟨i,_,hi⟩:=D
    simp only[R4,List.contains_eq_mem,List.mem_filterMap,decide_eq_true_eq]
    exact ⟨o,by simpa using Array.mem_of_getElem? hi,C⟩
   ·exact h.elim
  | false=>
   simp only[Wz] at h
   rw[Ro] at h
   refine Jr P _ _ _ (R4 ops.toList) l _ _ _ ?_ (Ql.refl _ _) (fun l w U _=>g _ _ _ U) h
   intro o D d C
   simp only[R4,List.contains_eq_mem,List.mem_filterMap,decide_eq_true_eq]
   exact ⟨o,D,C⟩
 | seq x y r q=>
  intro k Q j l w g h
  simp only[Wz,Dj] at h⊢
  rw[V8.slots_get]
  split at h
  ·rename_i A
   simp only[A,Option.map_none]
   exact r _ _ _ _ _ (Q0q (fun l w h=>q _ _ _ _ _ g h) g) h
  ·rename_i Z wr A
   simp only[A,Option.map_some]
   split at h
   ·rename_i L
    obtain ⟨J,h1,O⟩:=Q5E h
    refine Zy J (r _ _ _ _ _ (Q0q (fun l w h=>h) g) h1) fun z d w hz=>?_
    have W:=O z d w hz
    rw[Q4U,Bt _ _ _ (Su L)] at W
    exact q _ _ _ _ _ g W
   ·exact h.elim
 | cond c x y r q=>
  intro k Q j l w g h
  exact Q4W (r k _ _ _ _ g) (q _ _ _ _ _ g) h
 | block id c R=>
  intro k Q j l w g h
  refine R k _ _ _ _ ?_ h
  intro e l' w' E
  cases e with
  | exit ag=>simp only[Q3q] at E⊢;split<;>rename_i V<;>simp only[V,if_true,if_false] at E<;>exact g _ _ _ E
  | _=>exact g _ _ _ E
 | loop c R=>
  intro k Q j l w g h
  simp only[Wz,Dj] at h⊢
  split at h
  ·exact h.elim
  ·rename_i Z wr A
   have M:(m.slots.getD k none).getD []=Z:=by rw[V8.slots_get,A];rfl
   split at h
   ·rename_i L
    subst M
    refine Q4x (fun H x d w Y=>?_) h
    rw[Q4U,Bt _ _ _ (Su L)] at Y
    exact R _ _ _ _ _ (Q0q (fun l w h=>h) g) Y
   ·exact h.elim
def Q3j (P:Program) (t:TypeId) (a:Value) (w:World) (K:Value→Prop):Prop:= ∃v,(do loadVar t (←asAddr a):Sem Value).run P w= .ok v w∧K v
theorem Q3k: ∃f:Program→TypeId→Value→World→(Value→Prop)→Prop,f=Q3j:=⟨_,rfl⟩
noncomputable def Y7:Program→TypeId→Value→World→(Value→Prop)→Prop:=Classical.choose Q3k
theorem Q36:Y7=Q3j:=Classical.choose_spec Q3k
noncomputable def Q6E (P:Program) (l:List Value) (K:List Value→World→Prop):List ResultVar→List Value→World→Prop
 | [],b,w=>K b.reverse w
 | .tmp t::c,b,w=>Q6E P l K c (get l t::b) w
 | .cell a t::c,b,w=>Y7 P t (get l a) w fun v=>Q6E P l K c (v::b) w
def Q2V:List Value→Value
 | [v]=>v
 | vs=> .tuple vs.toArray
noncomputable def results (P:Program) (a:List ResultVar) (K:Value→World→Prop) (l:List Value) (w:World):Prop:=
 Q6E P l (fun vs w=>K (Q2V vs) w) a [] w
noncomputable def Q8a (P:Program) (fn:Func) (K:Value→World→Prop):Hq
 | .normal,l,w | .ret,l,w=>results P fn.results.toList K l w
 | _,_,_=>False
def X0M (K:Value→World→Prop) (e:Ending) (w:World):Prop:=match e with | .returned v=>K v w | _=>False
theorem Q6f (a:Array Value) (t:Nat):a.getD t undef=get a.toList t:=by
 simp[get,List.getD_eq_getElem?_getD]
theorem X0c (vs:List Value):(if h:vs.toArray.size=1 then vs.toArray[0] else Value.tuple vs.toArray)=Q2V vs:=by
 match vs with
 | []=>rfl
 | [v]=>rfl
 | _::_::_=>rfl
theorem Q2Q (P:Program) (l:List Value) (K:List Value→World→Prop) (f:ResultVar→Sem Value)
 (d: ∀t,f (.tmp t)=Pure.pure (get l t)) (c: ∀a t,f (.cell a t)=(do loadVar t (←asAddr (get l a)))): ∀(e:List ResultVar) (b:List Value) (w:World),Q6E P l K e b w→
 ∃vs,(e.mapM f).run P w= .ok vs w∧K (b.reverse++vs) w
 | [],b,w,h=>⟨[],by simp,by rw[List.append_nil];exact h⟩
 | .tmp t::e,b,w,h=>by
  obtain ⟨vs,g,i⟩:=Q2Q P l K f d c e _ w h
  refine ⟨get l t::vs,?_,by simpa using i⟩
  rw[List.mapM_cons,d]
  simp[g]
 | .cell a t::e,b,w,h=>by
  simp only[Q6E,Q36] at h
  obtain ⟨v,j,h⟩:=h
  obtain ⟨vs,g,i⟩:=Q2Q P l K f d c e _ w h
  refine ⟨v::vs,?_,by simpa using i⟩
  rw[List.mapM_cons,c,Sem.run_bind,j]
  simp[g]
def X38 (a:Array Value):ResultVar→Sem Value
 | .tmp t=>Pure.pure (a.getD t undef)
 | .cell b t=>do loadVar t (←asAddr (a.getD b undef))
theorem Q6c (fn:Func) (a:Array Value):Go.results fn a=(do
 let vs←fn.results.mapM (X38 a)
 Pure.pure (if h:vs.size=1 then vs[0] else .tuple vs)):=by
 unfold Go.results
 congr 1
theorem Q2s (P:Program) (fn:Func) (K:Value→World→Prop) (a:Array Value) (w:World) (h:results P fn.results.toList K a.toList w):
 ∃v,(Go.results fn a).run P w= .ok v w∧K v w:=by
 rw[Q6c,Array.mapM_eq_mapM_toList]
 obtain ⟨vs,b,c⟩:=Q2Q P a.toList (fun vs w=>K (Q2V vs) w) (X38 a) (fun t=>by rw[←Q6f];rfl) (fun d t=>by rw[←Q6f];rfl) fn.results.toList [] w h
 refine ⟨Q2V vs,?_,by simpa using c⟩
 rw[Sem.run_bind,Sem.run_map,b]
 simp only[Result.andThen_ok,Sem.run_pure,X0c]
def Q0R (fn:Func) (a:List Value):List Value:=a++List.replicate (fn.ntmps-a.length) undef
theorem Q5m {P:Program} {f:FuncId} {fn:Func} {c:Code} {b:List Value} {w:World} {K:Value→World→Prop} (d:List (Option (List Nat)))
 (j:P.funcs[f]? =some fn) (k:fn.body=some c) (h:Dj P d 0 c (Q8a P fn K) (Q0R fn b) w):Calls P f b.toArray w (X0M K):=by
 refine calls_of_wp j k (wp_mono (Q9b P d c 0 (Q8a P fn K) _ w rfl ?_) ?_)
 ·have:(b.toArray++Array.replicate (fn.ntmps-b.toArray.size) undef).toList=Q0R fn b:=by simp[Q0R]
  simp only[this];exact h
 ·intro e a w ⟨i,g⟩
  cases e with
  | normal=>exact ⟨i,Q2s P fn K _ _ g⟩
  | ret=>exact ⟨i,Q2s P fn K _ _ g⟩
  | _=>exact g.elim
theorem Ws {P:Program} {f:FuncId} {fn:Func} {a:List Value} {w:World} {K:Value→World→Prop}
 (g:P.funcs[f]? =some fn) (d:fn.body.isSome=true) (i:(fn.name== "runtime.NumGoroutine")=false) (h:Calls P f a.toArray w (X0M K)):Q1 P f a w K:=by
 have j:(callFunc f a.toArray).run P w= .ok (.enter f a.toArray) w:=by
  unfold callFunc
  simp only[Sem.run_bind,run_program,Result.andThen_ok,g,i,Bool.false_eq_true,if_false]
  cases b:fn.body with
  | none=>rw[b] at d;cases d
  | some c=>simp
 unfold Q1
 rw[T3]
 unfold P5
 rw[j]
 refine h.mono fun e w' k=>?_
 cases e<;>exact k
theorem Q4f {P:Program} {f:FuncId} {fn:Func} {a:List Value} {w:World} {K:Value→World→Prop}
 (g:P.funcs[f]? =some fn) (d:fn.body.isSome=true) (i:(fn.name== "runtime.NumGoroutine")=false) (h:Q1 P f a w K):Calls P f a.toArray w (X0M K):=by
 have j:(callFunc f a.toArray).run P w= .ok (.enter f a.toArray) w:=by
  unfold callFunc
  simp only[Sem.run_bind,run_program,Result.andThen_ok,g,i,Bool.false_eq_true,if_false]
  cases b:fn.body with
  | none=>rw[b] at d;cases d
  | some c=>simp
 unfold Q1 at h
 rw[T3] at h
 unfold P5 at h
 rw[j] at h
 refine Calls.mono h fun e w' k=>?_
 cases e<;>exact k
theorem X2b {P:Program} {f:FuncId} {fn:Func} {b:List Value} {w:World} {K:Value→World→Prop} (a:V8)
 (e:P.funcs[f]? =some fn) (g:fn.body.isSome=true) (i:(fn.name== "runtime.NumGoroutine")=false)
 (h:Wz P a a.slots 0 (fn.body.getD .skip) (Q8a P fn K) (Q0R fn b) w):Q1 P f b w K:=by
 refine Ws e g i ?_
 obtain ⟨c,d⟩:=Option.isSome_iff_exists.1 g
 rw[d] at h
 exact Q5m a.slots e d (X13 P a c 0 _ _ _ _ (fun _ _ _ h=>h) h)
theorem Q9 {P:Program} {f:FuncId} {fn:Func} {a:List Value} {w:World} {K:Value→World→Prop} {g:Prop} (b:V8)
 (c:P.funcs[f]? =some fn) (i:fn.body.isSome=true) (d:(fn.name== "runtime.NumGoroutine")=false)
 (e:g=Wz P b b.slots 0 (fn.body.getD .skip) (Q8a P fn K) (Q0R fn a) w) (h:g):Q1 P f a w K:=
 X2b b c i d (e▸h)
theorem Z8 {P:Program} {f:FuncId} {first caps:List Value} {a:List Value} {w:World} {K:Value→World→Prop} (h:Q1 P f (first++a++caps) w K):Z4 P (.func (.func f) first.toArray caps.toArray) a w K:=by
 simpa [Z4,Q1,Deferred.ofValue,invoke,pure_bind,List.append_toArray] using h
end Go.Emb

namespace Go.Proofs.YtjdiakhipmggjaaGreatDoor
noncomputable abbrev P : Program := Tryz.prog
namespace F
abbrev c7 : Nat := 7
abbrev cN : Nat := 12
abbrev az : Nat := 13
abbrev aI : Nat := 14
abbrev cO : Nat := 15
abbrev c2 : Nat := 16
abbrev aF : Nat := 17
abbrev v : Nat := 18
abbrev ap : Nat := 19
abbrev aA : Nat := 20
abbrev bM : Nat := 21
abbrev b4 : Nat := 22
abbrev bz : Nat := 23
abbrev ah : Nat := 24
abbrev bN : Nat := 25
abbrev ai : Nat := 26
abbrev aB : Nat := 27
abbrev bA : Nat := 28
abbrev cv : Nat := 29
abbrev aP : Nat := 30
abbrev ce : Nat := 31
abbrev c3 : Nat := 32
abbrev aJ : Nat := 33
abbrev aQ : Nat := 34
abbrev bB : Nat := 35
abbrev a3 : Nat := 36
abbrev ac : Nat := 37
abbrev aR : Nat := 38
abbrev c4 : Nat := 40
abbrev cF : Nat := 41
abbrev cy : Nat := 42
abbrev cz : Nat := 43
abbrev j : Nat := 44
abbrev bb : Nat := 45
abbrev o : Nat := 46
abbrev bj : Nat := 47
abbrev bk : Nat := 48
abbrev b5 : Nat := 49
abbrev aS : Nat := 50
abbrev aG : Nat := 51
abbrev aC : Nat := 52
abbrev n : Nat := 53
abbrev cs : Nat := 54
abbrev bC : Nat := 55
abbrev bO : Nat := 56
abbrev bc : Nat := 57
abbrev bl : Nat := 58
abbrev bP : Nat := 59
abbrev bQ : Nat := 60
abbrev bR : Nat := 61
abbrev bS : Nat := 62
abbrev bT : Nat := 63
abbrev b0 : Nat := 64
abbrev aK : Nat := 65
abbrev aD : Nat := 66
abbrev b6 : Nat := 67
abbrev cS : Nat := 68
abbrev s : Nat := 69
abbrev aT : Nat := 70
abbrev bD : Nat := 71
abbrev b7 : Nat := 72
abbrev p : Nat := 73
abbrev bE : Nat := 74
abbrev k : Nat := 75
abbrev bF : Nat := 76
abbrev cG : Nat := 77
abbrev cA : Nat := 78
abbrev a8 : Nat := 79
abbrev ad : Nat := 80
abbrev c8 : Nat := 81
abbrev h : Nat := 82
abbrev b8 : Nat := 83
abbrev x : Nat := 84
abbrev c9 : Nat := 85
abbrev c : Nat := 86
abbrev z : Nat := 87
abbrev aH : Nat := 88
abbrev bm : Nat := 89
abbrev al : Nat := 90
abbrev am : Nat := 91
abbrev aZ : Nat := 92
abbrev a : Nat := 93
abbrev aL : Nat := 94
abbrev cg : Nat := 95
abbrev bd : Nat := 96
abbrev c5 : Nat := 97
abbrev a9 : Nat := 98
abbrev bn : Nat := 99
abbrev bo : Nat := 100
abbrev b : Nat := 101
abbrev be : Nat := 102
abbrev aj : Nat := 103
abbrev b1 : Nat := 104
abbrev b9 : Nat := 105
abbrev a1 : Nat := 106
abbrev a2 : Nat := 107
abbrev aM : Nat := 108
abbrev aO : Nat := 109
abbrev bp : Nat := 110
abbrev y : Nat := 111
abbrev bG : Nat := 113
abbrev a0 : Nat := 114
abbrev cw : Nat := 115
abbrev bH : Nat := 116
abbrev q : Nat := 117
abbrev e : Nat := 118
abbrev a4 : Nat := 119
abbrev ag : Nat := 120
abbrev cn : Nat := 121
abbrev co : Nat := 122
abbrev aa : Nat := 123
abbrev ak : Nat := 124
abbrev aU : Nat := 125
abbrev cp : Nat := 126
abbrev aE : Nat := 127
abbrev cq : Nat := 128
abbrev aq : Nat := 129
abbrev cr : Nat := 130
abbrev ar : Nat := 131
abbrev bx : Nat := 132
abbrev bU : Nat := 133
abbrev an : Nat := 134
abbrev ba : Nat := 135
abbrev ae : Nat := 136
abbrev af : Nat := 137
abbrev w : Nat := 138
abbrev ca : Nat := 139
abbrev i : Nat := 140
abbrev ch : Nat := 141
abbrev g : Nat := 142
abbrev cP : Nat := 143
abbrev cC : Nat := 144
abbrev aV : Nat := 145
abbrev bI : Nat := 146
abbrev bJ : Nat := 147
abbrev bq : Nat := 148
abbrev br : Nat := 149
abbrev bs : Nat := 150
abbrev aW : Nat := 151
abbrev bf : Nat := 152
abbrev aX : Nat := 153
abbrev r : Nat := 154
abbrev cx : Nat := 155
abbrev cT : Nat := 156
abbrev ci : Nat := 157
abbrev ao : Nat := 158
abbrev cQ : Nat := 159
abbrev d : Nat := 160
abbrev au : Nat := 161
abbrev cj : Nat := 162
abbrev c6 : Nat := 163
abbrev ck : Nat := 164
abbrev ct : Nat := 165
abbrev f : Nat := 166
abbrev cb : Nat := 167
abbrev bX : Nat := 168
abbrev bY : Nat := 169
abbrev bV : Nat := 170
abbrev bh : Nat := 171
abbrev av : Nat := 172
abbrev bi : Nat := 173
abbrev cH : Nat := 174
abbrev aw : Nat := 175
abbrev cU : Nat := 179
abbrev cf : Nat := 180
abbrev u : Nat := 181
abbrev a5 : Nat := 182
abbrev b2 : Nat := 183
abbrev aN : Nat := 184
abbrev bK : Nat := 185
abbrev bt : Nat := 186
abbrev ay : Nat := 187
abbrev aY : Nat := 190
abbrev cD : Nat := 191
abbrev cc : Nat := 192
abbrev cl : Nat := 193
abbrev l : Nat := 194
abbrev bZ : Nat := 195
abbrev cm : Nat := 196
abbrev cL : Nat := 197
abbrev m : Nat := 198
abbrev c0 : Nat := 199
abbrev ab : Nat := 202
abbrev b3 : Nat := 203
abbrev cd : Nat := 204
abbrev a6 : Nat := 208
abbrev cM : Nat := 209
abbrev cE : Nat := 210
abbrev cI : Nat := 211
abbrev a7 : Nat := 212
abbrev bu : Nat := 215
abbrev cV : Nat := 219
abbrev cu : Nat := 220
abbrev t : Nat := 221
abbrev cR : Nat := 222
abbrev cB : Nat := 224
abbrev bv : Nat := 225
abbrev bw : Nat := 226
abbrev ax : Nat := 227
abbrev bL : Nat := 228
abbrev cJ : Nat := 229
abbrev bg : Nat := 230
abbrev c1 : Nat := 231
abbrev cK : Nat := 232
abbrev bW : Nat := 233
end F
namespace T
abbrev x : Nat := 0
abbrev a1 : Nat := 2
abbrev e : Nat := 3
abbrev u : Nat := 4
abbrev a3 : Nat := 5
abbrev c : Nat := 9
abbrev av : Nat := 12
abbrev an : Nat := 21
abbrev r : Nat := 22
abbrev y : Nat := 23
abbrev i : Nat := 26
abbrev a5 : Nat := 29
abbrev g : Nat := 33
abbrev f : Nat := 37
abbrev aq : Nat := 43
abbrev z : Nat := 44
abbrev a : Nat := 46
abbrev n : Nat := 51
abbrev h : Nat := 54
abbrev k : Nat := 65
abbrev o : Nat := 69
abbrev ak : Nat := 74
abbrev l : Nat := 76
abbrev m : Nat := 78
abbrev a2 : Nat := 80
abbrev a0 : Nat := 82
abbrev j : Nat := 83
abbrev b : Nat := 85
abbrev a4 : Nat := 88
abbrev a7 : Nat := 91
abbrev v : Nat := 94
abbrev q : Nat := 95
abbrev s : Nat := 96
abbrev d : Nat := 98
abbrev p : Nat := 100
abbrev ac : Nat := 120
abbrev ao : Nat := 126
abbrev w : Nat := 136
abbrev a9 : Nat := 139
abbrev ae : Nat := 140
abbrev a8 : Nat := 146
abbrev a6 : Nat := 148
abbrev au : Nat := 154
abbrev aj : Nat := 156
abbrev al : Nat := 157
abbrev aa : Nat := 165
abbrev ag : Nat := 168
abbrev t : Nat := 172
abbrev ax : Nat := 184
abbrev ab : Nat := 190
abbrev ah : Nat := 197
abbrev ai : Nat := 200
abbrev ar : Nat := 203
abbrev am : Nat := 205
abbrev aw : Nat := 220
abbrev ad : Nat := 225
abbrev af : Nat := 226
abbrev ap : Nat := 235
abbrev ay : Nat := 241
end T
namespace G
abbrev b : Nat := 0
abbrev e : Nat := 1
abbrev d : Nat := 2
abbrev a : Nat := 3
abbrev c : Nat := 4
end G
end Go.Proofs.YtjdiakhipmggjaaGreatDoor

set_option maxRecDepth 100000
namespace Go.Proofs.YtjdiakhipmggjaaGreatDoor
open Go.Emb
def Q5V:V8:=[none,none,none,none,some ([1,10],[1,3,10,11,12,13,14,15,16,17,18]),none,none,none,none,none]
def Q0r (w:World) (K:Value→World→Prop):Prop:= H0 P T.b [(0,(.string ⟨#[79,98,106,101,99,116]⟩))] w fun i w=>H0 P T.o [(0,(.string ⟨#[119,104,97,116]⟩)),(1,(.string ⟨#[116,101,120,116]⟩))] w fun k w=>buildSlice P T.k 1 [(0,k)] w fun m w=>H0 P T.b [(0,(.string ⟨#[70,97,117,108,116]⟩)),(1,(.string ⟨#[79,98,106,101,99,116]⟩)),(6,m)] w fun n w=>buildSlice P T.i 2 [(0,i),(1,n)] w fun l w=>Q2 P T.ao (.pointer (some ⟨G.b,0,none⟩)) w fun j w=>lp (α:=Value×Value) (l,(.int .i64 0)) w fun a b o w=>Q3 P .lss T.e (.tmp 10) (.const (.int .i64 6)) b.2 (.int .i64 6) w fun c w=>X1 c (C4 P T.ao j b.2 w fun d w=>H0 P T.b [(0,d),(1,(.string ⟨#[70,97,117,108,116]⟩)),(5,(.bool true))] w fun f w=>buildSlice P T.i 1 [(0,f)] w fun g w=>X2 P .append [T.i,T.i] T.i [false,false] [b.1,g] w fun e w=>Q3 P .add T.e (.tmp 10) (.const (.int .i64 1)) b.2 (.int .i64 1) w fun h w=>a (e,h) w) (K b.1 w)
theorem Q6G {w:World} {K:Value→World→Prop} (h:Q0r w K):Q1 P F.cF [] w K:=Q9 Q5V Tryz.func41 rfl (by decide) (by kernel_rfl) h
def Q6q:V8:=[none,none,none,some ([8],[2,4,8,9,10,11,12,13,14,15,16,17,18,19,20,21,22,23,24,25,26,27,28,29,30,31,32,33]),none,none,none,none,none,none,none]
def Q0C (Y:Value) (w:World) (K:Value→World→Prop):Prop:= box P T.b Y w fun b w=>fieldAddr P T.b b 7 w fun Z w=>Q2 P T.j Z w fun W w=>X2 P .len [T.j] T.e [false] [W] w fun t7 w=>lp (α:=Value) (.int .i64 0) w fun g D d_ w=>Q3 P .lss T.e (.tmp 8) (.tmp 7) D t7 w fun X w=>X1 X (indexAddr P T.j W D w fun U w=>Q2 P T.d U w fun J w=>V6 P T.d w fun a w=>X9 P T.d a J w fun _u w=>fieldAddr P T.d a 1 w fun v w=>Q2 P T.h v w fun r w=>X2 P .len [T.h] T.e [false] [r] w fun y w=>Q3 P .gtr T.e (.tmp 14) (.const (.int .i64 32)) y (.int .i64 32) w fun c w=>Q0 c false w (fieldAddr P T.d a 6) fun n w=>Q0 c false w (Q2 P T.s n) fun B w=>Q0 c false w (X2 P .len [T.s] T.e [false] [B]) fun q w=>Q0 c false w (Q3 P .gtr T.e (.tmp 19) (.const (.int .i64 32)) q (.int .i64 32)) fun L w=>pick P c (.bool true) L w fun f w=>Q0 f false w (fieldAddr P T.d a 5) fun s w=>Q0 f false w (Q2 P T.q s) fun N w=>Q0 f false w (X2 P .len [T.q] T.e [false] [N]) fun R w=>Q0 f false w (Q3 P .gtr T.e (.tmp 25) (.const (.int .i64 200)) R (.int .i64 200)) fun m w=>pick P f (.bool true) m w fun h w=>Q0 h false w (fieldAddr P T.d a 4) fun A w=>Q0 h false w (Q2 P T.e A) fun k w=>Q0 h false w (Q3 P .gtr T.e (.tmp 30) (.const (.int .i64 64)) k (.int .i64 64)) fun l w=>pick P h (.bool true) l w fun E w=>X1 E (K (.bool true) w) (Q3 P .add T.e (.tmp 8) (.const (.int .i64 1)) D (.int .i64 1) w fun O w=>g O w)) (fieldAddr P T.b b 2 w fun z w=>Q2 P T.h z w fun o w=>X2 P .len [T.h] T.e [false] [o] w fun p w=>Q3 P .gtr T.e (.tmp 36) (.const (.int .i64 32)) p (.int .i64 32) w fun e w=>Q0 e false w (fieldAddr P T.b b 6) fun t w=>Q0 e false w (Q2 P T.k t) fun j w=>Q0 e false w (X2 P .len [T.k] T.e [false] [j]) fun Q w=>Q0 e false w (Q3 P .gtr T.e (.tmp 41) (.const (.int .i64 32)) Q (.int .i64 32)) fun i w=>pick P e (.bool true) i w fun d w=>Q0 d false w (fieldAddr P T.b b 7) fun H w=>Q0 d false w (Q2 P T.j H) fun V w=>Q0 d false w (X2 P .len [T.j] T.e [false] [V]) fun C w=>Q0 d false w (Q3 P .gtr T.e (.tmp 47) (.const (.int .i64 32)) C (.int .i64 32)) fun u w=>pick P d (.bool true) u w fun M w=>K M w)
theorem Q5C {a:Value} {w:World} {K:Value→World→Prop} (h:Q0C a w K):Q1 P F.cG [a] w K:=Q9 Q6q Tryz.func77 rfl (by decide) (by kernel_rfl) h
def Xs:V8:=[none,none,none,some ([8],[4,5,8,9,10,11,12,13,14,15,16,17,18]),none,none,none,none,none,none,none]
def F0 (g i:Value) (w:World) (K:Value→World→Prop):Prop:= X2 P .len [T.j] T.e [false] [g] w fun j w=>lp (α:=Value) (.int .i64 0) w fun a b k w=>Q3 P .lss T.e (.tmp 8) (.tmp 7) b j w fun h w=>X1 h (indexAddr P T.j g b w fun c w=>Q2 P T.d c w fun d w=>Z4 P i [d] w fun e w=>X1 e (K b w) (Q3 P .add T.e (.tmp 8) (.const (.int .i64 1)) b (.int .i64 1) w fun f w=>a f w)) (K (.int .i64 (-1)) w)
theorem Yd {a b:Value} {w:World} {K:Value→World→Prop} (h:F0 a b w K):Q1 P F.g [a,b] w K:=Q9 Xs Tryz.func142 rfl (by decide) (by kernel_rfl) h
def C1 (a c:Value) (w:World) (K:Value→World→Prop):Prop:= Q1 P F.g [a,c] w fun d w=>Q3 P .geq T.e (.tmp 7) (.const (.int .i64 0)) d (.int .i64 0) w fun b w=>K b w
theorem Qt {a b:Value} {w:World} {K:Value→World→Prop} (h:C1 a b w K):Q1 P F.a [a,b] w K:=Q9 (List.replicate 2 none) Tryz.func93 rfl (by decide) (by kernel_rfl) h
def Mg:V8:=[none,none,none,some ([8],[4,5,8,9,10,11,12,13,14,15,16,17,18]),none,none,none,none,none,none,none]
def Qu (g i:Value) (w:World) (K:Value→World→Prop):Prop:= X2 P .len [T.h] T.e [false] [g] w fun j w=>lp (α:=Value) (.int .i64 0) w fun a b k w=>Q3 P .lss T.e (.tmp 8) (.tmp 7) b j w fun h w=>X1 h (indexAddr P T.h g b w fun c w=>Q2 P T.c c w fun d w=>Q3 P .eql T.c (.tmp 11) (.tmp 15) i d w fun e w=>X1 e (K b w) (Q3 P .add T.e (.tmp 8) (.const (.int .i64 1)) b (.int .i64 1) w fun f w=>a f w)) (K (.int .i64 (-1)) w)
theorem Mq {a b:Value} {w:World} {K:Value→World→Prop} (h:Qu a b w K):Q1 P F.au [a,b] w K:=Q9 Mg Tryz.func161 rfl (by decide) (by kernel_rfl) h
def A0 (a c:Value) (w:World) (K:Value→World→Prop):Prop:= Q1 P F.au [a,c] w fun d w=>Q3 P .geq T.e (.tmp 7) (.const (.int .i64 0)) d (.int .i64 0) w fun b w=>K b w
theorem Vs {a b:Value} {w:World} {K:Value→World→Prop} (h:A0 a b w K):Q1 P F.ag [a,b] w K:=Q9 (List.replicate 2 none) Tryz.func120 rfl (by decide) (by kernel_rfl) h
def Bm (b:Value) (w:World) (K:Value→World→Prop):Prop:= box P T.d b w fun a w=>fieldAddr P T.d a 3 w fun d w=>Q2 P T.u d w fun c w=>K c w
theorem Q3s {a:Value} {w:World} {K:Value→World→Prop} (h:Bm a w K):Q1 P F.cn [a] w K:=Q9 (List.replicate 2 none) Tryz.func121 rfl (by decide) (by kernel_rfl) h
def Bn (b:Value) (w:World) (K:Value→World→Prop):Prop:= box P T.d b w fun a w=>fieldAddr P T.d a 3 w fun e w=>Q2 P T.u e w fun c w=>J8 P .not c w fun d w=>K d w
theorem Q2Y {a:Value} {w:World} {K:Value→World→Prop} (h:Bn a w K):Q1 P F.co [a] w K:=Q9 (List.replicate 2 none) Tryz.func122 rfl (by decide) (by kernel_rfl) h
def Vn:V8:=[none,none,none,some ([8],[4,5,8,9,10,11,12,13,14,15,16,17,18]),none,none,none,none,none,none,none]
def T2 (g i:Value) (w:World) (K:Value→World→Prop):Prop:= X2 P .len [T.h] T.e [false] [g] w fun j w=>lp (α:=Value) (.int .i64 0) w fun a b k w=>Q3 P .lss T.e (.tmp 8) (.tmp 7) b j w fun h w=>X1 h (indexAddr P T.h g b w fun c w=>Q2 P T.c c w fun d w=>Z4 P i [d] w fun e w=>X1 e (K b w) (Q3 P .add T.e (.tmp 8) (.const (.int .i64 1)) b (.int .i64 1) w fun f w=>a f w)) (K (.int .i64 (-1)) w)
theorem Vp {a b:Value} {w:World} {K:Value→World→Prop} (h:T2 a b w K):Q1 P F.w [a,b] w K:=Q9 Vn Tryz.func138 rfl (by decide) (by kernel_rfl) h
def K3 (a c:Value) (w:World) (K:Value→World→Prop):Prop:= Q1 P F.w [a,c] w fun d w=>Q3 P .geq T.e (.tmp 7) (.const (.int .i64 0)) d (.int .i64 0) w fun b w=>K b w
theorem Jm {a b:Value} {w:World} {K:Value→World→Prop} (h:K3 a b w K):Q1 P F.c [a,b] w K:=Q9 (List.replicate 2 none) Tryz.func86 rfl (by decide) (by kernel_rfl) h
def We (a d:Value) (w:World) (K:Value→World→Prop):Prop:= Q2 P T.a4 d w fun b w=>Z4 P b [a] w fun c w=>J8 P .not c w fun e w=>K e w
theorem Fi {a b:Value} {w:World} {K:Value→World→Prop} (h:We a b w K):Q1 P F.cj [a,b] w K:=Q9 (List.replicate 2 none) Tryz.func162 rfl (by decide) (by kernel_rfl) h
def Nh (b e:Value) (w:World) (K:Value→World→Prop):Prop:= box P T.a4 e w fun a w=>H1 P (.func F.cj) [] [a] w fun d w=>Q1 P F.c [b,d] w fun f w=>J8 P .not f w fun c w=>K c w
theorem Kk {a b:Value} {w:World} {K:Value→World→Prop} (h:Nh a b w K):Q1 P F.aa [a,b] w K:=Q9 (List.replicate 2 none) Tryz.func123 rfl (by decide) (by kernel_rfl) h
def Q8P:V8:=[none,none,none,some ([],[4,6,9,10,11,12,13,14,15]),none,none,none,none,none,none]
def Q3y (g i:Value) (w:World) (K:Value→World→Prop):Prop:= rng P T.c g w fun h w=>lp (α:=Unit) () w fun a k j w=>V1 P h true T.x w fun f w=>ext P f 0 w fun e w=>X1 e (ext P f 2 w fun b w=>Z4 P i [b] w fun c w=>J8 P .not c w fun d w=>X1 d (K (.bool false) w) (a () w)) (K (.bool true) w)
theorem Q8H {a b:Value} {w:World} {K:Value→World→Prop} (h:Q3y a b w K):Q1 P F.cD [a,b] w K:=Q9 Q8P Tryz.func191 rfl (by decide) (by kernel_rfl) h
def Q0S (b:Value) (w:World) (K:Value→World→Prop):Prop:= Q3 P .geq T.an (.tmp 3) (.const (.int .i32 65)) b (.int .i32 65) w fun a w=>Q0 a true w (fun w J=>J b w) fun d w=>Q0 a true w (Q3 P .leq T.an (.tmp 6) (.const (.int .i32 90)) d (.int .i32 90)) fun e w=>pick P a e (.bool false) w fun c w=>K c w
theorem Q5H {a:Value} {w:World} {K:Value→World→Prop} (h:Q0S a w K):Q1 P F.ck [a] w K:=Q9 (List.replicate 2 none) Tryz.func164 rfl (by decide) (by kernel_rfl) h
def Q0J (b:Value) (w:World) (K:Value→World→Prop):Prop:= Q3 P .geq T.an (.tmp 3) (.const (.int .i32 97)) b (.int .i32 97) w fun a w=>Q0 a true w (fun w J=>J b w) fun d w=>Q0 a true w (Q3 P .leq T.an (.tmp 6) (.const (.int .i32 122)) d (.int .i32 122)) fun e w=>pick P a e (.bool false) w fun c w=>K c w
theorem Q6H {a:Value} {w:World} {K:Value→World→Prop} (h:Q0J a w K):Q1 P F.cl [a] w K:=Q9 (List.replicate 2 none) Tryz.func193 rfl (by decide) (by kernel_rfl) h
def Ty (c:Value) (w:World) (K:Value→World→Prop):Prop:= Q1 P F.ck [c] w fun d w=>Q0 d false w (fun w J=>J c w) fun k w=>Q0 d false w (Q1 P F.cl [k]) fun l w=>pick P d (.bool true) l w fun b w=>Q0 b false w (fun w J=>J c w) fun h w=>Q0 b false w (Q3 P .geq T.an (.tmp 10) (.const (.int .i32 48)) h (.int .i32 48)) fun e w=>Q0 b false w (fun w J=>J e w) fun a w=>Q0 a true w (fun w J=>J c w) fun j w=>Q0 a true w (Q3 P .leq T.an (.tmp 13) (.const (.int .i32 57)) j (.int .i32 57)) fun f w=>Q0 b false w (pick P a f (.bool false)) fun g w=>pick P b (.bool true) g w fun i w=>K i w
theorem Q53 {a:Value} {w:World} {K:Value→World→Prop} (h:Ty a w K):Q1 P F.cc [a] w K:=Q9 (List.replicate 2 none) Tryz.func192 rfl (by decide) (by kernel_rfl) h
def Q2m (c:Value) (w:World) (K:Value→World→Prop):Prop:= Q3 P .eql T.c (.tmp 3) (.const (.string ⟨#[]⟩)) c (.string ⟨#[]⟩) w fun d w=>Q0 d false w (fun w J=>J c w) fun o w=>Q0 d false w (X2 P .len [T.c] T.e [false] [o]) fun p w=>Q0 d false w (Q3 P .gtr T.e (.tmp 7) (.const (.int .i64 32)) p (.int .i64 32)) fun n w=>pick P d (.bool true) n w fun b w=>Q0 b false w (fun w J=>J c w) fun l w=>Q0 b false w (C4 P T.c l (.int .i64 0)) fun i w=>Q0 b false w (Q3 P .geq T.a3 (.tmp 12) (.const (.int .u8 48)) i (.int .u8 48)) fun h w=>Q0 b false w (fun w J=>J h w) fun a w=>Q0 a true w (fun w J=>J c w) fun e w=>Q0 a true w (C4 P T.c e (.int .i64 0)) fun m w=>Q0 a true w (Q3 P .leq T.a3 (.tmp 16) (.const (.int .u8 57)) m (.int .u8 57)) fun f w=>Q0 b false w (pick P a f (.bool false)) fun j w=>pick P b (.bool true) j w fun g w=>X1 g (K (.bool false) w) (Q1 P F.cD [c,(.func (.func F.cc) #[] #[])] w fun k w=>K k w)
theorem Q7i {a:Value} {w:World} {K:Value→World→Prop} (h:Q2m a w K):Q1 P F.c6 [a] w K:=Q9 (List.replicate 5 none) Tryz.func163 rfl (by decide) (by kernel_rfl) h
def Q0Y (c:Value) (w:World) (K:Value→World→Prop):Prop:= Q1 P F.c6 [c] w fun a w=>Q0 a true w (fun w J=>J c w) fun f w=>Q0 a true w (C4 P T.c f (.int .i64 0)) fun g w=>Q0 a true w (conv P T.a3 T.an g) fun e w=>Q0 a true w (Q1 P F.ck [e]) fun d w=>pick P a d (.bool false) w fun b w=>K b w
theorem Q6j {a:Value} {w:World} {K:Value→World→Prop} (h:Q0Y a w K):Q1 P F.ak [a] w K:=Q9 (List.replicate 2 none) Tryz.func124 rfl (by decide) (by kernel_rfl) h
def Ln (n l o:Value) (w:World) (K:Value→World→Prop):Prop:= dr w fun a b=>Q5 a (fun d=> ∀w,b w→Q2 P T.ac l w (dk a d w)) fun d=>Q5 a (fun g=> ∀c w,b w→d c w→Z4 P c [n] w (dk a g w)) fun g=>Q5 a (fun f=> ∀w,b w→Q2 P T.ac l w (dk a f w)) fun f=>Q5 a (fun i=> ∀w,b w→Q2 P T.c o w (dk a i w)) fun i=>∀c m k j w,b w→d c w→g m w→f k w→i j w→ Z4 P k [j] w fun h w=>Q3 P .eql T.c (.tmp 7) (.tmp 10) m h w fun e w=>K e w
theorem Gg {a b c:Value} {w:World} {K:Value→World→Prop} (h:Ln a b c w K):Q1 P F.ct [a,b,c] w K:=Q9 (List.replicate 2 none) Tryz.func165 rfl (by decide) (by kernel_rfl) h
def Q0d:V8:=[none,none,none,some ([9],[4,5,6,9,10,11,12,13,14,15,16,17,18,19]),none,none,none,none,none,none,none]
def Da (e m:Value) (w:World) (K:Value→World→Prop):Prop:= box P T.ac m w fun a w=>X2 P .len [T.h] T.e [false] [e] w fun n w=>lp (α:=Value) (.int .i64 0) w fun c d o w=>Q3 P .lss T.e (.tmp 9) (.tmp 8) d n w fun i w=>X1 i (indexAddr P T.h e d w fun g w=>Q2 P T.c g w fun l w=>V6 P T.c w fun b w=>X9 P T.c b l w fun _u w=>S4 P T.h e none (some d) none w fun h w=>H1 P (.func F.ct) [] [a,b] w fun f w=>Q1 P F.c [h,f] w fun j w=>X1 j (K (.bool false) w) (Q3 P .add T.e (.tmp 9) (.const (.int .i64 1)) d (.int .i64 1) w fun k w=>c k w)) (K (.bool true) w)
theorem Q0a {a b:Value} {w:World} {K:Value→World→Prop} (h:Da a b w K):Q1 P F.aU [a,b] w K:=Q9 Q0d Tryz.func125 rfl (by decide) (by kernel_rfl) h
def Q3o (a:Value) (w:World) (K:Value→World→Prop):Prop:= K a w
theorem Q3t {a:Value} {w:World} {K:Value→World→Prop} (h:Q3o a w K):Q1 P F.cp [a] w K:=Q9 (List.replicate 2 none) Tryz.func126 rfl (by decide) (by kernel_rfl) h
def Yr:V8:=[none,none,none,some ([8],[4,5,8,9,10,11,12,13,14,15,16,17,18]),none,none,none,none,none,none,none]
def F9 (g i:Value) (w:World) (K:Value→World→Prop):Prop:= X2 P .len [T.k] T.e [false] [g] w fun j w=>lp (α:=Value) (.int .i64 0) w fun a b k w=>Q3 P .lss T.e (.tmp 8) (.tmp 7) b j w fun h w=>X1 h (indexAddr P T.k g b w fun c w=>Q2 P T.o c w fun d w=>Z4 P i [d] w fun e w=>X1 e (K b w) (Q3 P .add T.e (.tmp 8) (.const (.int .i64 1)) b (.int .i64 1) w fun f w=>a f w)) (K (.int .i64 (-1)) w)
theorem Yq {a b:Value} {w:World} {K:Value→World→Prop} (h:F9 a b w K):Q1 P F.i [a,b] w K:=Q9 Yr Tryz.func140 rfl (by decide) (by kernel_rfl) h
def B3 (a c:Value) (w:World) (K:Value→World→Prop):Prop:= Q1 P F.i [a,c] w fun d w=>Q3 P .geq T.e (.tmp 7) (.const (.int .i64 0)) d (.int .i64 0) w fun b w=>K b w
theorem Xe {a b:Value} {w:World} {K:Value→World→Prop} (h:B3 a b w K):Q1 P F.f [a,b] w K:=Q9 (List.replicate 2 none) Tryz.func166 rfl (by decide) (by kernel_rfl) h
def Uu (q n r:Value) (w:World) (K:Value→World→Prop):Prop:= box P T.o q w fun b w=>dr w fun a c=>Q5 a (fun d=> ∀w,c w→Q2 P T.aa n w (dk a d w)) fun d=>Q5 a (fun g=> ∀w,c w→Q2 P T.o b w (dk a g w)) fun g=>Q5 a (fun h=> ∀e f w,c w→d e w→g f w→Z4 P e [f] w (dk a h w)) fun h=>Q5 a (fun j=> ∀w,c w→Q2 P T.aa n w (dk a j w)) fun j=>Q5 a (fun l=> ∀w,c w→Q2 P T.o r w (dk a l w)) fun l=>∀e f p o m w,c w→d e w→g f w→h p w→j o w→l m w→ Z4 P o [m] w fun k w=>Q3 P .eql T.c (.tmp 7) (.tmp 10) p k w fun i w=>K i w
theorem Cs {a b c:Value} {w:World} {K:Value→World→Prop} (h:Uu a b c w K):Q1 P F.cb [a,b,c] w K:=Q9 (List.replicate 2 none) Tryz.func167 rfl (by decide) (by kernel_rfl) h
def Fk:V8:=[none,none,none,some ([9],[4,5,6,9,10,11,12,13,14,15,16,17,18,19]),none,none,none,none,none,none,none]
def Wb (e m:Value) (w:World) (K:Value→World→Prop):Prop:= box P T.aa m w fun a w=>X2 P .len [T.k] T.e [false] [e] w fun n w=>lp (α:=Value) (.int .i64 0) w fun c d o w=>Q3 P .lss T.e (.tmp 9) (.tmp 8) d n w fun i w=>X1 i (indexAddr P T.k e d w fun g w=>Q2 P T.o g w fun l w=>V6 P T.o w fun b w=>X9 P T.o b l w fun _u w=>S4 P T.k e none (some d) none w fun h w=>H1 P (.func F.cb) [] [a,b] w fun f w=>Q1 P F.f [h,f] w fun j w=>X1 j (K (.bool false) w) (Q3 P .add T.e (.tmp 9) (.const (.int .i64 1)) d (.int .i64 1) w fun k w=>c k w)) (K (.bool true) w)
theorem Fg {a b:Value} {w:World} {K:Value→World→Prop} (h:Wb a b w K):Q1 P F.aE [a,b] w K:=Q9 Fk Tryz.func127 rfl (by decide) (by kernel_rfl) h
def Bg (b:Value) (w:World) (K:Value→World→Prop):Prop:= box P T.o b w fun a w=>fieldAddr P T.o a 0 w fun d w=>Q2 P T.c d w fun c w=>K c w
theorem Q3e {a:Value} {w:World} {K:Value→World→Prop} (h:Bg a w K):Q1 P F.cq [a] w K:=Q9 (List.replicate 2 none) Tryz.func128 rfl (by decide) (by kernel_rfl) h
def Je (q n r:Value) (w:World) (K:Value→World→Prop):Prop:= box P T.d q w fun b w=>dr w fun a c=>Q5 a (fun d=> ∀w,c w→Q2 P T.a9 n w (dk a d w)) fun d=>Q5 a (fun g=> ∀w,c w→Q2 P T.d b w (dk a g w)) fun g=>Q5 a (fun h=> ∀e f w,c w→d e w→g f w→Z4 P e [f] w (dk a h w)) fun h=>Q5 a (fun j=> ∀w,c w→Q2 P T.a9 n w (dk a j w)) fun j=>Q5 a (fun l=> ∀w,c w→Q2 P T.d r w (dk a l w)) fun l=>∀e f p o m w,c w→d e w→g f w→h p w→j o w→l m w→ Z4 P o [m] w fun k w=>Q3 P .eql T.c (.tmp 7) (.tmp 10) p k w fun i w=>K i w
theorem Rq {a b c:Value} {w:World} {K:Value→World→Prop} (h:Je a b c w K):Q1 P F.bX [a,b,c] w K:=Q9 (List.replicate 2 none) Tryz.func168 rfl (by decide) (by kernel_rfl) h
def Bd:V8:=[none,none,none,some ([9],[4,5,6,9,10,11,12,13,14,15,16,17,18,19]),none,none,none,none,none,none,none]
def Vd (e m:Value) (w:World) (K:Value→World→Prop):Prop:= box P T.a9 m w fun a w=>X2 P .len [T.j] T.e [false] [e] w fun n w=>lp (α:=Value) (.int .i64 0) w fun c d o w=>Q3 P .lss T.e (.tmp 9) (.tmp 8) d n w fun i w=>X1 i (indexAddr P T.j e d w fun g w=>Q2 P T.d g w fun l w=>V6 P T.d w fun b w=>X9 P T.d b l w fun _u w=>S4 P T.j e none (some d) none w fun h w=>H1 P (.func F.bX) [] [a,b] w fun f w=>Q1 P F.a [h,f] w fun j w=>X1 j (K (.bool false) w) (Q3 P .add T.e (.tmp 9) (.const (.int .i64 1)) d (.int .i64 1) w fun k w=>c k w)) (K (.bool true) w)
theorem Cv {a b:Value} {w:World} {K:Value→World→Prop} (h:Vd a b w K):Q1 P F.aq [a,b] w K:=Q9 Bd Tryz.func129 rfl (by decide) (by kernel_rfl) h
def Be (b:Value) (w:World) (K:Value→World→Prop):Prop:= box P T.d b w fun a w=>fieldAddr P T.d a 0 w fun d w=>Q2 P T.c d w fun c w=>K c w
theorem Q34 {a:Value} {w:World} {K:Value→World→Prop} (h:Be a w K):Q1 P F.cr [a] w K:=Q9 (List.replicate 2 none) Tryz.func130 rfl (by decide) (by kernel_rfl) h
def Ji (b f:Value) (w:World) (K:Value→World→Prop):Prop:= box P T.o b w fun a w=>Q2 P T.ag f w fun c w=>Q2 P T.o a w fun d w=>Z4 P c [d] w fun e w=>J8 P .not e w fun g w=>K g w
theorem Rp {a b:Value} {w:World} {K:Value→World→Prop} (h:Ji a b w K):Q1 P F.bY [a,b] w K:=Q9 (List.replicate 2 none) Tryz.func169 rfl (by decide) (by kernel_rfl) h
def Vk (b e:Value) (w:World) (K:Value→World→Prop):Prop:= box P T.ag e w fun a w=>H1 P (.func F.bY) [] [a] w fun d w=>Q1 P F.f [b,d] w fun f w=>J8 P .not f w fun c w=>K c w
theorem Cx {a b:Value} {w:World} {K:Value→World→Prop} (h:Vk a b w K):Q1 P F.ar [a,b] w K:=Q9 (List.replicate 2 none) Tryz.func131 rfl (by decide) (by kernel_rfl) h
def Q10 (a:Value) (w:World) (K:Value→World→Prop):Prop:= Q3 P .eql T.c (.tmp 3) (.const (.string ⟨#[105,110,116]⟩)) a (.string ⟨#[105,110,116]⟩) w fun b w=>Q0 b false w (fun w J=>J a w) fun g w=>Q0 b false w (Q3 P .eql T.c (.tmp 6) (.const (.string ⟨#[98,111,111,108]⟩)) g (.string ⟨#[98,111,111,108]⟩)) fun h w=>pick P b (.bool true) h w fun e w=>Q0 e false w (fun w J=>J a w) fun f w=>Q0 e false w (Q3 P .eql T.c (.tmp 10) (.const (.string ⟨#[116,101,120,116]⟩)) f (.string ⟨#[116,101,120,116]⟩)) fun c w=>pick P e (.bool true) c w fun d w=>K d w
theorem Q5R {a:Value} {w:World} {K:Value→World→Prop} (h:Q10 a w K):Q1 P F.aO [a] w K:=Q9 (List.replicate 2 none) Tryz.func109 rfl (by decide) (by kernel_rfl) h
def Vi (b g:Value) (w:World) (K:Value→World→Prop):Prop:= X2 P .len [T.c] T.e [false] [b] w fun o w=>X2 P .len [T.c] T.e [false] [g] w fun n w=>Q3 P .geq T.e (.tmp 6) (.tmp 8) o n w fun a w=>Q0 a true w (fun w J=>J b w) fun d w=>Q0 a true w (fun w J=>J b w) fun f w=>Q0 a true w (X2 P .len [T.c] T.e [false] [f]) fun m w=>Q0 a true w (fun w J=>J g w) fun h w=>Q0 a true w (X2 P .len [T.c] T.e [false] [h]) fun i w=>Q0 a true w (Q3 P .sub T.e (.tmp 13) (.tmp 15) m i) fun j w=>Q0 a true w (S4 P T.c d (some j) none none) fun c w=>Q0 a true w (fun w J=>J g w) fun k w=>Q0 a true w (Q3 P .eql T.c (.tmp 17) (.tmp 18) c k) fun l w=>pick P a l (.bool false) w fun e w=>K e w
theorem Cz {a b:Value} {w:World} {K:Value→World→Prop} (h:Vi a b w K):Q1 P F.ab [a,b] w K:=Q9 (List.replicate 2 none) Tryz.func202 rfl (by decide) (by kernel_rfl) h
def Db (a b:Value) (w:World) (K:Value→World→Prop):Prop:= Q1 P F.ab [a,b] w fun c w=>K c w
theorem Aa {a b:Value} {w:World} {K:Value→World→Prop} (h:Db a b w K):Q1 P F.bK [a,b] w K:=Q9 (List.replicate 2 none) Tryz.func185 rfl (by decide) (by kernel_rfl) h
def Up (a f:Value) (w:World) (K:Value→World→Prop):Prop:= Q1 P F.ab [a,f] w fun g w=>X1 g (X2 P .len [T.c] T.e [false] [a] w fun d w=>X2 P .len [T.c] T.e [false] [f] w fun b w=>Q3 P .sub T.e (.tmp 10) (.tmp 12) d b w fun e w=>S4 P T.c a none (some e) none w fun c w=>K c w) (K a w)
theorem Sx {a b:Value} {w:World} {K:Value→World→Prop} (h:Up a b w K):Q1 P F.cd [a,b] w K:=Q9 (List.replicate 5 none) Tryz.func204 rfl (by decide) (by kernel_rfl) h
def Nf (a b:Value) (w:World) (K:Value→World→Prop):Prop:= Q1 P F.cd [a,b] w fun c w=>K c w
theorem Kz {a b:Value} {w:World} {K:Value→World→Prop} (h:Nf a b w K):Q1 P F.bt [a,b] w K:=Q9 (List.replicate 2 none) Tryz.func186 rfl (by decide) (by kernel_rfl) h
def Q6S:V8:=[none,none,none,some ([0,4],[0,4,5,6,7,8,9,10]),none,none,none]
def Q2o (d:Value) (w:World) (K:Value→World→Prop):Prop:= lp (α:=Value×Value) (d,(.int .i64 0)) w fun a b g w=>Q1 P F.bK [b.1,(.string ⟨#[91,93]⟩)] w fun f w=>X1 f (Q1 P F.bt [b.1,(.string ⟨#[91,93]⟩)] w fun e w=>Q3 P .add T.e (.tmp 9) (.const (.int .i64 1)) b.2 (.int .i64 1) w fun c w=>a (e,c) w) (K (.tuple #[b.1,b.2]) w)
theorem Q75 {a:Value} {w:World} {K:Value→World→Prop} (h:Q2o a w K):Q1 P F.cx [a] w K:=Q9 Q6S Tryz.func155 rfl (by decide) (by kernel_rfl) h
def Q1f (k:Value) (w:World) (K:Value→World→Prop):Prop:= Q1 P F.cx [k] w fun i w=>ext P i 0 w fun j w=>ext P i 1 w fun l w=>Q3 P .leq T.e (.tmp 10) (.const (.int .i64 3)) l (.int .i64 3) w fun a w=>Q0 a true w (fun w J=>J j w) fun g w=>Q0 a true w (Q1 P F.aO [g]) fun d w=>Q0 a true w (fun w J=>J d w) fun b w=>Q0 b false w (fun w J=>J j w) fun e w=>Q0 b false w (Q1 P F.ak [e]) fun c w=>Q0 a true w (pick P b (.bool true) c) fun f w=>pick P a f (.bool false) w fun h w=>K h w
theorem Q67 {a:Value} {w:World} {K:Value→World→Prop} (h:Q1f a w K):Q1 P F.a0 [a] w K:=Q9 (List.replicate 3 none) Tryz.func114 rfl (by decide) (by kernel_rfl) h
def Ie (b:Value) (w:World) (K:Value→World→Prop):Prop:= Q1 P F.c6 [b] w fun a w=>Q0 a true w (fun w J=>J b w) fun e w=>Q0 a true w (Q1 P F.ak [e]) fun f w=>Q0 a true w (J8 P .not f) fun d w=>pick P a d (.bool false) w fun c w=>K c w
theorem Q46 {a:Value} {w:World} {K:Value→World→Prop} (h:Ie a w K):Q1 P F.bU [a] w K:=Q9 (List.replicate 2 none) Tryz.func133 rfl (by decide) (by kernel_rfl) h
def Bl (d:Value) (w:World) (K:Value→World→Prop):Prop:= box P T.o d w fun a w=>fieldAddr P T.o a 0 w fun i w=>Q2 P T.c i w fun e w=>Q1 P F.bU [e] w fun b w=>Q0 b true w (fieldAddr P T.o a 1) fun h w=>Q0 b true w (Q2 P T.c h) fun g w=>Q0 b true w (Q1 P F.a0 [g]) fun f w=>pick P b f (.bool false) w fun c w=>K c w
theorem Q30 {a:Value} {w:World} {K:Value→World→Prop} (h:Bl a w K):Q1 P F.bx [a] w K:=Q9 (List.replicate 2 none) Tryz.func132 rfl (by decide) (by kernel_rfl) h
def Zg (b f:Value) (w:World) (K:Value→World→Prop):Prop:= box P T.d b w fun a w=>Q2 P T.ae f w fun c w=>Q2 P T.d a w fun d w=>Z4 P c [d] w fun e w=>J8 P .not e w fun g w=>K g w
theorem Hs {a b:Value} {w:World} {K:Value→World→Prop} (h:Zg a b w K):Q1 P F.bV [a,b] w K:=Q9 (List.replicate 2 none) Tryz.func170 rfl (by decide) (by kernel_rfl) h
def Jq (b e:Value) (w:World) (K:Value→World→Prop):Prop:= box P T.ae e w fun a w=>H1 P (.func F.bV) [] [a] w fun d w=>Q1 P F.a [b,d] w fun f w=>J8 P .not f w fun c w=>K c w
theorem Ca {a b:Value} {w:World} {K:Value→World→Prop} (h:Jq a b w K):Q1 P F.an [a,b] w K:=Q9 (List.replicate 2 none) Tryz.func134 rfl (by decide) (by kernel_rfl) h
def Ss (D A:Value) (w:World) (K:Value→World→Prop):Prop:= box P T.t D w fun a w=>fieldAddr P T.t a 0 w fun B w=>Q2 P T.e B w fun E w=>Q3 P .geq T.e (.tmp 5) (.const (.int .i64 0)) E (.int .i64 0) w fun f w=>Q0 f true w (fieldAddr P T.t a 1) fun H w=>Q0 f true w (Q2 P T.e H) fun C w=>Q0 f true w (fieldAddr P T.t a 0) fun z w=>Q0 f true w (Q2 P T.e z) fun u w=>Q0 f true w (Q3 P .gtr T.e (.tmp 9) (.tmp 11) C u) fun n w=>pick P f n (.bool false) w fun b w=>Q0 b true w (fieldAddr P T.t a 1) fun g w=>Q0 b true w (Q2 P T.e g) fun y w=>Q0 b true w (Q2 P T.e A) fun i w=>Q0 b true w (Q3 P .leq T.e (.tmp 16) (.tmp 17) y i) fun q w=>pick P b q (.bool false) w fun e w=>Q0 e true w (fieldAddr P T.t a 2) fun r w=>Q0 e true w (Q2 P T.e r) fun k w=>Q0 e true w (Q3 P .geq T.e (.tmp 22) (.const (.int .i64 0)) k (.int .i64 0)) fun l w=>pick P e l (.bool false) w fun c w=>Q0 c true w (fieldAddr P T.t a 2) fun h w=>Q0 c true w (Q2 P T.e h) fun m w=>Q0 c true w (Q2 P T.e A) fun s w=>Q0 c true w (Q3 P .lss T.e (.tmp 27) (.tmp 28) m s) fun p w=>pick P c p (.bool false) w fun d w=>Q0 d true w (fieldAddr P T.t a 3) fun t w=>Q0 d true w (Q2 P T.c t) fun v w=>Q0 d true w (Q1 P F.ak [v]) fun o w=>pick P d o (.bool false) w fun j w=>K j w
theorem Q2E {a b:Value} {w:World} {K:Value→World→Prop} (h:Ss a b w K):Q1 P F.bh [a,b] w K:=Q9 (List.replicate 2 none) Tryz.func171 rfl (by decide) (by kernel_rfl) h
def Yz:V8:=[none,none,none,some ([8],[4,5,8,9,10,11,12,13,14,15,16,17,18]),none,none,none,none,none,none,none]
def G2 (g i:Value) (w:World) (K:Value→World→Prop):Prop:= X2 P .len [T.q] T.e [false] [g] w fun j w=>lp (α:=Value) (.int .i64 0) w fun a b k w=>Q3 P .lss T.e (.tmp 8) (.tmp 7) b j w fun h w=>X1 h (indexAddr P T.q g b w fun c w=>Q2 P T.v c w fun d w=>Z4 P i [d] w fun e w=>X1 e (K b w) (Q3 P .add T.e (.tmp 8) (.const (.int .i64 1)) b (.int .i64 1) w fun f w=>a f w)) (K (.int .i64 (-1)) w)
theorem Yv {a b:Value} {w:World} {K:Value→World→Prop} (h:G2 a b w K):Q1 P F.a6 [a,b] w K:=Q9 Yz Tryz.func208 rfl (by decide) (by kernel_rfl) h
def B1 (a c:Value) (w:World) (K:Value→World→Prop):Prop:= Q1 P F.a6 [a,c] w fun d w=>Q3 P .geq T.e (.tmp 7) (.const (.int .i64 0)) d (.int .i64 0) w fun b w=>K b w
theorem Xh {a b:Value} {w:World} {K:Value→World→Prop} (h:B1 a b w K):Q1 P F.l [a,b] w K:=Q9 (List.replicate 2 none) Tryz.func194 rfl (by decide) (by kernel_rfl) h
def Jk (b f:Value) (w:World) (K:Value→World→Prop):Prop:= box P T.v b w fun a w=>Q2 P T.ai f w fun c w=>Q2 P T.v a w fun d w=>Z4 P c [d] w fun e w=>J8 P .not e w fun g w=>K g w
theorem Re {a b:Value} {w:World} {K:Value→World→Prop} (h:Jk a b w K):Q1 P F.bZ [a,b] w K:=Q9 (List.replicate 2 none) Tryz.func195 rfl (by decide) (by kernel_rfl) h
def Vf (b e:Value) (w:World) (K:Value→World→Prop):Prop:= box P T.ai e w fun a w=>H1 P (.func F.bZ) [] [a] w fun d w=>Q1 P F.l [b,d] w fun f w=>J8 P .not f w fun c w=>K c w
theorem Ba {a b:Value} {w:World} {K:Value→World→Prop} (h:Vf a b w K):Q1 P F.av [a,b] w K:=Q9 (List.replicate 2 none) Tryz.func172 rfl (by decide) (by kernel_rfl) h
def Uj:V8:=[none,none,none,some ([8],[4,5,8,9,10,11,12,13,14,15,16,17,18]),none,none,none,none,none,none,none]
def K9 (g i:Value) (w:World) (K:Value→World→Prop):Prop:= X2 P .len [T.ap] T.e [false] [g] w fun j w=>lp (α:=Value) (.int .i64 0) w fun a b k w=>Q3 P .lss T.e (.tmp 8) (.tmp 7) b j w fun h w=>X1 h (indexAddr P T.ap g b w fun c w=>Q2 P T.ad c w fun d w=>Z4 P i [d] w fun e w=>X1 e (K b w) (Q3 P .add T.e (.tmp 8) (.const (.int .i64 1)) b (.int .i64 1) w fun f w=>a f w)) (K (.int .i64 (-1)) w)
theorem Uk {a b:Value} {w:World} {K:Value→World→Prop} (h:K9 a b w K):Q1 P F.t [a,b] w K:=Q9 Uj Tryz.func221 rfl (by decide) (by kernel_rfl) h
def Tq (b f:Value) (w:World) (K:Value→World→Prop):Prop:= box P T.ad b w fun a w=>fieldAddr P T.ad a 0 w fun c w=>Q2 P T.c c w fun d w=>Q2 P T.c f w fun e w=>Q3 P .eql T.c (.tmp 5) (.tmp 6) d e w fun g w=>K g w
theorem Q51 {a b:Value} {w:World} {K:Value→World→Prop} (h:Tq a b w K):Q1 P F.cR [a,b] w K:=Q9 (List.replicate 2 none) Tryz.func222 rfl (by decide) (by kernel_rfl) h
def Q2q (b:Value) (w:World) (K:Value→World→Prop):Prop:= box P T.c b w fun a w=>S4 P T.af (.pointer (some ⟨G.a,0,none⟩)) none none none w fun e w=>H1 P (.func F.cR) [] [a] w fun c w=>Q1 P F.t [e,c] w fun d w=>K d w
theorem Q72 {a:Value} {w:World} {K:Value→World→Prop} (h:Q2q a w K):Q1 P F.cM [a] w K:=Q9 (List.replicate 2 none) Tryz.func209 rfl (by decide) (by kernel_rfl) h
def Q1d (q:Value) (w:World) (K:Value→World→Prop):Prop:= Q1 P F.cM [q] w fun o w=>Q3 P .lss T.e (.tmp 8) (.const (.int .i64 0)) o (.int .i64 0) w fun p w=>X1 p (K (.tuple #[(.bool false),(.bool false),(.bool false)]) w) (dr w fun a j=>Q5 a (fun c=> ∀w,j w→indexAddr P T.af (.pointer (some ⟨G.a,0,none⟩)) o w (dk a c w)) fun c=>Q5 a (fun f=> ∀h w,j w→c h w→fieldAddr P T.ad h 1 w (dk a f w)) fun f=>Q5 a (fun d=> ∀w,j w→indexAddr P T.af (.pointer (some ⟨G.a,0,none⟩)) o w (dk a d w)) fun d=>Q5 a (fun g=> ∀b w,j w→d b w→fieldAddr P T.ad b 2 w (dk a g w)) fun g=>Q5 a (fun k=> ∀e w,j w→f e w→Q2 P T.u e w (dk a k w)) fun k=>Q5 a (fun l=> ∀i w,j w→g i w→Q2 P T.u i w (dk a l w)) fun l=>∀h e b i n m w,j w→c h w→f e w→d b w→g i w→k n w→l m w→ K (.tuple #[n,m,(.bool true)]) w)
theorem Q5Q {a:Value} {w:World} {K:Value→World→Prop} (h:Q1d a w K):Q1 P F.cm [a] w K:=Q9 (List.replicate 6 none) Tryz.func196 rfl (by decide) (by kernel_rfl) h
def Q2j (c:Value) (w:World) (K:Value→World→Prop):Prop:= Q1 P F.cx [c] w fun d w=>ext P d 0 w fun f w=>ext P d 1 w fun e w=>Q1 P F.a0 [c] w fun a w=>J8 P .not a w fun b w=>X1 b (K (.int .i64 0) w) (K e w)
theorem Q6V {a:Value} {w:World} {K:Value→World→Prop} (h:Q2j a w K):Q1 P F.cw [a] w K:=Q9 (List.replicate 6 none) Tryz.func115 rfl (by decide) (by kernel_rfl) h
def Vl (a b:Value) (w:World) (K:Value→World→Prop):Prop:= Q1 P F.c1 [a,b] w fun c w=>K c w
theorem Cu {a b:Value} {w:World} {K:Value→World→Prop} (h:Vl a b w K):Q1 P F.ax [a,b] w K:=Q9 (List.replicate 2 none) Tryz.func227 rfl (by decide) (by kernel_rfl) h
def Aw:V8:=[none,none,none,none,none,none,none,none,none,none,none,none,none,none,none,none,none,some ([8,10],[4,8,10,11,12,13,57,58,59,60,61,62,63,64,65,66,67,68,69,70,71,72,73,74,75,76,77,78,79,80,81,82,83,84,85,86,87,88,89,90,91,92,93,94,95,96,97,98,99,100,101,102,103,104,105,106,107,108,109,110,111,112,113,114,115,116,117,118,119,120,121,122,123,124,125,126,127,128,129,130,131,132,133,134,135,136,137,138,139,140,141,142]),none,none,some ([8],[4,8,11,60,61,62,63,64,65,66,67,68,69,70,71,72,73,74,75,76,77]),none,none,none,none,none,none,none,none,none,none,none,none,none,none,none,none,none,none,none,none,none,none,none]
def Oy (h k:Value) (w:World) (K:Value→World→Prop):Prop:= X2 P .len [T.c] T.e [false] [k] w fun c w=>Q3 P .eql T.e (.tmp 17) (.const (.int .i64 0)) c (.int .i64 0) w fun l w=>Q0 l false w (fun w J=>J k w) fun a9 w=>Q0 l false w (fun w J=>J h w) fun ar w=>Q0 l false w (Q3 P .eql T.c (.tmp 20) (.tmp 21) a9 ar) fun ah w=>pick P l (.bool true) ah w fun a5 w=>X1 a5 (K (.int .i64 0) w) (Q3 P .eql T.e (.tmp 25) (.const (.int .i64 1)) c (.int .i64 1) w fun ay w=>X1 ay (C4 P T.c k (.int .i64 0) w fun ao w=>Q1 P F.ax [h,ao] w fun af w=>K af w) (X2 P .len [T.c] T.e [false] [h] w fun al w=>Q3 P .geq T.e (.tmp 32) (.tmp 34) c al w fun az w=>X1 az (K (.int .i64 (-1)) w) (Q2 P T.e (.pointer (some ⟨G.c,0,none⟩)) w fun bc w=>Q3 P .leq T.e (.tmp 37) (.tmp 38) c bc w fun m w=>Q0 m true w (fun w J=>J h w) fun bb w=>Q0 m true w (X2 P .len [T.c] T.e [false] [bb]) fun ac w=>Q0 m true w (Q3 P .leq T.e (.tmp 42) (.const (.int .i64 64)) ac (.int .i64 64)) fun a7 w=>pick P m a7 (.bool false) w fun am w=>X1 am (Q1 P F.cu [h,k] w fun aq w=>K aq w) (C4 P T.c k (.int .i64 0) w fun Z w=>C4 P T.c k (.int .i64 1) w fun ax w=>X2 P .len [T.c] T.e [false] [h] w fun ab w=>Q3 P .sub T.e (.tmp 53) (.tmp 54) ab c w fun ae w=>Q3 P .add T.e (.tmp 55) (.const (.int .i64 1)) ae (.int .i64 1) w fun q w=>lp (α:=Value×Value) ((.int .i64 0),(.int .i64 0)) w fun j g d_ w=>Q3 P .lss T.e (.tmp 57) (.tmp 58) g.1 q w fun an w=>X1 an (jn (α:=Value) w (fun W w=>C4 P T.c h g.1 w fun ag w=>Q3 P .neq T.a3 (.tmp 62) (.tmp 63) ag Z w fun be w=>X1 be (Q3 P .add T.e (.tmp 66) (.const (.int .i64 1)) g.1 (.int .i64 1) w fun bd w=>S4 P T.c h (some bd) (some q) none w fun a3 w=>Q1 P F.ax [a3,Z] w fun A w=>Q3 P .lss T.e (.tmp 72) (.const (.int .i64 0)) A (.int .i64 0) w fun av w=>X1 av (K (.int .i64 (-1)) w) (Q3 P .add T.e (.tmp 75) (.const (.int .i64 1)) A (.int .i64 1) w fun a6 w=>Q3 P .add T.e (.tmp 74) (.tmp 76) g.1 a6 w fun aa w=>W aa w)) (W g.1 w)) fun i d_ w=>Q3 P .add T.e (.tmp 79) (.const (.int .i64 1)) i (.int .i64 1) w fun aw w=>C4 P T.c h aw w fun bf w=>Q3 P .eql T.a3 (.tmp 81) (.tmp 82) bf ax w fun b w=>Q0 b true w (fun w J=>J h w) fun ai w=>Q0 b true w (fun w J=>J i w) fun ak w=>Q0 b true w (fun w J=>J i w) fun ad w=>Q0 b true w (fun w J=>J c w) fun ba w=>Q0 b true w (Q3 P .add T.e (.tmp 87) (.tmp 88) ad ba) fun a2 w=>Q0 b true w (S4 P T.c ai (some ak) (some a2) none) fun ap w=>Q0 b true w (fun w J=>J k w) fun a4 w=>Q0 b true w (Q3 P .eql T.c (.tmp 90) (.tmp 91) ap a4) fun aj w=>pick P b aj (.bool false) w fun a8 w=>X1 a8 (K i w) (Q3 P .add T.e (.tmp 95) (.const (.int .i64 1)) i (.int .i64 1) w fun d w=>Q3 P .add T.e (.tmp 97) (.const (.int .i64 1)) g.2 (.int .i64 1) w fun p w=>Q2 P T.e (.pointer (some ⟨G.c,0,none⟩)) w fun E w=>Q3 P .leq T.e (.tmp 99) (.tmp 100) c E w fun e w=>Q0 e true w (fun w J=>J p w) fun U w=>Q0 e true w (fun w J=>J d w) fun t w=>Q0 e true w (Q1 P F.cV [t]) fun O w=>Q0 e true w (Q3 P .gtr T.e (.tmp 103) (.tmp 105) U O) fun y w=>pick P e y (.bool false) w fun R w=>X1 R (S4 P T.c h (some d) none none w fun C w=>Q1 P F.cu [C,k] w fun n w=>Q3 P .geq T.e (.tmp 113) (.const (.int .i64 0)) n (.int .i64 0) w fun z w=>X1 z (Q3 P .add T.e (.tmp 115) (.tmp 116) n d w fun v w=>K v w) (K (.int .i64 (-1)) w)) (Q2 P T.e (.pointer (some ⟨G.c,0,none⟩)) w fun M w=>Q3 P .gtr T.e (.tmp 118) (.tmp 119) c M w fun a w=>Q0 a true w (fun w J=>J p w) fun Q w=>Q0 a true w (fun w J=>J d w) fun H w=>Q0 a true w (Q3 P .shr T.e (.tmp 123) (.const (.int .u64 4)) H (.int .u64 4)) fun X w=>Q0 a true w (Q3 P .add T.e (.const (.int .i64 4)) (.tmp 124) (.int .i64 4) X) fun u w=>Q0 a true w (Q3 P .geq T.e (.tmp 122) (.tmp 125) Q u) fun D w=>pick P a D (.bool false) w fun f w=>Q0 f true w (fun w J=>J d w) fun L w=>Q0 f true w (fun w J=>J q w) fun Y w=>Q0 f true w (Q3 P .lss T.e (.tmp 129) (.tmp 130) L Y) fun s w=>pick P f s (.bool false) w fun V w=>X1 V (S4 P T.c h (some d) none none w fun r w=>Q1 P F.cK [r,k] w fun o w=>Q3 P .lss T.e (.tmp 138) (.const (.int .i64 0)) o (.int .i64 0) w fun N w=>X1 N (K (.int .i64 (-1)) w) (Q3 P .add T.e (.tmp 140) (.tmp 141) d o w fun B w=>K B w)) (j (d,p) w)))) (K (.int .i64 (-1)) w)))))
theorem Q0e {a b:Value} {w:World} {K:Value→World→Prop} (h:Oy a b w K):Q1 P F.bL [a,b] w K:=Q9 Aw Tryz.func228 rfl (by decide) (by kernel_rfl) h
def Rb (l n:Value) (w:World) (K:Value→World→Prop):Prop:= Q1 P F.bL [l,n] w fun h w=>Q3 P .geq T.e (.tmp 11) (.const (.int .i64 0)) h (.int .i64 0) w fun m w=>X1 m (dr w fun e i=>Q5 e (fun g=> ∀w,i w→S4 P T.c l none (some h) none w (dk e g w)) fun g=>Q5 e (fun c=> ∀w,i w→X2 P .len [T.c] T.e [false] [n] w (dk e c w)) fun c=>Q5 e (fun b=> ∀d w,i w→c d w→Q3 P .add T.e (.tmp 17) (.tmp 19) h d w (dk e b w)) fun b=>Q5 e (fun f=> ∀a w,i w→b a w→S4 P T.c l (some a) none none w (dk e f w)) fun f=>∀k d a j w,i w→g k w→c d w→b a w→f j w→ K (.tuple #[k,j,(.bool true)]) w) (K (.tuple #[l,(.string ⟨#[]⟩),(.bool false)]) w)
theorem Q1U {a b:Value} {w:World} {K:Value→World→Prop} (h:Rb a b w K):Q1 P F.cJ [a,b] w K:=Q9 (List.replicate 6 none) Tryz.func229 rfl (by decide) (by kernel_rfl) h
def Tx (e f:Value) (w:World) (K:Value→World→Prop):Prop:= Q1 P F.cJ [e,f] w fun c w=>ext P c 0 w fun d w=>ext P c 1 w fun a w=>ext P c 2 w fun b w=>K (.tuple #[d,a,b]) w
theorem Q56 {a b:Value} {w:World} {K:Value→World→Prop} (h:Tx a b w K):Q1 P F.cB [a,b] w K:=Q9 (List.replicate 2 none) Tryz.func224 rfl (by decide) (by kernel_rfl) h
end Go.Proofs.YtjdiakhipmggjaaGreatDoor

set_option maxRecDepth 100000
namespace Go.Proofs.YtjdiakhipmggjaaGreatDoor
open Go.Emb
def Q16 (t:Value) (w:World) (K:Value→World→Prop):Prop:= Q1 P F.cB [t,(.string ⟨#[46]⟩)] w fun e w=>ext P e 0 w fun f w=>ext P e 1 w fun d w=>ext P e 2 w fun l w=>J8 P .not l w fun b w=>Q0 b false w (fun w J=>J f w) fun i w=>Q0 b false w (Q1 P F.ak [i]) fun p w=>Q0 b false w (J8 P .not p) fun k w=>pick P b (.bool true) k w fun c w=>Q0 c false w (fun w J=>J d w) fun j w=>Q0 c false w (Q1 P F.c6 [j]) fun m w=>Q0 c false w (J8 P .not m) fun s w=>pick P c (.bool true) s w fun a w=>Q0 a false w (fun w J=>J d w) fun n w=>Q0 a false w (C4 P T.c n (.int .i64 0)) fun q w=>Q0 a false w (conv P T.a3 T.an q) fun o w=>Q0 a false w (Q1 P F.cl [o]) fun g w=>Q0 a false w (J8 P .not g) fun h w=>pick P a (.bool true) h w fun r w=>X1 r (K (.tuple #[(.string ⟨#[]⟩),(.string ⟨#[]⟩),(.int .i64 30)]) w) (K (.tuple #[f,d,(.int .i64 0)]) w)
theorem Q5A {a:Value} {w:World} {K:Value→World→Prop} (h:Q16 a w K):Q1 P F.cI [a] w K:=Q9 (List.replicate 6 none) Tryz.func211 rfl (by decide) (by kernel_rfl) h
def Q7k:V8:=[none,none,none,none,none,none,none,some ([27],[27,28,29]),none,none,none,none,none,none]
def Q2p (g c:Value) (w:World) (K:Value→World→Prop):Prop:= Q3 P .eql T.c (.tmp 8) (.const (.string ⟨#[119,111,114,100]⟩)) g (.string ⟨#[119,111,114,100]⟩) w fun H w=>X1 H (X2 P .len [T.c] T.e [false] [c] w fun r w=>Q3 P .leq T.e (.tmp 12) (.const (.int .i64 64)) r (.int .i64 64) w fun e w=>Q0 e true w (fun w J=>J c w) fun k w=>Q0 e true w (Q1 P F.b0 [k]) fun E w=>pick P e E (.bool false) w fun d w=>Q0 d true w (fun w J=>J c w) fun q w=>Q0 d true w (Q1 P F.cE [q,(.string ⟨#[10]⟩)]) fun A w=>Q0 d true w (J8 P .not A) fun y w=>pick P d y (.bool false) w fun o w=>K o w) (Q3 P .eql T.c (.tmp 8) (.const (.string ⟨#[110,101,119]⟩)) g (.string ⟨#[110,101,119]⟩) w fun B w=>X1 B (Q1 P F.ak [c] w fun m w=>K m w) (jn (α:=Value) w (fun L w=>Q3 P .eql T.c (.tmp 8) (.const (.string ⟨#[105,115]⟩)) g (.string ⟨#[105,115]⟩) w fun h w=>X1 h (L h w) (Q3 P .eql T.c (.tmp 8) (.const (.string ⟨#[99,97,115,116]⟩)) g (.string ⟨#[99,97,115,116]⟩) w fun v w=>L v w)) fun M Q w=>X1 M (Q1 P F.a0 [c] w fun b w=>Q0 b true w (fun w J=>J c w) fun C w=>Q0 b true w (Q1 P F.aO [C]) fun s w=>Q0 b true w (J8 P .not s) fun n w=>pick P b n (.bool false) w fun p w=>K p w) (Q3 P .eql T.c (.tmp 8) (.const (.string ⟨#[97,114,114,97,121]⟩)) g (.string ⟨#[97,114,114,97,121]⟩) w fun D w=>X1 D (Q1 P F.a0 [c] w fun a w=>Q0 a true w (fun w J=>J c w) fun j w=>Q0 a true w (Q1 P F.cw [j]) fun u w=>Q0 a true w (Q3 P .lss T.e (.tmp 43) (.const (.int .i64 3)) u (.int .i64 3)) fun t w=>pick P a t (.bool false) w fun z w=>K z w) (Q1 P F.cI [c] w fun f w=>ext P f 0 w fun N w=>ext P f 1 w fun O w=>ext P f 2 w fun l w=>Q3 P .eql T.y (.tmp 52) (.const (.int .i64 0)) l (.int .i64 0) w fun i w=>K i w))))
theorem Q77 {a b:Value} {w:World} {K:Value→World→Prop} (h:Q2p a b w K):Q1 P F.cL [a,b] w K:=Q9 Q7k Tryz.func197 rfl (by decide) (by kernel_rfl) h
def Q66:V8:=[none,none,none,none,none,some ([16],[16,17,18,19,20,21,22,23,24,25,26,27,28,29,30,31,32,33,34,35,36,37,38,39]),none,none,none,none]
def Q1s (B:Value) (w:World) (K:Value→World→Prop):Prop:= box P T.v B w fun a w=>fieldAddr P T.v a 0 w fun D w=>Q2 P T.c D w fun C w=>Q1 P F.cm [C] w fun g w=>ext P g 0 w fun y w=>ext P g 1 w fun b w=>ext P g 2 w fun n w=>J8 P .not n w fun h w=>X1 h (K (.int .i64 40) w) (jn (α:=Value) w (fun o w=>J8 P .not y w fun c w=>Q0 c true w (fieldAddr P T.v a 1) fun t w=>Q0 c true w (Q2 P T.a1 t) fun r w=>Q0 c true w (Q3 P .neq T.a1 (.tmp 21) (.const (.int .i64 0)) r (.int .i64 0)) fun j w=>pick P c j (.bool false) w fun f w=>X1 f (o f w) (J8 P .not b w fun d w=>Q0 d true w (fieldAddr P T.v a 2) fun m w=>Q0 d true w (Q2 P T.c m) fun s w=>Q0 d true w (Q3 P .neq T.c (.tmp 28) (.const (.string ⟨#[]⟩)) s (.string ⟨#[]⟩)) fun q w=>pick P d q (.bool false) w fun e w=>X1 e (o e w) (Q0 b true w (fieldAddr P T.v a 0) fun u w=>Q0 b true w (Q2 P T.c u) fun p w=>Q0 b true w (fieldAddr P T.v a 2) fun i w=>Q0 b true w (Q2 P T.c i) fun k w=>Q0 b true w (Q1 P F.cL [p,k]) fun z w=>Q0 b true w (J8 P .not z) fun v w=>pick P b v (.bool false) w fun l w=>o l w))) fun A E w=>X1 A (K (.int .i64 41) w) (K (.int .i64 0) w))
theorem Q6u {a:Value} {w:World} {K:Value→World→Prop} (h:Q1s a w K):Q1 P F.cH [a] w K:=Q9 Q66 Tryz.func174 rfl (by decide) (by kernel_rfl) h
def Sa (b:Value) (w:World) (K:Value→World→Prop):Prop:= box P T.v b w fun a w=>Q2 P T.v a w fun e w=>Q1 P F.cH [e] w fun c w=>Q3 P .eql T.y (.tmp 4) (.const (.int .i64 0)) c (.int .i64 0) w fun d w=>K d w
theorem Q2S {a:Value} {w:World} {K:Value→World→Prop} (h:Sa a w K):Q1 P F.bi [a] w K:=Q9 (List.replicate 2 none) Tryz.func173 rfl (by decide) (by kernel_rfl) h
def Zb:V8:=[none,none,none,some ([8],[4,5,8,9,10,11,12,13,14,15,16,17,18]),none,none,none,none,none,none,none]
def I1 (g i:Value) (w:World) (K:Value→World→Prop):Prop:= X2 P .len [T.s] T.e [false] [g] w fun j w=>lp (α:=Value) (.int .i64 0) w fun a b k w=>Q3 P .lss T.e (.tmp 8) (.tmp 7) b j w fun h w=>X1 h (indexAddr P T.s g b w fun c w=>Q2 P T.t c w fun d w=>Z4 P i [d] w fun e w=>X1 e (K b w) (Q3 P .add T.e (.tmp 8) (.const (.int .i64 1)) b (.int .i64 1) w fun f w=>a f w)) (K (.int .i64 (-1)) w)
theorem Yl {a b:Value} {w:World} {K:Value→World→Prop} (h:I1 a b w K):Q1 P F.a7 [a,b] w K:=Q9 Zb Tryz.func212 rfl (by decide) (by kernel_rfl) h
def B4 (a c:Value) (w:World) (K:Value→World→Prop):Prop:= Q1 P F.a7 [a,c] w fun d w=>Q3 P .geq T.e (.tmp 7) (.const (.int .i64 0)) d (.int .i64 0) w fun b w=>K b w
theorem Xg {a b:Value} {w:World} {K:Value→World→Prop} (h:B4 a b w K):Q1 P F.m [a,b] w K:=Q9 (List.replicate 2 none) Tryz.func198 rfl (by decide) (by kernel_rfl) h
def Jd (b f:Value) (w:World) (K:Value→World→Prop):Prop:= box P T.t b w fun a w=>Q2 P T.ah f w fun c w=>Q2 P T.t a w fun d w=>Z4 P c [d] w fun e w=>J8 P .not e w fun g w=>K g w
theorem Rl {a b:Value} {w:World} {K:Value→World→Prop} (h:Jd a b w K):Q1 P F.c0 [a,b] w K:=Q9 (List.replicate 2 none) Tryz.func199 rfl (by decide) (by kernel_rfl) h
def Vg (b e:Value) (w:World) (K:Value→World→Prop):Prop:= box P T.ah e w fun a w=>H1 P (.func F.c0) [] [a] w fun d w=>Q1 P F.m [b,d] w fun f w=>J8 P .not f w fun c w=>K c w
theorem Bc {a b:Value} {w:World} {K:Value→World→Prop} (h:Vg a b w K):Q1 P F.aw [a,b] w K:=Q9 (List.replicate 2 none) Tryz.func175 rfl (by decide) (by kernel_rfl) h
def Gm (a0:Value) (w:World) (K:Value→World→Prop):Prop:= box P T.d a0 w fun c w=>fieldAddr P T.d c 0 w fun t5 w=>Q2 P T.c t5 w fun t6 w=>Q1 P F.bU [t6] w fun t7 w=>J8 P .not t7 w fun i w=>Q0 i false w (fieldAddr P T.d c 1) fun ah w=>Q0 i false w (Q2 P T.h ah) fun Z w=>Q0 i false w (Q1 P F.aa [Z,(.func (.func F.a0) #[] #[])]) fun E w=>Q0 i false w (J8 P .not E) fun y w=>pick P i (.bool true) y w fun b w=>Q0 b false w (fieldAddr P T.d c 2) fun ag w=>Q0 b false w (Q2 P T.c ag) fun q w=>Q0 b false w (Q3 P .neq T.c (.tmp 17) (.const (.string ⟨#[]⟩)) q (.string ⟨#[]⟩)) fun Q w=>Q0 b false w (fun w J=>J Q w) fun g w=>Q0 g true w (fieldAddr P T.d c 2) fun aa w=>Q0 g true w (Q2 P T.c aa) fun U w=>Q0 g true w (Q1 P F.a0 [U]) fun u w=>Q0 g true w (J8 P .not u) fun z w=>Q0 b false w (pick P g z (.bool false)) fun ac w=>pick P b (.bool true) ac w fun ai w=>X1 ai (K (.bool false) w) (fieldAddr P T.d c 3 w fun p w=>Q2 P T.u p w fun D w=>X1 D (fieldAddr P T.d c 4 w fun V w=>Q2 P T.e V w fun O w=>Q3 P .eql T.e (.tmp 29) (.const (.int .i64 0)) O (.int .i64 0) w fun e w=>Q0 e true w (fieldAddr P T.d c 5) fun W w=>Q0 e true w (Q2 P T.q W) fun ad w=>Q0 e true w (X2 P .len [T.q] T.e [false] [ad]) fun H w=>Q0 e true w (Q3 P .eql T.e (.tmp 34) (.const (.int .i64 0)) H (.int .i64 0)) fun r w=>pick P e r (.bool false) w fun f w=>Q0 f true w (fieldAddr P T.d c 6) fun af w=>Q0 f true w (Q2 P T.s af) fun C w=>Q0 f true w (X2 P .len [T.s] T.e [false] [C]) fun m w=>Q0 f true w (Q3 P .eql T.e (.tmp 40) (.const (.int .i64 0)) m (.int .i64 0)) fun ae w=>pick P f ae (.bool false) w fun k w=>K k w) (fieldAddr P T.d c 5 w fun N w=>Q2 P T.q N w fun L w=>X2 P .len [T.q] T.e [false] [L] w fun Y w=>V6 P T.e w fun A w=>X9 P T.e A Y w fun _u w=>H1 P (.func F.bh) [] [A] w fun aj w=>Q2 P T.e A w fun R w=>Q3 P .gtr T.e (.tmp 47) (.const (.int .i64 0)) R (.int .i64 0) w fun a w=>Q0 a true w (fieldAddr P T.d c 4) fun ab w=>Q0 a true w (Q2 P T.e ab) fun o w=>Q0 a true w (fieldAddr P T.d c 1) fun l w=>Q0 a true w (Q2 P T.h l) fun j w=>Q0 a true w (X2 P .len [T.h] T.e [false] [j]) fun X w=>Q0 a true w (Q3 P .gtr T.e (.tmp 51) (.tmp 54) o X) fun n w=>pick P a n (.bool false) w fun h w=>Q0 h true w (fieldAddr P T.d c 5) fun B w=>Q0 h true w (Q2 P T.q B) fun M w=>Q0 h true w (Q1 P F.av [M,(.func (.func F.bi) #[] #[])]) fun s w=>pick P h s (.bool false) w fun d w=>Q0 d true w (fieldAddr P T.d c 6) fun v w=>Q0 d true w (Q2 P T.s v) fun ak w=>Q0 d true w (fun w J=>J aj w) fun am w=>Q0 d true w (Q1 P F.aw [ak,am]) fun t w=>pick P d t (.bool false) w fun al w=>K al w))
theorem Q3V {a:Value} {w:World} {K:Value→World→Prop} (h:Gm a w K):Q1 P F.ba [a] w K:=Q9 (List.replicate 10 none) Tryz.func135 rfl (by decide) (by kernel_rfl) h
def Tp (a0:Value) (w:World) (K:Value→World→Prop):Prop:= box P T.b a0 w fun b w=>fieldAddr P T.b b 0 w fun t7 w=>Q2 P T.c t7 w fun t8 w=>fieldAddr P T.b b 1 w fun t9 w=>Q2 P T.c t9 w fun aj w=>buildSlice P T.h 2 [(0,t8),(1,aj)] w fun a7 w=>fieldAddr P T.b b 2 w fun a1 w=>Q2 P T.h a1 w fun aw w=>X2 P .append [T.h,T.h] T.h [false,false] [a7,aw] w fun s w=>dr w fun o u=>Q5 o (fun n=> ∀w,u w→S4 P T.h s (some (.int .i64 1)) none none w (dk o n w)) fun n=>Q5 o (fun j=> ∀w,u w→fieldAddr P T.b b 0 w (dk o j w)) fun j=>Q5 o (fun l=> ∀g w,u w→j g w→Q2 P T.c g w (dk o l w)) fun l=>∀t g q w,u w→n t w→j g w→l q w→ Q1 P F.ag [t,q] w fun V w=>fieldAddr P T.b b 7 w fun a5 w=>Q2 P T.j a5 w fun ae w=>Q1 P F.a [ae,(.func (.func F.cn) #[] #[])] w fun N w=>fieldAddr P T.b b 7 w fun ax w=>Q2 P T.j ax w fun a9 w=>Q1 P F.a [a9,(.func (.func F.co) #[] #[])] w fun ai w=>Q1 P F.aa [s,(.func (.func F.ak) #[] #[])] w fun af w=>J8 P .not af w fun p w=>Q0 p false w (fun w J=>J V w) fun ao w=>pick P p (.bool true) ao w fun e w=>Q0 e false w (fieldAddr P T.b b 2) fun aa w=>Q0 e false w (Q2 P T.h aa) fun ap w=>Q0 e false w (Q1 P F.aU [ap,(.func (.func F.cp) #[] #[])]) fun R w=>Q0 e false w (J8 P .not R) fun ak w=>pick P e (.bool true) ak w fun bb w=>X1 bb (K (.bool false) w) (fieldAddr P T.b b 3 w fun C w=>Q2 P T.u C w fun a w=>Q0 a true w (fieldAddr P T.b b 4) fun a2 w=>Q0 a true w (Q2 P T.u a2) fun ab w=>Q0 a true w (J8 P .not ab) fun a4 w=>Q0 a true w (fun w J=>J a4 w) fun f w=>Q0 f false w (fieldAddr P T.b b 1) fun ad w=>Q0 f false w (Q2 P T.c ad) fun Y w=>Q0 f false w (Q3 P .neq T.c (.tmp 48) (.const (.string ⟨#[79,98,106,101,99,116]⟩)) Y (.string ⟨#[79,98,106,101,99,116]⟩)) fun a6 w=>Q0 a true w (pick P f (.bool true) a6) fun al w=>Q0 a true w (fun w J=>J al w) fun d w=>Q0 d false w (fieldAddr P T.b b 6) fun B w=>Q0 d false w (Q2 P T.k B) fun y w=>Q0 d false w (X2 P .len [T.k] T.e [false] [y]) fun ah w=>Q0 d false w (Q3 P .gtr T.e (.tmp 54) (.const (.int .i64 0)) ah (.int .i64 0)) fun D w=>Q0 a true w (pick P d (.bool true) D) fun ay w=>Q0 a true w (fun w J=>J ay w) fun r w=>Q0 r false w (fun w J=>J ai w) fun X w=>Q0 a true w (pick P r (.bool true) X) fun ac w=>pick P a ac (.bool false) w fun L w=>X1 L (K (.bool false) w) (fieldAddr P T.b b 4 w fun H w=>Q2 P T.u H w fun m w=>Q0 m true w (fieldAddr P T.b b 5) fun bd w=>Q0 m true w (Q2 P T.u bd) fun M w=>pick P m M (.bool false) w fun k w=>Q0 k false w (fun w J=>J N w) fun ar w=>Q0 k false w (fun w J=>J ar w) fun i w=>Q0 i true w (fieldAddr P T.b b 4) fun E w=>Q0 i true w (Q2 P T.u E) fun U w=>Q0 i true w (J8 P .not U) fun ag w=>Q0 k false w (pick P i ag (.bool false)) fun bc w=>pick P k (.bool true) bc w fun ba w=>X1 ba (K (.bool false) w) (fieldAddr P T.b b 6 w fun z w=>Q2 P T.k z w fun Q w=>Q1 P F.aE [Q,(.func (.func F.cq) #[] #[])] w fun am w=>J8 P .not am w fun c w=>Q0 c false w (fieldAddr P T.b b 7) fun az w=>Q0 c false w (Q2 P T.j az) fun aq w=>Q0 c false w (Q1 P F.aq [aq,(.func (.func F.cr) #[] #[])]) fun v w=>Q0 c false w (J8 P .not v) fun O w=>pick P c (.bool true) O w fun Z w=>X1 Z (K (.bool false) w) (fieldAddr P T.b b 6 w fun A w=>Q2 P T.k A w fun a8 w=>Q1 P F.ar [a8,(.func (.func F.bx) #[] #[])] w fun h w=>Q0 h true w (fieldAddr P T.b b 7) fun av w=>Q0 h true w (Q2 P T.j av) fun W w=>Q0 h true w (Q1 P F.an [W,(.func (.func F.ba) #[] #[])]) fun a3 w=>pick P h a3 (.bool false) w fun an w=>K an w))))
theorem Q4X {a:Value} {w:World} {K:Value→World→Prop} (h:Tp a w K):Q1 P F.cA [a] w K:=Q9 (List.replicate 15 none) Tryz.func78 rfl (by decide) (by kernel_rfl) h
def Tv (b:Value) (w:World) (K:Value→World→Prop):Prop:= box P T.b b w fun a w=>Q2 P T.b a w fun c w=>Q1 P F.cG [c] w fun e w=>X1 e (K (.int .i64 51) w) (Q2 P T.b a w fun g w=>Q1 P F.cA [g] w fun f w=>J8 P .not f w fun d w=>X1 d (K (.int .i64 50) w) (K (.int .i64 0) w))
theorem Q4Y {a:Value} {w:World} {K:Value→World→Prop} (h:Tv a w K):Q1 P F.cy [a] w K:=Q9 (List.replicate 7 none) Tryz.func42 rfl (by decide) (by kernel_rfl) h
def Qo (a:Value) (w:World) (K:Value→World→Prop):Prop:= Q3 P .eql T.h (.tmp 3) (.const (.slice none 0 0)) a (.slice none 0 0) w fun b w=>X1 b (K (.slice none 0 0) w) (buildSlice P T.h 0 [] w fun c w=>X2 P .append [T.h,T.h] T.h [false,false] [c,a] w fun d w=>K d w)
theorem Mh {a:Value} {w:World} {K:Value→World→Prop} (h:Qo a w K):Q1 P F.a8 [a] w K:=Q9 (List.replicate 5 none) Tryz.func79 rfl (by decide) (by kernel_rfl) h
def P1 (a:Value) (w:World) (K:Value→World→Prop):Prop:= Q3 P .eql T.k (.tmp 3) (.const (.slice none 0 0)) a (.slice none 0 0) w fun b w=>X1 b (K (.slice none 0 0) w) (buildSlice P T.k 0 [] w fun c w=>X2 P .append [T.k,T.k] T.k [false,false] [c,a] w fun d w=>K d w)
theorem Jv {a:Value} {w:World} {K:Value→World→Prop} (h:P1 a w K):Q1 P F.ad [a] w K:=Q9 (List.replicate 5 none) Tryz.func80 rfl (by decide) (by kernel_rfl) h
def K7 (a:Value) (w:World) (K:Value→World→Prop):Prop:= Q3 P .eql T.q (.tmp 3) (.const (.slice none 0 0)) a (.slice none 0 0) w fun b w=>X1 b (K (.slice none 0 0) w) (buildSlice P T.q 0 [] w fun c w=>X2 P .append [T.q,T.q] T.q [false,false] [c,a] w fun d w=>K d w)
theorem Ue {a:Value} {w:World} {K:Value→World→Prop} (h:K7 a w K):Q1 P F.ae [a] w K:=Q9 (List.replicate 5 none) Tryz.func136 rfl (by decide) (by kernel_rfl) h
def P0 (a:Value) (w:World) (K:Value→World→Prop):Prop:= Q3 P .eql T.s (.tmp 3) (.const (.slice none 0 0)) a (.slice none 0 0) w fun b w=>X1 b (K (.slice none 0 0) w) (buildSlice P T.s 0 [] w fun c w=>X2 P .append [T.s,T.s] T.s [false,false] [c,a] w fun d w=>K d w)
theorem Ul {a:Value} {w:World} {K:Value→World→Prop} (h:P0 a w K):Q1 P F.af [a] w K:=Q9 (List.replicate 5 none) Tryz.func137 rfl (by decide) (by kernel_rfl) h
def Tw (D:Value) (w:World) (K:Value→World→Prop):Prop:= box P T.d D w fun a w=>V6 P T.d w fun C w=>dr w fun b c=>Q5 b (fun m=> ∀w,c w→fieldAddr P T.d a 1 w (dk b m w)) fun m=>Q5 b (fun p=> ∀w,c w→fieldAddr P T.d a 5 w (dk b p w)) fun p=>Q5 b (fun r=> ∀w,c w→fieldAddr P T.d a 6 w (dk b r w)) fun r=>Q5 b (fun q=> ∀n w,c w→m n w→Q2 P T.h n w (dk b q w)) fun q=>Q5 b (fun u=> ∀j w,c w→q j w→Q1 P F.a8 [j] w (dk b u w)) fun u=>Q5 b (fun l=> ∀o w,c w→p o w→Q2 P T.q o w (dk b l w)) fun l=>Q5 b (fun z=> ∀s w,c w→l s w→Q1 P F.ae [s] w (dk b z w)) fun z=>Q5 b (fun d=> ∀k w,c w→r k w→Q2 P T.s k w (dk b d w)) fun d=>Q5 b (fun g=> ∀w,c w→fieldAddr P T.d a 1 w (dk b g w)) fun g=>Q5 b (fun f=> ∀e w,c w→d e w→Q1 P F.af [e] w (dk b f w)) fun f=>∀n o k j A s B e h i w,c w→m n w→p o w→r k w→q j w→u A w→l s w→z B w→d e w→g h w→f i w→ X9 P T.h h A w fun _u w=>fieldAddr P T.d a 5 w fun v w=>X9 P T.q v B w fun _u w=>fieldAddr P T.d a 6 w fun y w=>X9 P T.s y i w fun _u w=>Q2 P T.d a w fun t w=>X9 P T.d C t w fun _u w=>Y7 P T.d C w fun E=>K E w
theorem Q52 {a:Value} {w:World} {K:Value→World→Prop} (h:Tw a w K):Q1 P F.c8 [a] w K:=Q9 (List.replicate 3 none) Tryz.func81 rfl (by decide) (by kernel_rfl) h
def Q55:V8:=[none,none,none,none,none,some ([3,17],[3,5,17,18,19,20,21,22,23,24,25,26]),none,none,none,none,none,none]
def To (Q:Value) (w:World) (K:Value→World→Prop):Prop:= box P T.b Q w fun a w=>V6 P T.b w fun O w=>dr w fun b g=>Q5 b (fun q=> ∀w,g w→fieldAddr P T.b a 2 w (dk b q w)) fun q=>Q5 b (fun r=> ∀w,g w→fieldAddr P T.b a 6 w (dk b r w)) fun r=>Q5 b (fun o=> ∀p w,g w→q p w→Q2 P T.h p w (dk b o w)) fun o=>Q5 b (fun J=> ∀s w,g w→o s w→Q1 P F.a8 [s] w (dk b J w)) fun J=>Q5 b (fun e=> ∀n w,g w→r n w→Q2 P T.k n w (dk b e w)) fun e=>Q5 b (fun i=> ∀w,g w→fieldAddr P T.b a 2 w (dk b i w)) fun i=>Q5 b (fun h=> ∀f w,g w→e f w→Q1 P F.ad [f] w (dk b h w)) fun h=>∀p n s N f l m w,g w→q p w→r n w→o s w→J N w→e f w→i l w→h m w→ X9 P T.h l N w fun _u w=>fieldAddr P T.b a 6 w fun y w=>X9 P T.k y m w fun _u w=>fieldAddr P T.b a 7 w fun A w=>Q2 P T.j A w fun j w=>X2 P .len [T.j] T.e [false] [j] w fun L w=>lp (α:=Value×Value) ((.slice none 0 0),(.int .i64 0)) w fun d k U w=>Q3 P .lss T.e (.tmp 17) (.tmp 16) k.2 L w fun C w=>X1 C (indexAddr P T.j j k.2 w fun v w=>Q2 P T.d v w fun E w=>V6 P T.d w fun c w=>X9 P T.d c E w fun _u w=>Q2 P T.d c w fun u w=>Q1 P F.c8 [u] w fun z w=>buildSlice P T.j 1 [(0,z)] w fun H w=>X2 P .append [T.j,T.j] T.j [false,false] [k.1,H] w fun M w=>Q3 P .add T.e (.tmp 17) (.const (.int .i64 1)) k.2 (.int .i64 1) w fun t w=>d (M,t) w) (fieldAddr P T.b a 7 w fun D w=>X9 P T.j D k.1 w fun _u w=>Q2 P T.b a w fun B w=>X9 P T.b O B w fun _u w=>Y7 P T.b O w fun R=>K R w)
theorem Q57 {a:Value} {w:World} {K:Value→World→Prop} (h:To a w K):Q1 P F.cz [a] w K:=Q9 Q55 Tryz.func43 rfl (by decide) (by kernel_rfl) h
def Uh (e h:Value) (w:World) (K:Value→World→Prop):Prop:= nilCheck P e w fun f w=>fieldAddr P T.a0 f 1 w fun d w=>Q2 P T.a2 d w fun b w=>lookup P T.a2 b h true w fun a w=>ext P a 0 w fun g w=>ext P a 1 w fun c w=>K c w
theorem Eh {a b:Value} {w:World} {K:Value→World→Prop} (h:Uh a b w K):Q1 P F.j [a,b] w K:=Q9 (List.replicate 3 none) Tryz.func44 rfl (by decide) (by kernel_rfl) h
def Mj (s u:Value) (w:World) (K:Value→World→Prop):Prop:= V6 P T.b w fun r w=>dr w fun a h=>Q5 a (fun m=> ∀w,h w→nilCheck P s w (dk a m w)) fun m=>Q5 a (fun k=> ∀l w,h w→m l w→fieldAddr P T.a0 l 0 w (dk a k w)) fun k=>Q5 a (fun c=> ∀w,h w→nilCheck P s w (dk a c w)) fun c=>Q5 a (fun b=> ∀g w,h w→c g w→fieldAddr P T.a0 g 1 w (dk a b w)) fun b=>Q5 a (fun p=> ∀n w,h w→k n w→Q2 P T.i n w (dk a p w)) fun p=>Q5 a (fun e=> ∀f w,h w→b f w→Q2 P T.a2 f w (dk a e w)) fun e=>Q5 a (fun i=> ∀d w,h w→e d w→lookup P T.a2 d u false w (dk a i w)) fun i=>∀l n g f t d j w,h w→m l w→k n w→c g w→b f w→p t w→e d w→i j w→ indexAddr P T.i t j w fun o w=>Q2 P T.b o w fun q w=>X9 P T.b r q w fun _u w=>Y7 P T.b r w fun v=>K v w
theorem Pi {a b:Value} {w:World} {K:Value→World→Prop} (h:Mj a b w K):Q1 P F.h [a,b] w K:=Q9 (List.replicate 2 none) Tryz.func82 rfl (by decide) (by kernel_rfl) h
def Gt:V8:=[none,none,none,none,none,none,some ([29],[4,6,29,30,31,32,33,34,35,36,37,38,39,40,41,42,43,44]),none,none,none,none,none,none,none]
def Lm (f Q:Value) (w:World) (K:Value→World→Prop):Prop:= box P T.b Q w fun a w=>fieldAddr P T.b a 1 w fun R w=>Q2 P T.c R w fun O w=>Q1 P F.j [f,O] w fun M w=>J8 P .not M w fun d w=>Q0 d false w (fun w J=>J f w) fun s w=>Q0 d false w (fieldAddr P T.b a 1) fun v w=>Q0 d false w (Q2 P T.c v) fun k w=>Q0 d false w (Q1 P F.h [s,k]) fun L w=>Q0 d false w (B7 P T.b L 3) fun o w=>pick P d (.bool true) o w fun c w=>Q0 c false w (fun w J=>J f w) fun C w=>Q0 c false w (fieldAddr P T.b a 1) fun A w=>Q0 c false w (Q2 P T.c A) fun r w=>Q0 c false w (Q1 P F.h [C,r]) fun t w=>Q0 c false w (B7 P T.b t 5) fun D w=>pick P c (.bool true) D w fun N w=>X1 N (K (.int .i64 61) w) (fieldAddr P T.b a 2 w fun n w=>Q2 P T.h n w fun g w=>X2 P .len [T.h] T.e [false] [g] w fun B w=>lp (α:=Value) (.int .i64 0) w fun e q U w=>Q3 P .lss T.e (.tmp 29) (.tmp 28) q B w fun l w=>X1 l (indexAddr P T.h g q w fun m w=>Q2 P T.c m w fun h w=>Q1 P F.j [f,h] w fun p w=>J8 P .not p w fun b w=>Q0 b false w (fun w J=>J f w) fun H w=>Q0 b false w (fun w J=>J h w) fun u w=>Q0 b false w (Q1 P F.h [H,u]) fun j w=>Q0 b false w (B7 P T.b j 3) fun E w=>Q0 b false w (J8 P .not E) fun i w=>pick P b (.bool true) i w fun z w=>X1 z (K (.int .i64 62) w) (Q3 P .add T.e (.tmp 29) (.const (.int .i64 1)) q (.int .i64 1) w fun y w=>e y w)) (K (.int .i64 0) w))
theorem Gf {a b:Value} {w:World} {K:Value→World→Prop} (h:Lm a b w K):Q1 P F.bb [a,b] w K:=Q9 Gt Tryz.func45 rfl (by decide) (by kernel_rfl) h
def Yu:V8:=[none,none,none,some ([8],[4,5,8,9,10,11,12,13,14,15,16,17,18]),none,none,none,none,none,none,none]
def G1 (g i:Value) (w:World) (K:Value→World→Prop):Prop:= X2 P .len [T.i] T.e [false] [g] w fun j w=>lp (α:=Value) (.int .i64 0) w fun a b k w=>Q3 P .lss T.e (.tmp 8) (.tmp 7) b j w fun h w=>X1 h (indexAddr P T.i g b w fun c w=>Q2 P T.b c w fun d w=>Z4 P i [d] w fun e w=>X1 e (K b w) (Q3 P .add T.e (.tmp 8) (.const (.int .i64 1)) b (.int .i64 1) w fun f w=>a f w)) (K (.int .i64 (-1)) w)
theorem Yw {a b:Value} {w:World} {K:Value→World→Prop} (h:G1 a b w K):Q1 P F.o [a,b] w K:=Q9 Yu Tryz.func46 rfl (by decide) (by kernel_rfl) h
def Kx:V8:=[none,none,none,some ([7],[6,7,9,10,11,12,16,17,18,19,20,21,22,23,24,25,26,27,28,29,30,31,32,33,34,35,36,37,38,39,40,41,42,43,44,45,46,47,48,49,50,51,52]),none,none,none,none,none,none,none,none,none,none,none,none,none]
def Nv (R U W:Value) (w:World) (K:Value→World→Prop):Prop:= buildSlice P T.h 1 [(0,U)] w fun B w=>Pt P T.a2 none w fun q w=>lp (α:=Value) B w fun b L X w=>X2 P .len [T.h] T.e [false] [L] w fun y w=>Q3 P .gtr T.e (.tmp 17) (.const (.int .i64 0)) y (.int .i64 0) w fun H w=>X1 H (indexAddr P T.h L (.int .i64 0) w fun N w=>Q2 P T.c N w fun j w=>S4 P T.h L (some (.int .i64 1)) none none w fun s w=>lookup P T.a2 q j true w fun t w=>ext P t 0 w fun V w=>ext P t 1 w fun d w=>Q0 d false w (fun w J=>J R w) fun M w=>Q0 d false w (fun w J=>J j w) fun O w=>Q0 d false w (Q1 P F.j [M,O]) fun C w=>Q0 d false w (J8 P .not C) fun z w=>pick P d (.bool true) z w fun A w=>X1 A (b s w) (mapUpdate P T.a2 q j (.int .i64 1) w fun _u w=>Q1 P F.h [R,j] w fun Q w=>V6 P T.b w fun a w=>X9 P T.b a Q w fun _u w=>Q2 P T.b a w fun E w=>Z4 P W [E] w fun D w=>X1 D (K (.bool true) w) (dr w fun c n=>Q5 c (fun k=> ∀w,n w→fieldAddr P T.b a 1 w (dk c k w)) fun k=>Q5 c (fun f=> ∀w,n w→fieldAddr P T.b a 2 w (dk c f w)) fun f=>Q5 c (fun e=> ∀l w,n w→k l w→Q2 P T.c l w (dk c e w)) fun e=>Q5 c (fun h=> ∀i w,n w→e i w→buildSlice P T.h 1 [(0,i)] w (dk c h w)) fun h=>Q5 c (fun p=> ∀g w,n w→h g w→X2 P .append [T.h,T.h] T.h [false,false] [s,g] w (dk c p w)) fun p=>Q5 c (fun o=> ∀m w,n w→f m w→Q2 P T.h m w (dk c o w)) fun o=>∀l m i g u r w,n w→k l w→f m w→e i w→h g w→p u w→o r w→ X2 P .append [T.h,T.h] T.h [false,false] [u,r] w fun v w=>b v w))) (K (.bool false) w)
theorem Kw {a b c:Value} {w:World} {K:Value→World→Prop} (h:Nv a b c w K):Q1 P F.x [a,b,c] w K:=Q9 Kx Tryz.func84 rfl (by decide) (by kernel_rfl) h
def Ub (b g:Value) (w:World) (K:Value→World→Prop):Prop:= box P T.b b w fun a w=>fieldAddr P T.b a 0 w fun c w=>Q2 P T.c c w fun e w=>fieldAddr P T.b g 0 w fun f w=>Q2 P T.c f w fun h w=>Q3 P .eql T.c (.tmp 5) (.tmp 7) e h w fun d w=>K d w
theorem Ci {a b:Value} {w:World} {K:Value→World→Prop} (h:Ub a b w K):Q1 P F.c9 [a,b] w K:=Q9 (List.replicate 2 none) Tryz.func85 rfl (by decide) (by kernel_rfl) h
def Vz (a d f:Value) (w:World) (K:Value→World→Prop):Prop:= Q2 P T.r d w fun c w=>H1 P (.func F.c9) [] [f] w fun e w=>Q1 P F.x [c,a,e] w fun b w=>K b w
theorem Fh {a b c:Value} {w:World} {K:Value→World→Prop} (h:Vz a b c w K):Q1 P F.b8 [a,b,c] w K:=Q9 (List.replicate 2 none) Tryz.func83 rfl (by decide) (by kernel_rfl) h
def Mk (j l:Value) (w:World) (K:Value→World→Prop):Prop:= box P T.r j w fun c w=>box P T.b l w fun a w=>H1 P (.func F.b8) [] [c,a] w fun i w=>fieldAddr P T.b a 1 w fun m w=>Q2 P T.c m w fun k w=>Z4 P i [k] w fun b w=>Q0 b false w (fieldAddr P T.b a 2) fun d w=>Q0 b false w (Q2 P T.h d) fun h w=>Q0 b false w (fun w J=>J i w) fun e w=>Q0 b false w (Q1 P F.c [h,e]) fun f w=>pick P b (.bool true) f w fun g w=>K g w
theorem Pe {a b:Value} {w:World} {K:Value→World→Prop} (h:Mk a b w K):Q1 P F.bj [a,b] w K:=Q9 (List.replicate 3 none) Tryz.func47 rfl (by decide) (by kernel_rfl) h
def Ry:V8:=[none,none,none,some ([8],[4,5,8,9,10,11,12,13,14,15,16,17,18]),none,none,none,none,none,none,none]
def Ua (g i:Value) (w:World) (K:Value→World→Prop):Prop:= X2 P .len [T.a7] T.e [false] [g] w fun j w=>lp (α:=Value) (.int .i64 0) w fun a b k w=>Q3 P .lss T.e (.tmp 8) (.tmp 7) b j w fun h w=>X1 h (indexAddr P T.a7 g b w fun c w=>Q2 P T.e c w fun d w=>Q3 P .eql T.e (.tmp 11) (.tmp 15) i d w fun e w=>X1 e (K b w) (Q3 P .add T.e (.tmp 8) (.const (.int .i64 1)) b (.int .i64 1) w fun f w=>a f w)) (K (.int .i64 (-1)) w)
theorem Ch {a b:Value} {w:World} {K:Value→World→Prop} (h:Ua a b w K):Q1 P F.ca [a,b] w K:=Q9 Ry Tryz.func139 rfl (by decide) (by kernel_rfl) h
def Yf (a c:Value) (w:World) (K:Value→World→Prop):Prop:= Q1 P F.ca [a,c] w fun d w=>Q3 P .geq T.e (.tmp 7) (.const (.int .i64 0)) d (.int .i64 0) w fun b w=>K b w
theorem Hc {a b:Value} {w:World} {K:Value→World→Prop} (h:Yf a b w K):Q1 P F.aH [a,b] w K:=Q9 (List.replicate 2 none) Tryz.func88 rfl (by decide) (by kernel_rfl) h
def By:V8:=[none,none,none,none,some ([35],[7,35,36,37,38,39,40,41,42,43,44,45,46,47]),none,none,none,none]
def Qz (a0 a1 a2 a3 a4:Value) (w:World) (K:Value→World→Prop):Prop:= Q2 P T.e a1 w fun t9 w=>Q3 P .lss T.e (.tmp 8) (.tmp 9) a0 t9 w fun R w=>Q0 R false w (Q2 P T.a7 a2) fun am w=>Q0 R false w (fun w J=>J a0 w) fun ak w=>Q0 R false w (Q1 P F.aH [am,ak]) fun an w=>pick P R (.bool true) an w fun ag w=>X1 ag (K (.tuple #[]) w) (dr w fun a b=>Q5 a (fun D=> ∀w,b w→Q2 P T.r a3 w (dk a D w)) fun D=>Q5 a (fun O=> ∀U w,b w→D U w→nilCheck P U w (dk a O w)) fun O=>Q5 a (fun i=> ∀r w,b w→O r w→fieldAddr P T.a0 r 0 w (dk a i w)) fun i=>Q5 a (fun l=> ∀L w,b w→i L w→Q2 P T.i L w (dk a l w)) fun l=>Q5 a (fun g=> ∀u w,b w→l u w→indexAddr P T.i u a0 w (dk a g w)) fun g=>Q5 a (fun d=> ∀M w,b w→g M w→fieldAddr P T.b M 1 w (dk a d w)) fun d=>Q5 a (fun C=> ∀t w,b w→d t w→Q2 P T.c t w (dk a C w)) fun C=>Q5 a (fun Y=> ∀v w,b w→C v w→buildSlice P T.h 1 [(0,v)] w (dk a Y w)) fun Y=>Q5 a (fun E=> ∀w,b w→Q2 P T.r a3 w (dk a E w)) fun E=>Q5 a (fun e=> ∀V w,b w→E V w→nilCheck P V w (dk a e w)) fun e=>Q5 a (fun A=> ∀o w,b w→e o w→fieldAddr P T.a0 o 0 w (dk a A w)) fun A=>Q5 a (fun s=> ∀z w,b w→A z w→Q2 P T.i z w (dk a s w)) fun s=>Q5 a (fun B=> ∀N w,b w→s N w→indexAddr P T.i N a0 w (dk a B w)) fun B=>Q5 a (fun p=> ∀m w,b w→B m w→fieldAddr P T.b m 2 w (dk a p w)) fun p=>Q5 a (fun W=> ∀n w,b w→p n w→Q2 P T.h n w (dk a W w)) fun W=>∀U r L u M t v ae V o z N m n ac w,b w→D U w→O r w→i L w→l u w→g M w→d t w→C v w→Y ae w→E V w→e o w→A z w→s N w→B m w→p n w→W ac w→ X2 P .append [T.h,T.h] T.h [false,false] [ae,ac] w fun af w=>X2 P .len [T.h] T.e [false] [af] w fun ao w=>lp (α:=Value) (.int .i64 0) w fun y x4 d_ w=>Q3 P .lss T.e (.tmp 35) (.tmp 34) x4 ao w fun ai w=>X1 ai (indexAddr P T.h af x4 w fun aq w=>Q2 P T.c aq w fun ar w=>dr w fun a b=>Q5 a (fun X=> ∀w,b w→Q2 P T.ak a4 w (dk a X w)) fun X=>Q5 a (fun c=> ∀w,b w→Q2 P T.r a3 w (dk a c w)) fun c=>Q5 a (fun q=> ∀j w,b w→c j w→nilCheck P j w (dk a q w)) fun q=>Q5 a (fun k=> ∀Q w,b w→q Q w→fieldAddr P T.a0 Q 1 w (dk a k w)) fun k=>Q5 a (fun h=> ∀f w,b w→k f w→Q2 P T.a2 f w (dk a h w)) fun h=>Q5 a (fun Z=> ∀H w,b w→h H w→lookup P T.a2 H ar false w (dk a Z w)) fun Z=>∀ab j Q f H ad w,b w→X ab w→c j w→q Q w→k f w→h H w→Z ad w→ Z4 P ab [ad] w fun a6 w=>Q3 P .add T.e (.tmp 35) (.const (.int .i64 1)) x4 (.int .i64 1) w fun ap w=>y ap w) (Q2 P T.a7 a2 w fun al w=>buildSlice P T.a7 1 [(0,a0)] w fun aw w=>X2 P .append [T.a7,T.a7] T.a7 [false,false] [al,aw] w fun ah w=>X9 P T.a7 a2 ah w fun _u w=>K (.tuple #[]) w))
theorem Vt {a d e c b:Value} {w:World} {K:Value→World→Prop} (h:Qz a d e c b w K):Q1 P F.z [a,d,e,c,b] w K:=Q9 By Tryz.func87 rfl (by decide) (by kernel_rfl) h
def Pd:V8:=[none,none,none,none,none,none,some ([7],[7,10,11,12,13,14,15,16,17,18,19,20,21]),none,none,none,none]
def Mt (r q:Value) (w:World) (K:Value→World→Prop):Prop:= box P T.r r w fun d w=>box P T.e q w fun b w=>V6 P T.a7 w fun c w=>V6 P T.ak w fun a w=>H1 P (.func F.z) [] [b,c,d,a] w fun s w=>X9 P T.ak a s w fun _u w=>Q2 P T.e b w fun p w=>lp (α:=Value) p w fun e g u w=>Q2 P T.r d w fun n w=>nilCheck P n w fun k w=>fieldAddr P T.a0 k 0 w fun j w=>Q2 P T.i j w fun l w=>X2 P .len [T.i] T.e [false] [l] w fun f w=>Q3 P .lss T.e (.tmp 10) (.tmp 15) g f w fun o w=>X1 o (Q2 P T.ak a w fun i w=>Z4 P i [g] w fun t w=>Q3 P .add T.e (.tmp 17) (.const (.int .i64 1)) g (.int .i64 1) w fun m w=>e m w) (Q2 P T.a7 c w fun h w=>K h w)
theorem Pc {a b:Value} {w:World} {K:Value→World→Prop} (h:Mt a b w K):Q1 P F.bk [a,b] w K:=Q9 Pd Tryz.func48 rfl (by decide) (by kernel_rfl) h
def Zr:V8:=[none,some ([2,3],[2,3,7,8,9,10,11,12,13,14,15,16,17,18,19,20,21,22,23,24,25,26,27]),none,none,none]
def I5 (j:Value) (w:World) (K:Value→World→Prop):Prop:= X2 P .len [T.i] T.e [false] [j] w fun s w=>Q3 P .sub T.e (.tmp 5) (.const (.int .i64 1)) s (.int .i64 1) w fun t w=>lp (α:=Value×Value) ((.int .i64 0),t) w fun e g u w=>Q3 P .lss T.e (.tmp 7) (.tmp 8) g.1 g.2 w fun r w=>X1 r (dr w fun f k=>Q5 f (fun a=> ∀w,k w→indexAddr P T.i j g.2 w (dk f a w)) fun a=>Q5 f (fun b=> ∀w,k w→indexAddr P T.i j g.1 w (dk f b w)) fun b=>Q5 f (fun h=> ∀c w,k w→a c w→Q2 P T.b c w (dk f h w)) fun h=>Q5 f (fun i=> ∀d w,k w→b d w→Q2 P T.b d w (dk f i w)) fun i=>∀c d l m w,k w→a c w→b d w→h l w→i m w→ indexAddr P T.i j g.1 w fun n w=>X9 P T.b n l w fun _u w=>indexAddr P T.i j g.2 w fun p w=>X9 P T.b p m w fun _u w=>Q3 P .add T.e (.tmp 10) (.const (.int .i64 1)) g.1 (.int .i64 1) w fun q w=>Q3 P .sub T.e (.tmp 12) (.const (.int .i64 1)) g.2 (.int .i64 1) w fun o w=>e (q,o) w) (K (.tuple #[]) w)
theorem Zs {a:Value} {w:World} {K:Value→World→Prop} (h:I5 a w K):Q1 P F.q [a] w K:=Q9 Zr Tryz.func117 rfl (by decide) (by kernel_rfl) h
def Q0k:V8:=[none,none,none,none,some ([5,6],[5,6,8,9,10,11,12,13,14,15,16,17,18,19,20]),none,none,none,none,none]
def Oi (c j:Value) (w:World) (K:Value→World→Prop):Prop:= lp (α:=Value×Value) ((.slice none 0 0),j) w fun a b l w=>Q1 P F.j [c,b.2] w fun g w=>X1 g (Q1 P F.h [c,b.2] w fun f w=>buildSlice P T.i 1 [(0,f)] w fun h w=>X2 P .append [T.i,T.i] T.i [false,false] [b.1,h] w fun d w=>Q1 P F.h [c,b.2] w fun i w=>B7 P T.b i 1 w fun e w=>a (d,e) w) (Q1 P F.q [b.1] w fun k w=>K b.1 w)
theorem Q0g {a b:Value} {w:World} {K:Value→World→Prop} (h:Oi a b w K):Q1 P F.aT [a,b] w K:=Q9 Q0k Tryz.func70 rfl (by decide) (by kernel_rfl) h
def Ia:V8:=[none,none,none,none,some ([5,12],[5,7,12,13,14,15,16,17,18,19,20]),none,none,none,none,none]
def Lc (m n:Value) (w:World) (K:Value→World→Prop):Prop:= Q1 P F.aT [m,n] w fun c w=>X2 P .len [T.i] T.e [false] [c] w fun e w=>lp (α:=Value×Value) ((.slice none 0 0),(.int .i64 0)) w fun b d o w=>Q3 P .lss T.e (.tmp 12) (.tmp 11) d.2 e w fun l w=>X1 l (indexAddr P T.i c d.2 w fun h w=>Q2 P T.b h w fun i w=>V6 P T.b w fun a w=>X9 P T.b a i w fun _u w=>fieldAddr P T.b a 6 w fun f w=>Q2 P T.k f w fun j w=>X2 P .append [T.k,T.k] T.k [false,false] [d.1,j] w fun k w=>Q3 P .add T.e (.tmp 12) (.const (.int .i64 1)) d.2 (.int .i64 1) w fun g w=>b (k,g) w) (K d.1 w)
theorem Gs {a b:Value} {w:World} {K:Value→World→Prop} (h:Lc a b w K):Q1 P F.a3 [a,b] w K:=Q9 Ia Tryz.func36 rfl (by decide) (by kernel_rfl) h
def Vu (b f:Value) (w:World) (K:Value→World→Prop):Prop:= box P T.o b w fun a w=>fieldAddr P T.o a 0 w fun c w=>Q2 P T.c c w fun d w=>Q2 P T.c f w fun e w=>Q3 P .eql T.c (.tmp 5) (.tmp 6) d e w fun g w=>K g w
theorem Fp {a b:Value} {w:World} {K:Value→World→Prop} (h:Vu a b w K):Q1 P F.ch [a,b] w K:=Q9 (List.replicate 2 none) Tryz.func141 rfl (by decide) (by kernel_rfl) h
def Mw (d f g:Value) (w:World) (K:Value→World→Prop):Prop:= box P T.c g w fun a w=>Q1 P F.a3 [d,f] w fun e w=>H1 P (.func F.ch) [] [a] w fun c w=>Q1 P F.i [e,c] w fun b w=>K b w
theorem Pn {a b c:Value} {w:World} {K:Value→World→Prop} (h:Mw a b c w K):Q1 P F.bm [a,b,c] w K:=Q9 (List.replicate 2 none) Tryz.func89 rfl (by decide) (by kernel_rfl) h
def Xd (a d:Value) (w:World) (K:Value→World→Prop):Prop:= nilCheck P a w fun e w=>indexAddr P T.ab e d w fun c w=>Q2 P T.u c w fun b w=>K b w
theorem Oe {a b:Value} {w:World} {K:Value→World→Prop} (h:Xd a b w K):Q1 P F.ay [a,b] w K:=Q9 (List.replicate 2 none) Tryz.func187 rfl (by decide) (by kernel_rfl) h
def Cq:V8:=[none,some ([0],[0,5,6,7,8,9,10,11,12,13,14,15,16,17,18,19,20]),some ([0],[0,5,6,7,8,9,10,11,12,13,14,15,16,17,18,19,20]),none,none,none,none,none]
def Js (n m:Value) (w:World) (K:Value→World→Prop):Prop:= jn (α:=Value) w (fun k w=>lp (α:=Value) n w fun a b l w=>X2 P .len [T.c] T.e [false] [b] w fun p w=>Q3 P .gtr T.e (.tmp 6) (.const (.int .i64 0)) p (.int .i64 0) w fun q w=>X1 q (X2 P .len [T.c] T.e [false] [b] w fun i w=>Q3 P .sub T.e (.tmp 11) (.const (.int .i64 1)) i (.int .i64 1) w fun f w=>C4 P T.c b f w fun e w=>Q1 P F.ay [m,e] w fun g w=>J8 P .not g w fun c w=>X1 c (k b w) (X2 P .len [T.c] T.e [false] [b] w fun h w=>Q3 P .sub T.e (.tmp 18) (.const (.int .i64 1)) h (.int .i64 1) w fun d w=>S4 P T.c b none (some d) none w fun j w=>a j w)) (k b w)) fun o l w=>K o w
theorem St {a b:Value} {w:World} {K:Value→World→Prop} (h:Js a b w K):Q1 P F.ao [a,b] w K:=Q9 Cq Tryz.func158 rfl (by decide) (by kernel_rfl) h
end Go.Proofs.YtjdiakhipmggjaaGreatDoor

set_option maxRecDepth 100000
namespace Go.Proofs.YtjdiakhipmggjaaGreatDoor
open Go.Emb
def Dc (d c:Value) (w:World) (K:Value→World→Prop):Prop:= Q3 P .eql T.c (.tmp 7) (.const (.string ⟨#[]⟩)) d (.string ⟨#[]⟩) w fun k w=>Q0 k false w (fun w J=>J c w) fun s w=>Q0 k false w (Q3 P .eql T.c (.tmp 10) (.const (.string ⟨#[]⟩)) s (.string ⟨#[]⟩)) fun o w=>pick P k (.bool true) o w fun j w=>X1 j (K d w) (X2 P .len [T.c] T.e [false] [c] w fun f w=>Q3 P .eql T.e (.tmp 15) (.const (.int .i64 1)) f (.int .i64 1) w fun b w=>Q0 b true w (fun w J=>J c w) fun m w=>Q0 b true w (C4 P T.c m (.int .i64 0)) fun i w=>Q0 b true w (Q3 P .lss T.a3 (.tmp 19) (.const (.int .u8 128)) i (.int .u8 128)) fun p w=>pick P b p (.bool false) w fun n w=>X1 n (C4 P T.c c (.int .i64 0) w fun q w=>Q1 P F.cT [d,q] w fun t w=>K t w) (Q1 P F.ci [c] w fun e w=>ext P e 0 w fun l w=>ext P e 1 w fun g w=>V6 P T.ab w fun a w=>X9 P T.ab a l w fun _u w=>X1 g (Q1 P F.ao [d,a] w fun r w=>K r w) (Q1 P F.cQ [d,c] w fun h w=>K h w)))
theorem Q09 {a b:Value} {w:World} {K:Value→World→Prop} (h:Dc a b w K):Q1 P F.bH [a,b] w K:=Q9 (List.replicate 12 none) Tryz.func116 rfl (by decide) (by kernel_rfl) h
def Om (l j:Value) (w:World) (K:Value→World→Prop):Prop:= Q3 P .eql T.c (.tmp 6) (.const (.string ⟨#[110,117,108,108]⟩)) j (.string ⟨#[110,117,108,108]⟩) w fun m w=>X1 m (K (.bool true) w) (Q1 P F.bH [j,(.string ⟨#[91,93]⟩)] w fun k w=>Q1 P F.a0 [j] w fun a w=>Q0 a true w (fun w J=>J k w) fun h w=>Q0 a true w (Q1 P F.aO [h]) fun e w=>Q0 a true w (fun w J=>J e w) fun b w=>Q0 b false w (fun w J=>J l w) fun f w=>Q0 b false w (fun w J=>J k w) fun c w=>Q0 b false w (Q1 P F.j [f,c]) fun g w=>Q0 a true w (pick P b (.bool true) g) fun i w=>pick P a i (.bool false) w fun d w=>K d w)
theorem Af {a b:Value} {w:World} {K:Value→World→Prop} (h:Om a b w K):Q1 P F.s [a,b] w K:=Q9 (List.replicate 6 none) Tryz.func69 rfl (by decide) (by kernel_rfl) h
def Ur (c f:Value) (w:World) (K:Value→World→Prop):Prop:= Q3 P .neq T.c (.tmp 4) (.const (.string ⟨#[110,117,108,108]⟩)) c (.string ⟨#[110,117,108,108]⟩) w fun a w=>Q0 a true w (Q2 P T.r f) fun g w=>Q0 a true w (fun w J=>J c w) fun e w=>Q0 a true w (Q1 P F.s [g,e]) fun d w=>pick P a d (.bool false) w fun b w=>K b w
theorem Cg {a b:Value} {w:World} {K:Value→World→Prop} (h:Ur a b w K):Q1 P F.al [a,b] w K:=Q9 (List.replicate 2 none) Tryz.func90 rfl (by decide) (by kernel_rfl) h
def Un (a d:Value) (w:World) (K:Value→World→Prop):Prop:= Q2 P T.a4 d w fun b w=>Z4 P b [a] w fun c w=>J8 P .not c w fun e w=>K e w
theorem Sq {a b:Value} {w:World} {K:Value→World→Prop} (h:Un a b w K):Q1 P F.am [a,b] w K:=Q9 (List.replicate 2 none) Tryz.func91 rfl (by decide) (by kernel_rfl) h
def Q0D (s:Value) (w:World) (K:Value→World→Prop):Prop:= box P T.d s w fun b w=>dr w fun a c=>Q5 a (fun f=> ∀w,c w→fieldAddr P T.d b 1 w (dk a f w)) fun f=>Q5 a (fun m=> ∀w,c w→fieldAddr P T.d b 2 w (dk a m w)) fun m=>Q5 a (fun l=> ∀g w,c w→f g w→Q2 P T.h g w (dk a l w)) fun l=>Q5 a (fun e=> ∀d w,c w→l d w→Q1 P F.cP [d,(.string ⟨#[44]⟩)] w (dk a e w)) fun e=>Q5 a (fun k=> ∀h w,c w→e h w→Q3 P .add T.c (.const (.string ⟨#[40]⟩)) (.tmp 5) (.string ⟨#[40]⟩) h w (dk a k w)) fun k=>Q5 a (fun n=> ∀j w,c w→k j w→Q3 P .add T.c (.tmp 6) (.const (.string ⟨#[41]⟩)) j (.string ⟨#[41]⟩) w (dk a n w)) fun n=>Q5 a (fun p=> ∀i w,c w→m i w→Q2 P T.c i w (dk a p w)) fun p=>∀g i d h j r q w,c w→f g w→m i w→l d w→e h w→k j w→n r w→p q w→ Q3 P .add T.c (.tmp 7) (.tmp 9) r q w fun o w=>K o w
theorem Q6b {a:Value} {w:World} {K:Value→World→Prop} (h:Q0D a w K):Q1 P F.cg [a] w K:=Q9 (List.replicate 2 none) Tryz.func95 rfl (by decide) (by kernel_rfl) h
def Ze (Z X a2 a3:Value) (w:World) (K:Value→World→Prop):Prop:= box P T.d Z w fun b w=>Q2 P T.w X w fun Y w=>fieldAddr P T.d b 0 w fun W w=>Q2 P T.c W w fun R w=>lookup P T.w Y R true w fun C w=>ext P C 0 w fun N w=>ext P C 1 w fun g w=>dr w fun a d=>Q5 a (fun r=> ∀w,d w→fieldAddr P T.d b 0 w (dk a r w)) fun r=>Q5 a (fun k=> ∀w,d w→fieldAddr P T.d b 0 w (dk a k w)) fun k=>Q5 a (fun q=> ∀w,d w→fieldAddr P T.b a2 0 w (dk a q w)) fun q=>Q5 a (fun f=> ∀w,d w→Q2 P T.w X w (dk a f w)) fun f=>Q5 a (fun u=> ∀v w,d w→r v w→Q2 P T.c v w (dk a u w)) fun u=>Q5 a (fun z=> ∀w,d w→Q2 P T.w a3 w (dk a z w)) fun z=>Q5 a (fun A=> ∀o w,d w→k o w→Q2 P T.c o w (dk a A w)) fun A=>Q5 a (fun j=> ∀w,d w→Q2 P T.d b w (dk a j w)) fun j=>Q5 a (fun h=> ∀t w,d w→j t w→Q1 P F.cg [t] w (dk a h w)) fun h=>Q5 a (fun B=> ∀p w,d w→q p w→Q2 P T.c p w (dk a B w)) fun B=>Q5 a (fun s=> ∀c m w,d w→f c w→u m w→mapEntry P T.w c m w (dk a s w)) fun s=>Q5 a (fun i=> ∀y w,d w→s y w→ext P y 1 w (dk a i w)) fun i=>Q5 a (fun e=> ∀c l n w,d w→f c w→i l w→h n w→entryStore P T.w c l n w (dk a e w)) fun e=>∀v o p c m D E t n H y l U w,d w→r v w→k o w→q p w→f c w→u m w→z D w→A E w→j t w→h n w→B H w→s y w→i l w→e U w→ mapUpdate P T.w D E H w fun _u w=>Q0 g true w (fun w J=>J N w) fun O w=>Q0 g true w (Q2 P T.d b) fun L w=>Q0 g true w (Q1 P F.cg [L]) fun M w=>Q0 g true w (Q3 P .neq T.c (.tmp 29) (.tmp 31) O M) fun Q w=>pick P g Q (.bool false) w fun V w=>K V w
theorem Hp {a c d b:Value} {w:World} {K:Value→World→Prop} (h:Ze a c d b w K):Q1 P F.aL [a,c,d,b] w K:=Q9 (List.replicate 4 none) Tryz.func94 rfl (by decide) (by kernel_rfl) h
def Uq (b f h:Value) (w:World) (K:Value→World→Prop):Prop:= box P T.b b w fun a w=>fieldAddr P T.b a 7 w fun d w=>Q2 P T.j d w fun e w=>H1 P (.func F.aL) [] [f,a,h] w fun g w=>Q1 P F.a [e,g] w fun c w=>K c w
theorem Si {a b c:Value} {w:World} {K:Value→World→Prop} (h:Uq a b c w K):Q1 P F.aZ [a,b,c] w K:=Q9 (List.replicate 2 none) Tryz.func92 rfl (by decide) (by kernel_rfl) h
def Q0X (b f:Value) (w:World) (K:Value→World→Prop):Prop:= box P T.d b w fun a w=>fieldAddr P T.d a 0 w fun c w=>Q2 P T.c c w fun d w=>Q2 P T.c f w fun e w=>Q3 P .eql T.c (.tmp 5) (.tmp 6) d e w fun g w=>K g w
theorem Q5y {a b:Value} {w:World} {K:Value→World→Prop} (h:Q0X a b w K):Q1 P F.cU [a,b] w K:=Q9 (List.replicate 2 none) Tryz.func179 rfl (by decide) (by kernel_rfl) h
def Q3c (o n:Value) (w:World) (K:Value→World→Prop):Prop:= box P T.b o w fun b w=>box P T.c n w fun a w=>V6 P T.d w fun d w=>fieldAddr P T.b b 7 w fun q w=>Q2 P T.j q w fun p w=>H1 P (.func F.cU) [] [a] w fun m w=>Q1 P F.g [p,m] w fun c w=>Q3 P .lss T.e (.tmp 11) (.const (.int .i64 0)) c (.int .i64 0) w fun j w=>X1 j (H0 P T.d [] w fun i w=>X9 P T.d d i w fun _u w=>Y7 P T.d d w fun g=>K (.tuple #[g,(.bool false)]) w) (fieldAddr P T.b b 7 w fun k w=>Q2 P T.j k w fun e w=>indexAddr P T.j e c w fun f w=>Q2 P T.d f w fun l w=>Q1 P F.c8 [l] w fun h w=>X9 P T.d d h w fun _u w=>Y7 P T.d d w fun g=>K (.tuple #[g,(.bool true)]) w)
theorem Q8s {a b:Value} {w:World} {K:Value→World→Prop} (h:Q3c a b w K):Q1 P F.cC [a,b] w K:=Q9 (List.replicate 6 none) Tryz.func144 rfl (by decide) (by kernel_rfl) h
def Q07:V8:=[none,none,none,some ([19],[6,8,10,11,12,13,14,15,19,20,21,22,23,24,25,26,27,28,29,30,31,32,33,34,35,36,37,38,39,40,41,42,43,44,45,46,47]),none,none,none,none,none,none,none,none,none,none,none,none]
def Dg (t M L:Value) (w:World) (K:Value→World→Prop):Prop:= box P T.b M w fun f w=>V6 P T.d w fun i w=>fieldAddr P T.b f 2 w fun J w=>Q2 P T.h J w fun k w=>X2 P .len [T.h] T.e [false] [k] w fun A w=>lp (α:=Value) (.int .i64 0) w fun c C N w=>Q3 P .lss T.e (.tmp 19) (.tmp 18) C A w fun D w=>X1 D (indexAddr P T.h k C w fun B w=>Q2 P T.c B w fun e w=>Q1 P F.h [t,e] w fun s w=>Q1 P F.cC [s,L] w fun n w=>ext P n 0 w fun y w=>ext P n 1 w fun r w=>V6 P T.d w fun b w=>X9 P T.d b y w fun _u w=>X1 r (dr w fun l m=>Q5 l (fun h=> ∀w,m w→Q2 P T.d b w (dk l h w)) fun h=>∀o w,m w→h o w→ X9 P T.d i o w fun _u w=>Y7 P T.d i w fun j=>K (.tuple #[e,j,(.bool true)]) w) (Q1 P F.h [t,e] w fun H w=>Q1 P F.aV [t,H,L] w fun d w=>ext P d 0 w fun E w=>ext P d 1 w fun q w=>ext P d 2 w fun v w=>V6 P T.d w fun a w=>X9 P T.d a q w fun _u w=>X1 v (dr w fun l m=>Q5 l (fun g=> ∀w,m w→Q2 P T.d a w (dk l g w)) fun g=>∀p w,m w→g p w→ X9 P T.d i p w fun _u w=>Y7 P T.d i w fun j=>K (.tuple #[E,j,(.bool true)]) w) (Q3 P .add T.e (.tmp 19) (.const (.int .i64 1)) C (.int .i64 1) w fun z w=>c z w))) (H0 P T.d [] w fun u w=>X9 P T.d i u w fun _u w=>Y7 P T.d i w fun j=>K (.tuple #[(.string ⟨#[]⟩),j,(.bool false)]) w)
theorem Ar {a b c:Value} {w:World} {K:Value→World→Prop} (h:Dg a b c w K):Q1 P F.aV [a,b,c] w K:=Q9 Q07 Tryz.func145 rfl (by decide) (by kernel_rfl) h
def Ga:V8:=[none,none,none,none,none,some ([26],[6,8,11,12,13,26,27,28,29,30,31,32,33,34,35,36,37,38,39,40]),none,none,none,none,none,none,none,none,none,some ([43],[6,8,15,16,17,18,43,44,45,46,47,48,49,50,51,52,53,54,55,56,57,58]),none,none,none,none,none,none,none,none]
def Lu (Y a1 Z:Value) (w:World) (K:Value→World→Prop):Prop:= V6 P T.d w fun q w=>Q1 P F.aT [Y,a1] w fun e w=>Q1 P F.q [e] w fun ac w=>X2 P .len [T.i] T.e [false] [e] w fun X w=>lp (α:=Value) (.int .i64 0) w fun i H d_ w=>Q3 P .lss T.e (.tmp 26) (.tmp 25) H X w fun L w=>X1 L (indexAddr P T.i e H w fun R w=>Q2 P T.b R w fun Q w=>V6 P T.b w fun a w=>X9 P T.b a Q w fun _u w=>Q2 P T.b a w fun C w=>Q1 P F.cC [C,Z] w fun u w=>ext P u 0 w fun M w=>ext P u 1 w fun D w=>V6 P T.d w fun c w=>X9 P T.d c M w fun _u w=>X1 D (dr w fun g o=>Q5 g (fun h=> ∀w,o w→fieldAddr P T.b a 0 w (dk g h w)) fun h=>Q5 g (fun p=> ∀j w,o w→h j w→Q2 P T.c j w (dk g p w)) fun p=>Q5 g (fun m=> ∀w,o w→Q2 P T.d c w (dk g m w)) fun m=>∀j v t w,o w→h j w→p v w→m t w→ X9 P T.d q t w fun _u w=>Y7 P T.d q w fun r=>K (.tuple #[v,r,(.bool true)]) w) (Q3 P .add T.e (.tmp 26) (.const (.int .i64 1)) H (.int .i64 1) w fun B w=>i B w)) (X2 P .len [T.i] T.e [false] [e] w fun z w=>lp (α:=Value) (.int .i64 0) w fun f n d_ w=>Q3 P .lss T.e (.tmp 43) (.tmp 42) n z w fun N w=>X1 N (indexAddr P T.i e n w fun V w=>Q2 P T.b V w fun E w=>V6 P T.b w fun d w=>X9 P T.b d E w fun _u w=>Q2 P T.b d w fun W w=>Q1 P F.aV [Y,W,Z] w fun k w=>ext P k 0 w fun A w=>ext P k 1 w fun y w=>ext P k 2 w fun U w=>V6 P T.d w fun b w=>X9 P T.d b y w fun _u w=>X1 U (dr w fun g o=>Q5 g (fun l=> ∀w,o w→Q2 P T.d b w (dk g l w)) fun l=>∀s w,o w→l s w→ X9 P T.d q s w fun _u w=>Y7 P T.d q w fun r=>K (.tuple #[A,r,(.bool true)]) w) (Q3 P .add T.e (.tmp 43) (.const (.int .i64 1)) n (.int .i64 1) w fun J w=>f J w)) (H0 P T.d [] w fun O w=>X9 P T.d q O w fun _u w=>Y7 P T.d q w fun r=>K (.tuple #[(.string ⟨#[]⟩),r,(.bool false)]) w))
theorem Gk {a b c:Value} {w:World} {K:Value→World→Prop} (h:Lu a b c w K):Q1 P F.bd [a,b,c] w K:=Q9 Ga Tryz.func96 rfl (by decide) (by kernel_rfl) h
def Bz:V8:=[none,none,none,some ([21],[4,6,21,22,23,24,25,26,27,28,29,30,31,32]),none,none,none,none,none,none,none,none,none,some ([37],[4,9,37,38,39,40,41,42,43,44,45,46]),none,none,none,none,none,none,none,none,some ([50],[4,11,50,51,52,53,54,55,56,57,58,59,60,61,62,63,64,65,66,67,68,69,70]),none,none,none,none,none,none,none,none,none,none,none,none,none,none,none,some ([],[4,14,15,16,17,82,83,84,85,86,87,88,89,90,91,92,93,94,95,96,97,98,99,100]),none,none,none,none,none,none,none]
def Vy (a0 a1:Value) (w:World) (K:Value→World→Prop):Prop:= box P T.r a0 w fun u w=>box P T.b a1 w fun h w=>fieldAddr P T.b h 6 w fun ae w=>Q2 P T.k ae w fun n w=>X2 P .len [T.k] T.e [false] [n] w fun bd w=>lp (α:=Value) (.int .i64 0) w fun f x3 z w=>Q3 P .lss T.e (.tmp 21) (.tmp 20) x3 bd w fun U w=>X1 U (indexAddr P T.k n x3 w fun a2 w=>Q2 P T.o a2 w fun bg w=>V6 P T.o w fun t6 w=>X9 P T.o t6 bg w fun _u w=>Q2 P T.r u w fun ak w=>fieldAddr P T.b h 1 w fun av w=>Q2 P T.c av w fun a5 w=>fieldAddr P T.o t6 0 w fun ag w=>Q2 P T.c ag w fun ad w=>Q1 P F.bm [ak,a5,ad] w fun M w=>Q3 P .geq T.e (.tmp 30) (.const (.int .i64 0)) M (.int .i64 0) w fun ap w=>X1 ap (K (.int .i64 64) w) (Q3 P .add T.e (.tmp 21) (.const (.int .i64 1)) x3 (.int .i64 1) w fun bb w=>f bb w)) (H1 P (.func F.al) [] [u] w fun bh w=>V6 P T.a4 w fun v w=>X9 P T.a4 v bh w fun _u w=>fieldAddr P T.b h 6 w fun aa w=>Q2 P T.k aa w fun q w=>X2 P .len [T.k] T.e [false] [q] w fun X w=>lp (α:=Value) (.int .i64 0) w fun c j z w=>Q3 P .lss T.e (.tmp 37) (.tmp 36) j X w fun bk w=>X1 bk (indexAddr P T.k q j w fun a3 w=>Q2 P T.o a3 w fun J w=>V6 P T.o w fun t9 w=>X9 P T.o t9 J w fun _u w=>Q2 P T.a4 v w fun bj w=>fieldAddr P T.o t9 1 w fun D w=>Q2 P T.c D w fun a8 w=>Z4 P bj [a8] w fun ab w=>J8 P .not ab w fun bc w=>X1 bc (K (.int .i64 65) w) (Q3 P .add T.e (.tmp 37) (.const (.int .i64 1)) j (.int .i64 1) w fun al w=>c al w)) (fieldAddr P T.b h 7 w fun af w=>Q2 P T.j af w fun o w=>X2 P .len [T.j] T.e [false] [o] w fun be w=>lp (α:=Value) (.int .i64 0) w fun a m z w=>Q3 P .lss T.e (.tmp 50) (.tmp 49) m be w fun ar w=>X1 ar (indexAddr P T.j o m w fun H w=>Q2 P T.d H w fun B w=>V6 P T.d w fun g w=>X9 P T.d g B w fun _u w=>Q2 P T.a4 v w fun ai w=>fieldAddr P T.d g 2 w fun L w=>Q2 P T.c L w fun a4 w=>Z4 P ai [a4] w fun aq w=>J8 P .not aq w fun e w=>Q0 e true w (fieldAddr P T.d g 2) fun Q w=>Q0 e true w (Q2 P T.c Q) fun C w=>Q0 e true w (Q3 P .neq T.c (.tmp 61) (.const (.string ⟨#[]⟩)) C (.string ⟨#[]⟩)) fun O w=>pick P e O (.bool false) w fun b w=>Q0 b false w (fieldAddr P T.d g 1) fun bn w=>Q0 b false w (Q2 P T.h bn) fun R w=>Q0 b false w (H1 P (.func F.am) [] [v]) fun bl w=>Q0 b false w (Q1 P F.c [R,bl]) fun ac w=>pick P b (.bool true) ac w fun ay w=>X1 ay (K (.int .i64 65) w) (Q3 P .add T.e (.tmp 50) (.const (.int .i64 1)) m (.int .i64 1) w fun az w=>a az w)) (Pt P T.w none w fun N w=>Pt P T.w none w fun Y w=>V6 P T.w w fun r w=>V6 P T.w w fun l w=>X9 P T.w r N w fun _u w=>X9 P T.w l Y w fun _u w=>Q2 P T.r u w fun ah w=>fieldAddr P T.b h 0 w fun bm w=>Q2 P T.c bm w fun bi w=>H1 P (.func F.aZ) [] [r,l] w fun a7 w=>Q1 P F.x [ah,bi,a7] w fun A w=>X1 A (K (.int .i64 66) w) (fieldAddr P T.b h 4 w fun W w=>Q2 P T.u W w fun an w=>X1 an (K (.int .i64 0) w) (Q2 P T.w l w fun aj w=>rng P T.w aj w fun t w=>lp (α:=Unit) () w fun d bs z w=>V1 P t false T.x w fun a6 w=>ext P a6 0 w fun ax w=>X1 ax (Q8l P t w fun y w=>ext P y 0 w fun V w=>Q2 P T.r u w fun E w=>fieldAddr P T.b h 0 w fun bf w=>Q2 P T.c bf w fun aw w=>Q1 P F.bd [E,aw,V] w fun k w=>ext P k 0 w fun br w=>ext P k 1 w fun a9 w=>ext P k 2 w fun ao w=>V6 P T.d w fun s w=>X9 P T.d s a9 w fun _u w=>J8 P .not ao w fun i w=>Q0 i false w (fieldAddr P T.d s 3) fun am w=>Q0 i false w (Q2 P T.u am) fun Z w=>pick P i (.bool true) Z w fun p w=>X1 p (K (.int .i64 67) w) (d () w)) (K (.int .i64 0) w))))))
theorem Fm {a b:Value} {w:World} {K:Value→World→Prop} (h:Vy a b w K):Q1 P F.b5 [a,b] w K:=Q9 Bz Tryz.func49 rfl (by decide) (by kernel_rfl) h
def Q84:V8:=[none,none,none,none,none,some ([30],[2,3,4,7,8,9,30,31,32,33,34,35,36,37,38,39,40,41,42,43,44,45,46,47,48,49,50,51,52]),none,none,none,none,none,none,none,none,none,none,some ([58],[2,3,4,10,11,58,59,60,61,62,63,64,65,66,67,68,69,70,71,72,73,74,75,76,77]),none,none,none,none,none,none,none,none,none,some ([85],[2,3,4,12,13,14,85,86,87,88,89,90,91,92,93,94,95,96,97]),none,none,none,none,none,none,none,none,none,none,none,none,none,some ([114],[2,3,4,17,18,114,115,116,117,118,119,120,121,122,123,124,125,126,127,128,129,130,131,132,133]),none,none,none,none,none,none,none,none]
def Q3u (a0:Value) (w:World) (K:Value→World→Prop):Prop:= Q1 P F.cF [] w fun a3 w=>Pt P T.a2 none w fun bp w=>H0 P T.a0 [(0,a3),(1,bp)] w fun ba w=>box P T.a0 ba w fun a w=>nilCheck P a w fun bs w=>fieldAddr P T.a0 bs 0 w fun bd w=>Q2 P T.i bd w fun bk w=>X2 P .len [T.i] T.e [false] [bk] w fun f w=>X2 P .len [T.i] T.e [false] [a0] w fun a8 w=>lp (α:=Value) (.int .i64 0) w fun l x5 d_ w=>Q3 P .lss T.e (.tmp 30) (.tmp 29) x5 a8 w fun bh w=>X1 bh (indexAddr P T.i a0 x5 w fun bu w=>Q2 P T.b bu w fun a6 w=>V6 P T.b w fun t8 w=>X9 P T.b t8 a6 w fun _u w=>Q2 P T.b t8 w fun bl w=>Q1 P F.cy [bl] w fun X w=>Q3 P .neq T.y (.tmp 37) (.const (.int .i64 0)) X (.int .i64 0) w fun bw w=>X1 bw (K (.tuple #[(.pointer none),x5,X]) w) (dr w fun b c=>Q5 b (fun r=> ∀w,c w→nilCheck P a w (dk b r w)) fun r=>Q5 b (fun u=> ∀v w,c w→r v w→fieldAddr P T.a0 v 0 w (dk b u w)) fun u=>Q5 b (fun L=> ∀o w,c w→u o w→Q2 P T.i o w (dk b L w)) fun L=>Q5 b (fun y=> ∀w,c w→Q2 P T.b t8 w (dk b y w)) fun y=>Q5 b (fun s=> ∀q w,c w→y q w→Q1 P F.cz [q] w (dk b s w)) fun s=>Q5 b (fun E=> ∀p w,c w→s p w→buildSlice P T.i 1 [(0,p)] w (dk b E w)) fun E=>∀v o an q p Z w,c w→r v w→u o w→L an w→y q w→s p w→E Z w→ X2 P .append [T.i,T.i] T.i [false,false] [an,Z] w fun bq w=>nilCheck P a w fun be w=>fieldAddr P T.a0 be 0 w fun bj w=>X9 P T.i bj bq w fun _u w=>Q3 P .add T.e (.tmp 30) (.const (.int .i64 1)) x5 (.int .i64 1) w fun ay w=>l ay w)) (nilCheck P a w fun bb w=>fieldAddr P T.a0 bb 0 w fun az w=>Q2 P T.i az w fun ai w=>X2 P .len [T.i] T.e [false] [ai] w fun bi w=>lp (α:=Value) (.int .i64 0) w fun e g d_ w=>Q3 P .lss T.e (.tmp 58) (.tmp 57) g bi w fun a7 w=>X1 a7 (indexAddr P T.i ai g w fun ax w=>Q2 P T.b ax w fun a1 w=>V6 P T.b w fun N w=>X9 P T.b N a1 w fun _u w=>fieldAddr P T.b N 0 w fun bx w=>Q2 P T.c bx w fun b0 w=>Q1 P F.j [a,b0] w fun a2 w=>X1 a2 (Q3 P .sub T.e (.tmp 67) (.tmp 68) g f w fun bn w=>K (.tuple #[(.pointer none),bn,(.int .i64 60)]) w) (dr w fun b c=>Q5 b (fun n=> ∀w,c w→nilCheck P a w (dk b n w)) fun n=>Q5 b (fun j=> ∀i w,c w→n i w→fieldAddr P T.a0 i 1 w (dk b j w)) fun j=>Q5 b (fun m=> ∀w,c w→fieldAddr P T.b N 0 w (dk b m w)) fun m=>Q5 b (fun H=> ∀k w,c w→j k w→Q2 P T.a2 k w (dk b H w)) fun H=>Q5 b (fun M=> ∀z w,c w→m z w→Q2 P T.c z w (dk b M w)) fun M=>∀i k z ab ao w,c w→n i w→j k w→m z w→H ab w→M ao w→ mapUpdate P T.a2 ab ao g w fun _u w=>Q3 P .add T.e (.tmp 58) (.const (.int .i64 1)) g (.int .i64 1) w fun aw w=>e aw w)) (nilCheck P a w fun bf w=>fieldAddr P T.a0 bf 0 w fun bc w=>Q2 P T.i bc w fun bz w=>S4 P T.i bz (some f) none none w fun ae w=>X2 P .len [T.i] T.e [false] [ae] w fun ar w=>lp (α:=Value) (.int .i64 0) w fun d t d_ w=>Q3 P .lss T.e (.tmp 85) (.tmp 84) t ar w fun a4 w=>X1 a4 (indexAddr P T.i ae t w fun br w=>Q2 P T.b br w fun bm w=>V6 P T.b w fun ag w=>X9 P T.b ag bm w fun _u w=>Q2 P T.b ag w fun bo w=>Q1 P F.bb [a,bo] w fun Y w=>Q3 P .neq T.y (.tmp 93) (.const (.int .i64 0)) Y (.int .i64 0) w fun bg w=>X1 bg (K (.tuple #[(.pointer none),t,Y]) w) (Q3 P .add T.e (.tmp 85) (.const (.int .i64 1)) t (.int .i64 1) w fun bv w=>d bv w)) (nilCheck P a w fun a5 w=>fieldAddr P T.a0 a5 0 w fun aa w=>Q2 P T.i aa w fun am w=>S4 P T.i am (some f) none none w fun ah w=>H1 P (.func F.bj) [a] [] w fun ad w=>Q1 P F.o [ah,ad] w fun B w=>Q3 P .geq T.e (.tmp 107) (.const (.int .i64 0)) B (.int .i64 0) w fun aj w=>X1 aj (K (.tuple #[(.pointer none),B,(.int .i64 63)]) w) (Q1 P F.bk [a,f] w fun D w=>X2 P .len [T.a7] T.e [false] [D] w fun ap w=>lp (α:=Value) (.int .i64 0) w fun h J d_ w=>Q3 P .lss T.e (.tmp 114) (.tmp 113) J ap w fun W w=>X1 W (indexAddr P T.a7 D J w fun U w=>Q2 P T.e U w fun A w=>nilCheck P a w fun Q w=>fieldAddr P T.a0 Q 0 w fun ac w=>Q2 P T.i ac w fun af w=>indexAddr P T.i af A w fun ak w=>Q2 P T.b ak w fun R w=>Q1 P F.b5 [a,R] w fun C w=>Q3 P .neq T.y (.tmp 127) (.const (.int .i64 0)) C (.int .i64 0) w fun al w=>X1 al (Q3 P .sub T.e (.tmp 129) (.tmp 130) A f w fun O w=>K (.tuple #[(.pointer none),O,C]) w) (Q3 P .add T.e (.tmp 114) (.const (.int .i64 1)) J (.int .i64 1) w fun V w=>h V w)) (K (.tuple #[a,(.int .i64 0),(.int .i64 0)]) w)))))
theorem Q8c {a:Value} {w:World} {K:Value→World→Prop} (h:Q3u a w K):Q1 P F.cN [a] w K:=Q9 Q84 Tryz.func12 rfl (by decide) (by kernel_rfl) h
def Wi (w:World) (K:Value→World→Prop):Prop:= H0 P T.v [(0,(.string ⟨#[105,110,116]⟩)),(1,(.int .i64 1))] w fun s w=>H0 P T.v [(0,(.string ⟨#[114,101,116,117,114,110]⟩))] w fun o w=>buildSlice P T.q 2 [(0,s),(1,o)] w fun n w=>H0 P T.o [(0,(.string ⟨#[120]⟩)),(1,(.string ⟨#[105,110,116]⟩))] w fun p w=>H0 P T.o [(0,(.string ⟨#[110,101,120,116]⟩)),(1,(.string ⟨#[65]⟩))] w fun r w=>buildSlice P T.k 2 [(0,p),(1,r)] w fun t w=>buildSlice P T.h 2 [(0,(.string ⟨#[105,110,116]⟩)),(1,(.string ⟨#[65]⟩))] w fun q w=>H0 P T.d [(0,(.string ⟨#[102]⟩)),(1,q),(2,(.string ⟨#[105,110,116]⟩)),(4,(.int .i64 3)),(5,n)] w fun m w=>H0 P T.v [(0,(.string ⟨#[114,101,116,117,114,110]⟩))] w fun j w=>buildSlice P T.q 1 [(0,j)] w fun f w=>H0 P T.d [(0,(.string ⟨#[103]⟩)),(4,(.int .i64 1)),(5,f)] w fun e w=>buildSlice P T.j 2 [(0,m),(1,e)] w fun g w=>H0 P T.b [(0,(.string ⟨#[65]⟩)),(1,(.string ⟨#[79,98,106,101,99,116]⟩)),(6,t),(7,g)] w fun a w=>buildSlice P T.h 1 [(0,(.string ⟨#[73]⟩))] w fun l w=>H0 P T.o [(0,(.string ⟨#[108]⟩)),(1,(.string ⟨#[65,91,93]⟩))] w fun b w=>buildSlice P T.k 1 [(0,b)] w fun h w=>H0 P T.b [(0,(.string ⟨#[66]⟩)),(1,(.string ⟨#[65]⟩)),(2,l),(6,h)] w fun d w=>H0 P T.b [(0,(.string ⟨#[73]⟩)),(1,(.string ⟨#[79,98,106,101,99,116]⟩)),(3,(.bool true)),(4,(.bool true))] w fun k w=>H0 P T.b [(0,(.string ⟨#[68]⟩)),(1,(.string ⟨#[79,98,106,101,99,116]⟩)),(4,(.bool true))] w fun i w=>buildSlice P T.i 4 [(0,a),(1,d),(2,k),(3,i)] w fun c w=>K c w
theorem Ff {w:World} {K:Value→World→Prop} (h:Wi w K):Q1 P F.az [] w K:=Q9 (List.replicate 3 none) Tryz.func13 rfl (by decide) (by kernel_rfl) h
def Rc (a:Value) (w:World) (K:Value→World→Prop):Prop:= nilCheck P a w fun b w=>fieldAddr P T.p b 3 w fun c w=>Q2 P T.f c w fun d w=>X2 P .len [T.f] T.e [false] [d] w fun e w=>K e w
theorem Q26 {a:Value} {w:World} {K:Value→World→Prop} (h:Rc a w K):Q1 P F.aF [a] w K:=Q9 (List.replicate 2 none) Tryz.func17 rfl (by decide) (by kernel_rfl) h
def Hj (o:Value) (w:World) (K:Value→World→Prop):Prop:= dr w fun a c=>Q5 a (fun g=> ∀w,c w→nilCheck P o w (dk a g w)) fun g=>Q5 a (fun k=> ∀e w,c w→g e w→fieldAddr P T.p e 1 w (dk a k w)) fun k=>Q5 a (fun h=> ∀w,c w→nilCheck P o w (dk a h w)) fun h=>Q5 a (fun l=> ∀i w,c w→h i w→fieldAddr P T.p i 2 w (dk a l w)) fun l=>Q5 a (fun n=> ∀j w,c w→k j w→Q2 P T.e j w (dk a n w)) fun n=>Q5 a (fun b=> ∀f w,c w→l f w→Q2 P T.e f w (dk a b w)) fun b=>∀e j i f p d w,c w→g e w→k j w→h i w→l f w→n p w→b d w→ Q3 P .sub T.e (.tmp 6) (.tmp 10) p d w fun m w=>K m w
theorem Q1q {a:Value} {w:World} {K:Value→World→Prop} (h:Hj a w K):Q1 P F.v [a] w K:=Q9 (List.replicate 2 none) Tryz.func18 rfl (by decide) (by kernel_rfl) h
def Hv (i h:Value) (w:World) (K:Value→World→Prop):Prop:= Q3 P .geq T.e (.tmp 5) (.const (.int .i64 0)) h (.int .i64 0) w fun a w=>Q0 a true w (fun w J=>J h w) fun k w=>Q0 a true w (fun w J=>J i w) fun j w=>Q0 a true w (nilCheck P j) fun f w=>Q0 a true w (fieldAddr P T.p f 3) fun b w=>Q0 a true w (Q2 P T.f b) fun c w=>Q0 a true w (X2 P .len [T.f] T.e [false] [c]) fun g w=>Q0 a true w (Q3 P .lss T.e (.tmp 8) (.tmp 13) k g) fun d w=>pick P a d (.bool false) w fun e w=>K e w
theorem Q24 {a b:Value} {w:World} {K:Value→World→Prop} (h:Hv a b w K):Q1 P F.aG [a,b] w K:=Q9 (List.replicate 2 none) Tryz.func51 rfl (by decide) (by kernel_rfl) h
def Hl (g h:Value) (w:World) (K:Value→World→Prop):Prop:= Q1 P F.aG [g,h] w fun j w=>J8 P .not j w fun i w=>X1 i (K (.string ⟨#[]⟩) w) (nilCheck P g w fun f w=>fieldAddr P T.p f 3 w fun a w=>Q2 P T.f a w fun b w=>indexAddr P T.f b h w fun c w=>fieldAddr P T.m c 0 w fun d w=>Q2 P T.c d w fun e w=>K e w)
theorem Q0N {a b:Value} {w:World} {K:Value→World→Prop} (h:Hl a b w K):Q1 P F.aA [a,b] w K:=Q9 (List.replicate 5 none) Tryz.func20 rfl (by decide) (by kernel_rfl) h
def En (h i:Value) (w:World) (K:Value→World→Prop):Prop:= Q1 P F.aG [h,i] w fun k w=>J8 P .not k w fun j w=>X1 j (K (.int .i64 0) w) (nilCheck P h w fun g w=>fieldAddr P T.p g 3 w fun b w=>Q2 P T.f b w fun c w=>indexAddr P T.f c i w fun d w=>fieldAddr P T.m d 1 w fun e w=>Q2 P T.l e w fun f w=>X2 P .len [T.l] T.e [false] [f] w fun a w=>K a w)
theorem Q0O {a b:Value} {w:World} {K:Value→World→Prop} (h:En a b w K):Q1 P F.bM [a,b] w K:=Q9 (List.replicate 5 none) Tryz.func21 rfl (by decide) (by kernel_rfl) h
def Zv:V8:=[none,none,none,some ([8],[4,5,8,9,10,11,12,13,14,15,16,17,18]),none,none,none,none,none,none,none]
def I6 (g i:Value) (w:World) (K:Value→World→Prop):Prop:= X2 P .len [T.f] T.e [false] [g] w fun j w=>lp (α:=Value) (.int .i64 0) w fun a b k w=>Q3 P .lss T.e (.tmp 8) (.tmp 7) b j w fun h w=>X1 h (indexAddr P T.f g b w fun c w=>Q2 P T.m c w fun d w=>Z4 P i [d] w fun e w=>X1 e (K b w) (Q3 P .add T.e (.tmp 8) (.const (.int .i64 1)) b (.int .i64 1) w fun f w=>a f w)) (K (.int .i64 (-1)) w)
theorem Zx {a b:Value} {w:World} {K:Value→World→Prop} (h:I6 a b w K):Q1 P F.a9 [a,b] w K:=Q9 Zv Tryz.func98 rfl (by decide) (by kernel_rfl) h
def F8 (a c:Value) (w:World) (K:Value→World→Prop):Prop:= Q1 P F.a9 [a,c] w fun d w=>Q3 P .geq T.e (.tmp 7) (.const (.int .i64 0)) d (.int .i64 0) w fun b w=>K b w
theorem Ye {a b:Value} {w:World} {K:Value→World→Prop} (h:F8 a b w K):Q1 P F.n [a,b] w K:=Q9 (List.replicate 2 none) Tryz.func53 rfl (by decide) (by kernel_rfl) h
def Sv (Q O:Value) (w:World) (K:Value→World→Prop):Prop:= box P T.g O w fun a w=>Q2 P T.g a w fun U w=>H0 P T.g [] w fun V w=>Q3 P .eql T.g (.tmp 6) (.tmp 7) U V w fun R w=>X1 R (K (.string ⟨#[110,117,108,108]⟩) w) (Q2 P T.g a w fun L w=>fieldAddr P T.g a 1 w fun B w=>Q2 P T.a1 B w fun p w=>H0 P T.g [(0,(.int .i64 1)),(1,p)] w fun m w=>Q3 P .eql T.g (.tmp 10) (.tmp 13) L m w fun q w=>X1 q (K (.string ⟨#[105,110,116]⟩) w) (Q2 P T.g a w fun J w=>fieldAddr P T.g a 1 w fun i w=>Q2 P T.a1 i w fun u w=>Q3 P .and T.a1 (.tmp 18) (.const (.int .i64 1)) u (.int .i64 1) w fun l w=>H0 P T.g [(0,(.int .i64 2)),(1,l)] w fun C w=>Q3 P .eql T.g (.tmp 16) (.tmp 20) J C w fun z w=>X1 z (K (.string ⟨#[98,111,111,108]⟩) w) (Q2 P T.g a w fun n w=>fieldAddr P T.g a 2 w fun D w=>Q2 P T.c D w fun M w=>H0 P T.g [(0,(.int .i64 3)),(2,M)] w fun h w=>Q3 P .eql T.g (.tmp 23) (.tmp 26) n h w fun b w=>Q0 b true w (fieldAddr P T.g a 2) fun t w=>Q0 b true w (Q2 P T.c t) fun f w=>Q0 b true w (X2 P .len [T.c] T.e [false] [f]) fun g w=>Q0 b true w (Q3 P .leq T.e (.tmp 31) (.const (.int .i64 4096)) g (.int .i64 4096)) fun A w=>pick P b A (.bool false) w fun c w=>Q0 c true w (fieldAddr P T.g a 2) fun j w=>Q0 c true w (Q2 P T.c j) fun k w=>Q0 c true w (Q1 P F.b0 [k]) fun y w=>pick P c y (.bool false) w fun H w=>X1 H (K (.string ⟨#[116,101,120,116]⟩) w) (Q2 P T.g a w fun e w=>fieldAddr P T.g a 3 w fun E w=>Q2 P T.e E w fun d w=>H0 P T.g [(0,(.int .i64 4)),(3,d)] w fun s w=>Q3 P .eql T.g (.tmp 40) (.tmp 43) e s w fun r w=>X1 r (fieldAddr P T.g a 3 w fun N w=>Q2 P T.e N w fun v w=>Q1 P F.aA [Q,v] w fun o w=>K o w) (K (.string ⟨#[]⟩) w)))))
theorem Q2M {a b:Value} {w:World} {K:Value→World→Prop} (h:Sv a b w K):Q1 P F.ce [a,b] w K:=Q9 (List.replicate 13 none) Tryz.func31 rfl (by decide) (by kernel_rfl) h
def Vj (a f:Value) (w:World) (K:Value→World→Prop):Prop:= Q1 P F.ab [a,f] w fun h w=>J8 P .not h w fun g w=>X1 g (K (.tuple #[a,(.bool false)]) w) (X2 P .len [T.c] T.e [false] [a] w fun e w=>X2 P .len [T.c] T.e [false] [f] w fun c w=>Q3 P .sub T.e (.tmp 13) (.tmp 15) e c w fun d w=>S4 P T.c a none (some d) none w fun b w=>K (.tuple #[b,(.bool true)]) w)
theorem Cy {a b:Value} {w:World} {K:Value→World→Prop} (h:Vj a b w K):Q1 P F.cf [a,b] w K:=Q9 (List.replicate 5 none) Tryz.func180 rfl (by decide) (by kernel_rfl) h
def Ox (c e:Value) (w:World) (K:Value→World→Prop):Prop:= Q1 P F.cf [c,e] w fun b w=>ext P b 0 w fun d w=>ext P b 1 w fun a w=>K (.tuple #[d,a]) w
theorem Q0c {a b:Value} {w:World} {K:Value→World→Prop} (h:Ox a b w K):Q1 P F.bI [a,b] w K:=Q9 (List.replicate 2 none) Tryz.func146 rfl (by decide) (by kernel_rfl) h
def Q2g (f:Value) (w:World) (K:Value→World→Prop):Prop:= Q1 P F.bI [f,(.string ⟨#[91,93]⟩)] w fun g w=>ext P g 0 w fun i w=>ext P g 1 w fun h w=>J8 P .not h w fun a w=>Q0 a false w (fun w J=>J f w) fun e w=>Q0 a false w (Q1 P F.a0 [e]) fun b w=>Q0 a false w (J8 P .not b) fun c w=>pick P a (.bool true) c w fun d w=>X1 d (K (.string ⟨#[]⟩) w) (K i w)
theorem Q7a {a:Value} {w:World} {K:Value→World→Prop} (h:Q2g a w K):Q1 P F.c5 [a] w K:=Q9 (List.replicate 6 none) Tryz.func97 rfl (by decide) (by kernel_rfl) h
def Me (b f:Value) (w:World) (K:Value→World→Prop):Prop:= box P T.b b w fun a w=>fieldAddr P T.b a 0 w fun c w=>Q2 P T.c c w fun d w=>Q2 P T.c f w fun e w=>Q3 P .eql T.c (.tmp 5) (.tmp 6) d e w fun g w=>K g w
theorem Kj {a b:Value} {w:World} {K:Value→World→Prop} (h:Me a b w K):Q1 P F.bp [a,b] w K:=Q9 (List.replicate 2 none) Tryz.func110 rfl (by decide) (by kernel_rfl) h
def Hh (i d z:Value) (w:World) (K:Value→World→Prop):Prop:= box P T.c z w fun a w=>Q1 P F.s [i,d] w fun v w=>J8 P .not v w fun b w=>Q0 b false w (fun w J=>J i w) fun m w=>Q0 b false w (Q2 P T.c a) fun o w=>Q0 b false w (Q1 P F.s [m,o]) fun f w=>Q0 b false w (J8 P .not f) fun u w=>pick P b (.bool true) u w fun j w=>X1 j (K (.bool false) w) (Q2 P T.c a w fun s w=>Q3 P .eql T.c (.tmp 19) (.tmp 20) d s w fun q w=>X1 q (K (.bool true) w) (Q1 P F.aO [d] w fun c w=>Q0 c false w (Q2 P T.c a) fun h w=>Q0 c false w (Q1 P F.aO [h]) fun n w=>pick P c (.bool true) n w fun r w=>X1 r (K (.bool false) w) (Q3 P .eql T.c (.tmp 30) (.const (.string ⟨#[110,117,108,108]⟩)) d (.string ⟨#[110,117,108,108]⟩) w fun g w=>X1 g (K (.bool true) w) (Q1 P F.c5 [d] w fun p w=>Q3 P .neq T.c (.tmp 34) (.const (.string ⟨#[]⟩)) p (.string ⟨#[]⟩) w fun k w=>X1 k (Q2 P T.c a w fun l w=>Q3 P .eql T.c (.tmp 36) (.const (.string ⟨#[79,98,106,101,99,116]⟩)) l (.string ⟨#[79,98,106,101,99,116]⟩) w fun y w=>K y w) (H1 P (.func F.bp) [] [a] w fun e w=>Q1 P F.x [i,d,e] w fun t w=>K t w)))))
theorem Q0s {a b c:Value} {w:World} {K:Value→World→Prop} (h:Hh a b c w K):Q1 P F.bS [a,b,c] w K:=Q9 (List.replicate 13 none) Tryz.func62 rfl (by decide) (by kernel_rfl) h
def Er (l n o:Value) (w:World) (K:Value→World→Prop):Prop:= box P T.g n w fun b w=>Q2 P T.g b w fun m w=>Q1 P F.ce [l,m] w fun c w=>Q3 P .neq T.c (.tmp 11) (.const (.string ⟨#[]⟩)) c (.string ⟨#[]⟩) w fun a w=>Q0 a true w (fun w J=>J l w) fun f w=>Q0 a true w (nilCheck P f) fun g w=>Q0 a true w (fieldAddr P T.p g 0) fun h w=>Q0 a true w (Q2 P T.r h) fun d w=>Q0 a true w (fun w J=>J c w) fun i w=>Q0 a true w (fun w J=>J o w) fun j w=>Q0 a true w (Q1 P F.bS [d,i,j]) fun e w=>pick P a e (.bool false) w fun k w=>K k w
theorem Q1m {a b c:Value} {w:World} {K:Value→World→Prop} (h:Er a b c w K):Q1 P F.aB [a,b,c] w K:=Q9 (List.replicate 3 none) Tryz.func27 rfl (by decide) (by kernel_rfl) h
def Hf (v u z:Value) (w:World) (K:Value→World→Prop):Prop:= box P T.m u w fun a w=>fieldAddr P T.m a 0 w fun y w=>Q2 P T.c y w fun t w=>Q1 P F.c5 [t] w fun n w=>Q3 P .neq T.c (.tmp 11) (.const (.string ⟨#[]⟩)) n (.string ⟨#[]⟩) w fun q w=>X1 q (K n w) (dr w fun b k=>Q5 b (fun e=> ∀w,k w→nilCheck P v w (dk b e w)) fun e=>Q5 b (fun f=> ∀d w,k w→e d w→fieldAddr P T.p d 0 w (dk b f w)) fun f=>Q5 b (fun c=> ∀w,k w→fieldAddr P T.m a 0 w (dk b c w)) fun c=>Q5 b (fun j=> ∀h w,k w→f h w→Q2 P T.r h w (dk b j w)) fun j=>Q5 b (fun i=> ∀g w,k w→c g w→Q2 P T.c g w (dk b i w)) fun i=>∀d h g l m w,k w→e d w→f h w→c g w→j l w→i m w→ Q1 P F.a3 [l,m] w fun r w=>indexAddr P T.k r z w fun o w=>fieldAddr P T.o o 1 w fun p w=>Q2 P T.c p w fun s w=>K s w)
theorem Q1p {a b c:Value} {w:World} {K:Value→World→Prop} (h:Hf a b c w K):Q1 P F.aC [a,b,c] w K:=Q9 (List.replicate 6 none) Tryz.func52 rfl (by decide) (by kernel_rfl) h
def Vr (g h:Value) (w:World) (K:Value→World→Prop):Prop:= Q1 P F.j [g,h] w fun a w=>Q0 a true w (fun w J=>J g w) fun i w=>Q0 a true w (fun w J=>J h w) fun e w=>Q0 a true w (Q1 P F.h [i,e]) fun b w=>Q0 a true w (B7 P T.b b 4) fun c w=>Q0 a true w (J8 P .not c) fun f w=>pick P a f (.bool false) w fun d w=>K d w
theorem Fl {a b:Value} {w:World} {K:Value→World→Prop} (h:Vr a b w K):Q1 P F.aD [a,b] w K:=Q9 (List.replicate 2 none) Tryz.func66 rfl (by decide) (by kernel_rfl) h
end Go.Proofs.YtjdiakhipmggjaaGreatDoor
