/- Parts of a proof about the given program: its functions as texts of their own, what each computes, plain laws of that. The conditions of each stand in its statement. -/
import Derived.WalkKit
import Derived.Test.YtfppjenblllfaaaGreatDoorProg
import Derived.KernelRfl
set_option linter.unnecessarySimpa false
set_option linter.defProp false
set_option linter.unusedSectionVars false
set_option linter.unusedVariables false
set_option linter.unusedSimpArgs false
namespace Go.Emb
def T5 (P:Program) (s:Sem Next) (w:World) (K:Value→World→Prop):Prop:=
 match s.run P w with
 | .ok (.value v) w'=>K v w'
 | .ok .skip w'=>K undef w'
 | .ok (.enter f a) w'=>Calls P f a w' fun e b=>match e with | .returned v=>K v b | _=>False
 | .ok (.row row a) w'=>Rows P row a w' K
 | _=>False
theorem X26: ∃f:Program→Sem Next→World→(Value→World→Prop)→Prop,f=T5:=⟨_,rfl⟩
noncomputable def op:Program→Sem Next→World→(Value→World→Prop)→Prop:=Classical.choose X26
theorem Qu:op=T5:=Classical.choose_spec X26
theorem X4s {P:Program} {o:Oper} {a:Act} {w:World} {next:Act→World→Prop} {Q:Exit→Act→World→Prop}
 (h:op P (execOp a.eval o) w (fun v w=>next (a.put o.dst v) w)):o.wp P a w next Q:=by
 unfold Oper.wp
 rw[Qu] at h
 unfold T5 at h
 cases b:(execOp a.eval o).run P w with
 | halt x w'=>rw[b] at h;exact h.elim
 | ok n w'=>
  rw[b] at h
  cases n<;>simp only at h<;>try exact h.elim
  ·exact h
  ·exact h
  ·refine Calls.mono h fun e d c=>?_
   cases e<;>first | exact c | exact c.elim
  ·exact h
theorem Ht {P:Program} {s:Sem Next} {K b:Value→World→Prop} {w:World} (a: ∀v w,K v w→b v w) (h:op P s w K):op P s w b:=by
 rw[Qu] at*
 unfold T5 at*
 cases c:s.run P w with
 | halt x w'=>rw[c] at h;exact h.elim
 | ok n w'=>
  rw[c] at h
  cases n<;>simp only at h⊢ <;>try exact h.elim
  ·exact a _ _ h
  ·exact a _ _ h
  ·refine Calls.mono h fun e f d=>?_
   cases e<;>first | exact a _ _ d | exact d.elim
  ·exact h.mono a
def sv (s:Sem Value):Sem Next:=do Pure.pure (.value (←s))
def su (s:Sem Unit):Sem Next:=do s;Pure.pure .skip
section
variable (P : Program)
noncomputable def pick (c a b:Value) (w:World) (K:Value→World→Prop):Prop:=op P (do Pure.pure (.value (if←asBool c then a else b))) w K
noncomputable def L3 (e:TypeId) (w:World) (K:Value→World→Prop):Prop:=op P (sv (Instr.alloc e true (.tuple #[]))) w K
noncomputable def box (e:TypeId) (x:Value) (w:World) (K:Value→World→Prop):Prop:=op P (sv (Instr.box e x)) w K
noncomputable def D7 (t:TypeId) (a:List (Nat×Value)) (w:World) (K:Value→World→Prop):Prop:=op P (sv (Instr.build t a.toArray)) w K
noncomputable def buildSlice (t:TypeId) (n:Nat) (a:List (Nat×Value)) (w:World) (K:Value→World→Prop):Prop:=op P (sv (Instr.buildSlice t n a.toArray)) w K
noncomputable def Q2 (t:TypeId) (a:Value) (w:World) (K:Value→World→Prop):Prop:=op P (sv (Instr.loadAt t a)) w K
noncomputable def Z6 (t:TypeId) (a x:Value) (w:World) (K:Value→World→Prop):Prop:=op P (su (Instr.storeAt t a x)) w K
noncomputable def nilCheck (x:Value) (w:World) (K:Value→World→Prop):Prop:=op P (execOp (fun _=>x) {dst:=none,op:= .nilCheck (.const x),type:=0,pos:= "",after:= #[],guard:=none}) w K
noncomputable def Q3 (o:BinOp) (t:TypeId) (b a:Operand) (x y:Value) (w:World) (K:Value→World→Prop):Prop:=op P (sv (do eqGuard o t b a x y;Go.binOp o t x y)) w K
noncomputable def J3 (o:UnOp) (x:Value) (w:World) (K:Value→World→Prop):Prop:=op P (sv (Op.unary o x)) w K
noncomputable def conv (s d:TypeId) (x:Value) (w:World) (K:Value→World→Prop):Prop:=op P (sv (Go.convert s d x)) w K
noncomputable def X2i (t:TypeId) (x:Value) (w:World) (K:Value→World→Prop):Prop:=op P (sv (Instr.makeInterface t x)) w K
noncomputable def N6 (f:Fn) (first caps:List Value) (w:World) (K:Value→World→Prop):Prop:=op P (sv (Instr.makeFunc f first.toArray caps.toArray)) w K
noncomputable def Cn (t:TypeId) (r:Option Value) (w:World) (K:Value→World→Prop):Prop:=op P (sv (Instr.makeMap t r)) w K
noncomputable def Ow (t:TypeId) (n c:Value) (w:World) (K:Value→World→Prop):Prop:=op P (sv (Instr.makeSlice t n c)) w K
noncomputable def R6 (t:TypeId) (x:Value) (a b c:Option Value) (w:World) (K:Value→World→Prop):Prop:=op P (sv (Instr.sliceAt t x a b c)) w K
noncomputable def fieldAddr (t:TypeId) (x:Value) (f:Nat) (w:World) (K:Value→World→Prop):Prop:=op P (sv (Instr.fieldAt t x f)) w K
noncomputable def We (t:TypeId) (x:Value) (f:Nat) (w:World) (K:Value→World→Prop):Prop:=op P (sv (Instr.field t x f)) w K
noncomputable def indexAddr (t:TypeId) (x i:Value) (w:World) (K:Value→World→Prop):Prop:=op P (sv (Instr.indexAt t x i)) w K
noncomputable def H2 (t:TypeId) (x i:Value) (w:World) (K:Value→World→Prop):Prop:=op P (sv (Instr.index t x i)) w K
noncomputable def lookup (t:TypeId) (x i:Value) (ok:Bool) (w:World) (K:Value→World→Prop):Prop:=op P (sv (Instr.lookup t x i ok)) w K
noncomputable def mapUpdate (t:TypeId) (m k x:Value) (w:World) (K:Value→World→Prop):Prop:=op P (su (Instr.mapUpdate t m k x)) w K
noncomputable def mapEntry (t:TypeId) (m k:Value) (w:World) (K:Value→World→Prop):Prop:=op P (sv (Instr.mapEntry t m k)) w K
noncomputable def entryStore (t:TypeId) (m s x:Value) (w:World) (K:Value→World→Prop):Prop:=op P (su (Instr.entryStore t m s x)) w K
noncomputable def rng (t:TypeId) (x:Value) (w:World) (K:Value→World→Prop):Prop:=op P (sv (Instr.range t x)) w K
noncomputable def U3 (b:Value) (a:Bool) (t:TypeId) (w:World) (K:Value→World→Prop):Prop:=op P (sv (Instr.next b a t)) w K
noncomputable def Q8C (a:Value) (w:World) (K:Value→World→Prop):Prop:=op P (sv (Instr.entry a)) w K
noncomputable def pnc (x:Value) (w:World) (K:Value→World→Prop):Prop:=op P (sv (Instr.panic x)) w K
noncomputable def ext (x:Value) (i:Nat) (w:World) (K:Value→World→Prop):Prop:=op P (sv (Instr.extract x i)) w K
noncomputable def X5 (b:Builtin) (a:List TypeId) (t:TypeId) (cs:List Bool) (xs:List Value) (w:World) (K:Value→World→Prop):Prop:=op P (Go.builtin b a.toArray t cs.toArray xs.toArray) w K
noncomputable def Q0 (f:FuncId) (xs:List Value) (w:World) (K:Value→World→Prop):Prop:=op P (callFunc f xs.toArray) w K
noncomputable def Z3 (f:Value) (xs:List Value) (w:World) (K:Value→World→Prop):Prop:=op P (do let d←Deferred.ofValue f xs.toArray;invoke d.target d.args) w K
end
def get (l:List Value) (t:Nat):Value:=l.getD t undef
def ev (l:List Value):Operand→Value
 | .tmp t=>get l t
 | .const v=>v
 | .global g=> .pointer (some ⟨g,0,none⟩)
 | .func f=> .func (.func f) #[] #[]
def put (l:List Value) (d:Option Tmp) (v:Value):List Value:=
 match d with
 | some d=>l.set d v
 | none=>l
def evs (l:List Value) (xs:Array Operand):List Value:=xs.toList.map (ev l)
def evp (l:List Value) (xs:Array (Nat×Operand)):List (Nat×Value):=xs.toList.map fun p=>(p.1,ev l p.2)
def evo (l:List Value) (x:Option Operand):Option Value:=match x with | some x=>some (ev l x) | none=>none
def isC:Operand→Bool | .const _=>true | _=>false
noncomputable def Ou (P:Program) (l:List Value) (o:Oper) (c:Call) (w:World) (K:Value→World→Prop):Prop:=
 match c.callee with
 | .builtin b=>X5 P b c.argTypes.toList o.type (c.args.toList.map isC) (evs l c.args) w K
 | .value (.func f)=>Q0 P f (evs l c.args) w K
 | .value f=>Z3 P (ev l f) (evs l c.args) w K
 | _=>op P (execOp (ev l) o) w K
noncomputable def V8 (P:Program) (l:List Value) (o:Oper) (w:World) (K:Value→World→Prop):Prop:=
 match o.op with
 | .move x=>K (ev l x) w
 | .assign x=>K (ev l x) w
 | .pick c a b=>pick P (ev l c) (ev l a) (ev l b) w K
 | .alloc e=>L3 P e w K
 | .box e x=>box P e (ev l x) w K
 | .build t g=>D7 P t (evp l g) w K
 | .buildSlice t n g=>buildSlice P t n (evp l g) w K
 | .load t a=>Q2 P t (ev l a) w K
 | .store t a x=>Z6 P t (ev l a) (ev l x) w K
 | .nilCheck x=>nilCheck P (ev l x) w K
 | .binOp op t x y _=>Q3 P op t x y (ev l x) (ev l y) w K
 | .unOp op _ x=>J3 P op (ev l x) w K
 | .convert s d x=>conv P s d (ev l x) w K
 | .makeInterface t x=>X2i P t (ev l x) w K
 | .makeFunc f first caps=>N6 P f (evs l first) (evs l caps) w K
 | .makeMap t r=>Cn P t (evo l r) w K
 | .makeSlice t n c=>Ow P t (ev l n) (ev l c) w K
 | .slice t x q p u=>R6 P t (ev l x) (evo l q) (evo l p) (evo l u) w K
 | .fieldAddr t x f=>fieldAddr P t (ev l x) f w K
 | .field t x f=>We P t (ev l x) f w K
 | .indexAddr t x i=>indexAddr P t (ev l x) (ev l i) w K
 | .index t x i=>H2 P t (ev l x) (ev l i) w K
 | .lookup t x i ok=>lookup P t (ev l x) (ev l i) ok w K
 | .mapUpdate t m k x=>mapUpdate P t (ev l m) (ev l k) (ev l x) w K
 | .insert t m k x=>mapUpdate P t (ev l m) (ev l k) (ev l x) w K
 | .mapEntry t m k=>mapEntry P t (ev l m) (ev l k) w K
 | .entryStore t m s x=>entryStore P t (ev l m) (ev l s) (ev l x) w K
 | .range t x=>rng P t (ev l x) w K
 | .next j h=>U3 P (ev l j) h o.type w K
 | .extract x i=>ext P (ev l x) i w K
 | .entry j=>Q8C P (ev l j) w K
 | .panic x=>pnc P (ev l x) w K
 | .call c=>Ou P l o c w K
 | _=>op P (execOp (ev l) o) w K
theorem Q99 {α β:Type} (f:α→β) (a:Array α):a.map f=(a.toList.map f).toArray:=by rw[←Array.toList_map,Array.toArray_toList]
theorem X2f (l:List Value) (x:Option Operand):x.map (ev l)=evo l x:=by cases x<;>rfl
theorem Q6z {P:Program} {l:List Value} {o:Oper} {c:Call} {K e:Value→World→Prop} {w:World} (d: ∀v w,K v w→e v w) (h:Ou P l o c w K):Ou P l o c w e:=by
 obtain ⟨a,g,i⟩:=c
 cases a with
 | builtin b=>exact Ht d h
 | invoke r m=>exact Ht d h
 | value f=>cases f<;>(simp only[Ou,Z3,Q0] at h⊢;exact Ht d h)
theorem G2 {P:Program} {l:List Value} {o:Oper} {K b:Value→World→Prop} {w:World} (a: ∀v w,K v w→b v w) (h:V8 P l o w K):V8 P l o w b:=by
 obtain ⟨d,p,e,pos,c,g⟩:=o
 cases p<;>first | exact a _ _ h | exact Q6z a h | exact Ht a h | (simp only[V8] at h⊢;exact Ht a h)
theorem Q7g {P:Program} {l:List Value} {o:Oper} {K:Value→World→Prop} {w:World} (h:V8 P l o w K):op P (execOp (ev l) o) w K:=by
 unfold V8 at h
 split at h<;>rename_i a
 all_goals first
  | exact h
  | (unfold execOp;rw[a];exact h)
  | (unfold execOp;rw[a];simp only[Q99,X2f];exact h)
  | (unfold execOp;rw[a,Qu];exact h)
  | skip
 rename_i c
 unfold Ou at h
 split at h<;>rename_i b
 ·unfold execOp;rw[a];simp only[resolve,b,Q99]
  simp only[pure_bind,invoke]
  unfold X5 at h
  simp only[Array.toArray_toList] at h
  refine (congrArg (fun z=>op P (builtin _ c.argTypes o.type (List.toArray z) _) w K) (List.map_congr_left (fun x _=>?_))).mp h
  cases x<;>rfl
 ·unfold execOp;rw[a];simp only[resolve,b,Q99]
  simp only[ev,Deferred.ofValue,pure_bind,invoke]
  simpa [Q0,evs] using h
 ·unfold execOp;rw[a];simp only[resolve,b,Q99]
  exact h
 ·exact h
def Ld (v:Value) (b:Bool) (w:World) (a:World→(Value→World→Prop)→Prop) (J:Value→World→Prop):Prop:=
 match v with
 | .bool c=>if c=b then a w J else J undef w
 | _=>J undef w
theorem X0b: ∃f:Value→Bool→World→(World→(Value→World→Prop)→Prop)→(Value→World→Prop)→Prop,f=Ld:=⟨_,rfl⟩
noncomputable def Q1:Value→Bool→World→(World→(Value→World→Prop)→Prop)→(Value→World→Prop)→Prop:=Classical.choose X0b
theorem Dl:Q1=Ld:=Classical.choose_spec X0b
def Q2E (v:Value) (t e:Prop):Prop:=
 match v with
 | .bool true=>t
 | .bool false=>e
 | _=>False
theorem Q9s: ∃f:Value→Prop→Prop→Prop,f=Q2E:=⟨_,rfl⟩
noncomputable def X1:Value→Prop→Prop→Prop:=Classical.choose Q9s
theorem Q6J:X1=Q2E:=Classical.choose_spec Q9s
noncomputable def Y4 (P:Program) (ops:List Oper) (next:List Value→World→Prop):List Oper→List Value→World→Prop
 | [],l,w=>next l w
 | o::a,l,w=>
  match o.guard with
  | none=>V8 P l o w (fun v w=>Y4 P ops next a (put l o.dst v) w)
  | some (j,b)=>match (ops[j]?).bind (·.dst) with
   | some d=>Q1 (get l d) b w (V8 P l o) (fun v w=>Y4 P ops next a (put l o.dst v) w)
   | none=>Y4 P ops next a (put l o.dst undef) w
def Po:Nat→Type
 | 0=>Unit
 | 1=>Value
 | n+2=>Value×Po (n+1)
def Ng (l:List Value):(a:List Nat)→Po a.length
 | []=>()
 | [s]=>get l s
 | s::t::r=>(get l s,Ng l (t::r))
def Hg (i:Nat) (e:Value):(a:List Nat)→Po a.length→Value
 | [],_=>e
 | [s],x=>if s=i then x else e
 | s::t::r,x=>if s=i then x.1 else Hg i e (t::r) x.2
def O7 (a b:List Nat) (x:Po a.length) (d:Nat→Value):Nat→List Value→List Value
 | _,[]=>[]
 | i,v::l=>Hg i (if b.contains i then d i else v) a x::O7 a b x d (i+1) l
def X1V (α:Type) (c:α) (w:World) (a:(α→World→Prop)→α→(Nat→Value)→World→Prop):Prop:=
 ∃(I:α→World→Prop) (μ:α→World→Nat),I c w∧ ∀x d w,I x w→a (fun b w'=>I b w'∧μ b w'<μ x w) x d w
theorem X1M: ∃f:(α:Type)→α→World→((α→World→Prop)→α→(Nat→Value)→World→Prop)→Prop,f=X1V:=⟨_,rfl⟩
noncomputable def lp {α:Type}:α→World→((α→World→Prop)→α→(Nat→Value)→World→Prop)→Prop:=Classical.choose X1M α
theorem X1J {α:Type} (b:α) (w:World) (a:(α→World→Prop)→α→(Nat→Value)→World→Prop):lp b w a=X1V α b w a:=
 congrFun (congrFun (congrFun (congrFun (Classical.choose_spec X1M) α) b) w) a
def X1S (α:Type) (w:World) (A:(α→World→Prop)→World→Prop) (B:α→(Nat→Value)→World→Prop):Prop:=
 ∃I:α→World→Prop,A I w∧ ∀x d w,I x w→B x d w
theorem X1G: ∃f:(α:Type)→World→((α→World→Prop)→World→Prop)→(α→(Nat→Value)→World→Prop)→Prop,f=X1S:=⟨_,rfl⟩
noncomputable def jn {α:Type}:World→((α→World→Prop)→World→Prop)→(α→(Nat→Value)→World→Prop)→Prop:=Classical.choose X1G α
theorem X1Y {α:Type} (w:World) (A:(α→World→Prop)→World→Prop) (B:α→(Nat→Value)→World→Prop):jn w A B=X1S α w A B:=
 congrFun (congrFun (congrFun (congrFun (Classical.choose_spec X1G) α) w) A) B
theorem Zg {α:Type} {w:World} {A:(α→World→Prop)→World→Prop} {B:α→(Nat→Value)→World→Prop} (I:α→World→Prop) (h:A I w) (a: ∀x d w,I x w→B x d w):jn w A B:=by
 rw[X1Y];exact ⟨I,h,a⟩
theorem Q6M {α:Type} {w:World} {A:(α→World→Prop)→World→Prop} {B:α→(Nat→Value)→World→Prop} (h:jn w A B): ∃I:α→World→Prop,A I w∧ ∀x d w,I x w→B x d w:=by
 rw[X1Y] at h;exact h
theorem Jo {α:Type} {b:α} {w:World} {a:(α→World→Prop)→α→(Nat→Value)→World→Prop} (I:α→World→Prop) (μ:α→World→Nat) (f:I b w)
 (e: ∀x d w,I x w→a (fun c w'=>I c w'∧μ c w'<μ x w) x d w):lp b w a:=by
 rw[X1J];exact ⟨I,μ,f,e⟩
theorem Q9w {α:Type} {b:α} {w:World} {a:(α→World→Prop)→α→(Nat→Value)→World→Prop} (h:lp b w a):
 ∃(I:α→World→Prop) (μ:α→World→Nat),I b w∧ ∀x d w,I x w→a (fun c w'=>I c w'∧μ c w'<μ x w) x d w:=by
 rw[X1J] at h;exact h
def D2 (ops:List Oper):List Nat:=ops.filterMap (·.dst)
def Qa:Code→Nat
 | .seq a b=>Qa a+Qa b+1
 | .cond _ a b=>Qa a+Qa b
 | .block _ c=>Qa c
 | .loop c=>Qa c+1
 | .scope c=>Qa c
 | _=>0
def L6 (d:List (Option (List Nat))):Nat→Code→List Nat
 | _, .region _ ops _=>D2 ops.toList
 | k, .seq a b=>(d.getD k none).getD []++(L6 d (k+1) a++L6 d (k+1+Qa a) b)
 | k, .cond _ a b=>L6 d k a++L6 d (k+Qa a) b
 | k, .block _ c=>L6 d k c
 | k, .loop c=>(d.getD k none).getD []++L6 d (k+1) c
 | k, .scope c=>L6 d k c
 | _,_=>[]
abbrev Es:=Exit→List Value→World→Prop
def thn (next:List Value→World→Prop) (Q:Es):Es
 | .normal,a,w=>next a w
 | e,a,w=>Q e a w
def Q2G (id:Nat) (Q:Es):Es
 | .exit b,a,w=>if b=id then Q .normal a w else Q (.exit b) a w
 | e,a,w=>Q e a w
noncomputable def Ol (P:Program) (a:List (Option (List Nat))):Nat→Code→Es→List Value→World→Prop
 | _, .skip,Q,l,w=>Q .normal l w
 | _, .label _,Q,l,w=>Q .normal l w
 | _, .exit id,Q,l,w=>Q (.exit id) l w
 | _, .ret,Q,l,w=>Q .ret l w
 | _, .region _ ops false,Q,l,w=>Y4 P ops.toList (fun l w=>Q .normal l w) ops.toList l w
 | _, .region _ ops true,Q,l,w=> ∀t,Y4 P ops.toList (fun l w=>Q .normal l w) ((Region.schedule (P.follows .mixedOrders) ops t).filterMap (ops[·]?)) l w.drew
 | k, .seq x y,Q,l,w=>match a.getD k none with
  | none=>Ol P a (k+1) x (thn (fun l w=>Ol P a (k+1+Qa x) y Q l w) Q) l w
  | some e=>jn w (fun J w=>Ol P a (k+1) x (thn (fun l' w'=>J (Ng l' e) w') Q) l w)
   (fun z d w=>Ol P a (k+1+Qa x) y Q (O7 e (L6 a (k+1) x) z d 0 l) w)
 | k, .cond c x y,Q,l,w=>X1 (ev l c) (Ol P a k x Q l w) (Ol P a (k+Qa x) y Q l w)
 | k, .block id c,Q,l,w=>Ol P a k c (Q2G id Q) l w
 | k, .loop c,Q,l,w=>
  lp (Ng l ((a.getD k none).getD [])) w (fun b x d w=>Ol P a (k+1) c (thn (fun l' w'=>b (Ng l' ((a.getD k none).getD [])) w') Q) (O7 ((a.getD k none).getD []) (L6 a (k+1) c) x d 0 l) w)
 | _,_,_,_,_=>False
theorem Q90 {ops:List Oper} {l:List Value} {o:Oper} {j:Nat} {b:Bool} (e:o.guard=some (j,b)) {d:Nat} (a:(ops[j]?).bind (·.dst)=some d):
 Region.wanted o (yielded ops.toArray l.toArray)=true↔get l d= .bool b:=by
 unfold Region.wanted yielded
 rw[e]
 simp only[List.getElem?_toArray]
 rw[a]
 simp only[Option.bind_some,get,List.getD_eq_getElem?_getD]
 have key: ∀x:Option Value,((match x with | some (.bool c)=>some c | _=>none)==some b)=true↔x.getD undef= .bool b:=by
  intro x
  cases x with
  | none=>simp[undef]
  | some v=>cases v<;>simp
 exact key _
theorem Q7l {ops:List Oper} {l:List Value} {o:Oper} {j:Nat} {b:Bool} (c:o.guard=some (j,b)) (a:(ops[j]?).bind (·.dst)=none):
 Region.wanted o (yielded ops.toArray l.toArray)=false:=by
 unfold Region.wanted yielded
 rw[c]
 simp only[List.getElem?_toArray]
 rw[a]
 rfl
theorem Vr {v:Value} {b:Bool} {a:World→(Value→World→Prop)→Prop} {J:Value→World→Prop} {w:World} (h:Q1 v b w a J):
 (v= .bool b∧a w J)∨(v≠ .bool b∧J undef w):=by
 rw[Dl] at h
 unfold Ld at h
 split at h
 ·split at h
  ·rename_i c;subst c;exact .inl ⟨rfl,h⟩
  ·rename_i c;exact .inr ⟨by simp[c],h⟩
 ·rename_i d;exact .inr ⟨d b,h⟩
theorem Q0a {v:Value} {b:Bool} {a:World→(Value→World→Prop)→Prop} {J:Value→World→Prop} {w:World}
 (h:(v= .bool b∧a w J)∨(v≠ .bool b∧J undef w)):Q1 v b w a J:=by
 rw[Dl]
 unfold Ld
 split
 ·split
  ·rename_i c;subst c
   rcases h with h | h
   ·exact h.2
   ·exact absurd rfl h.1
  ·rename_i c
   rcases h with h | h
   ·exact absurd (Value.bool.inj h.1) c
   ·exact h.2
 ·rename_i d
  rcases h with h | h
  ·exact absurd h.1 (d b)
  ·exact h.2
theorem Q3J (a:Act):a.eval=ev a.tmps.toList:=by
 funext x
 cases x<;>simp[Act.eval,ev,get,List.getD_eq_getElem?_getD]
theorem Q8y (a:Act) (d:Option Tmp) (v:Value):(a.put d v).tmps.toList=put a.tmps.toList d v:=by
 cases d<;>simp[Act.put,put]
theorem Q9d (a:Act) (d:Option Tmp) (v:Value):(a.put d v).defers=a.defers:=by
 cases d<;>simp[Act.put]
def lift (Q:Es):Exit→Act→World→Prop:=fun e a w=>a.defers=[]∧Q e a.tmps.toList w
theorem Ao (P:Program) (ops:Array Oper) (Q:Exit→Act→World→Prop) (next:List Value→World→Prop)
 (y: ∀a w,a.defers=[]→next a.tmps.toList w→Q .normal a w) (is:List Nat) (q: ∀i∈is,i<ops.size):
 ∀(a:Act) (w:World),a.defers=[]→Y4 P ops.toList next (is.filterMap (ops[·]?)) a.tmps.toList w→wpOps P ops Q is a w:=by
 induction is with
 | nil=>intro a w o h;exact y a w o h
 | cons i is t=>
  intro a w o h
  have p:=q i (by simp)
  have m:ops[i]? =some ops[i]:=by simp[p]
  rw[List.filterMap_cons,m] at h
  simp only[Y4] at h
  simp only[wpOps,m]
  have s:ops.toList.toArray=ops:=by simp
  have r:a.tmps.toList.toArray=a.tmps:=by simp
  have f: ∀{v w},Y4 P ops.toList next (is.filterMap (ops[·]?)) (put a.tmps.toList ops[i].dst v) w→wpOps P ops Q is (a.put ops[i].dst v) w:=by
   intro v w e
   refine t (fun j u=>q j (by simp[u])) _ _ (by rw[Q9d];exact o) ?_
   rw[Q8y];exact e
  have k:V8 P a.tmps.toList ops[i] w (fun v w=>Y4 P ops.toList next (is.filterMap (ops[·]?)) (put a.tmps.toList ops[i].dst v) w)→
   ops[i].wp P a w (wpOps P ops Q is) Q:=by
   intro h
   refine X4s ?_
   rw[Q3J]
   exact Ht (fun v w e=>f e) (Q7g h)
  split at h
  ·rename_i n
   rw[if_pos (by simp[Region.wanted,n])]
   exact .inl (k h)
  ·rename_i j b n
   split at h
   ·rename_i d c
    have g:=Q90 (ops:=ops.toList) (l:=a.tmps.toList) n c
    rw[s,r] at g
    rcases Vr h with ⟨e,h⟩ | ⟨e,h⟩
    ·rw[if_pos (g.2 e)];exact .inl (k h)
    ·rw[if_neg (fun h=>e (g.1 h))];exact f h
   ·rename_i c
    have g:=Q7l (ops:=ops.toList) (l:=a.tmps.toList) n c
    rw[s,r] at g
    rw[if_neg (by rw[g];simp)];exact f h
theorem Pw (ops:Array Oper):(List.range ops.size).filterMap (ops[·]?)=ops.toList:=by
 apply List.ext_getElem?
 intro i
 rw[←Array.length_toList]
 have: ∀l:List Oper,(List.range l.length).filterMap (l[·]?)=l:=by
  intro l
  induction l with
  | nil=>rfl
  | cons x l a=>
   rw[List.length_cons,List.range_succ_eq_map,List.filterMap_cons]
   simp only[List.getElem?_cons_zero,List.filterMap_map]
   congr 1
 have h:=this ops.toList
 simp only[Array.getElem?_toList] at h
 rw[h]
theorem Q1R (b:Bool) (ops:Array Oper) (t:Nat): ∀i∈Region.schedule b ops t,i<ops.size:=by
 have key: ∀m c t a e,(∀i∈e,i<ops.size)→ ∀i∈Region.linearise.go m ops c t a e,i<ops.size:=by
  intro m c
  induction c with
  | zero=>intro t a e h i d;simp[Region.linearise.go] at d;exact h i d
  | succ c g=>
   intro t a e h i d
   simp only[Region.linearise.go] at d
   split at d
   ·rename_i j f
    refine g _ _ _ ?_ i d
    intro k hk
    rcases List.mem_cons.1 hk with rfl | hk
    ·have:=List.mem_of_getElem? f
     simp only[List.mem_filter,List.mem_range] at this
     exact this.1
    ·exact h k hk
   ·simp at d;exact h i d
 intro i d
 unfold Region.schedule at d
 split at d
 ·exact key _ _ _ _ _ (by simp) i d
 ·exact key _ _ _ _ _ (by simp) i d
def Qe (W:List Nat) (l l':List Value):Prop:=l'.length=l.length∧ ∀i,W.contains i=false→l'[i]? =l[i]?
theorem Qe.refl (W:List Nat) (l:List Value):Qe W l l:=⟨rfl,fun _ _=>rfl⟩
theorem Qe.trans {W:List Nat} {a b c:List Value} (h:Qe W a b) (k:Qe W b c):Qe W a c:=
 ⟨k.1.trans h.1,fun i d=>(k.2 i d).trans (h.2 i d)⟩
theorem St (a b:List Nat) (x:Po a.length) (d:Nat→Value) (l:List Value): ∀i,(O7 a b x d i l).length=l.length:=by
 induction l with
 | nil=>intro i;rfl
 | cons v l c=>intro i;simp[O7,c]
theorem Cw (a b:List Nat) (x:Po a.length) (d:Nat→Value) (l:List Value): ∀i j,(O7 a b x d i l)[j]? =(l[j]?).map fun v=>Hg (i+j) (if b.contains (i+j) then d (i+j) else v) a x:=by
 induction l with
 | nil=>intro i j;simp[O7]
 | cons v l c=>
  intro i j
  cases j with
  | zero=>simp[O7]
  | succ j=>simp only[O7,List.getElem?_cons_succ,c];rw[show i+1+j=i+(j+1) from by omega]
theorem Va (i:Nat) (e:Value): ∀(b:List Nat) (x:Po b.length),b.contains i=false→Hg i e b x=e
 | [],_,_=>rfl
 | [s],x,h=>by
  have a: ¬s=i:=by intro a;subst a;simp at h
  exact if_neg a
 | s::t::r,x,h=>by
  simp only[Hg]
  split
  ·rename_i a;subst a;simp at h
  ·refine Va i e (t::r) x.2 ?_
   simp only[List.contains_cons,Bool.or_eq_false_iff] at h⊢
   exact h.2
theorem Q6d (l:List Value) (i:Nat) (e c:Value): ∀(a:List Nat),a.contains i=true→Hg i e a (Ng l a)=get l i
 | [],h=>by simp at h
 | [s],h=>by
  simp only[List.contains_cons,List.contains_nil,Bool.or_false,beq_iff_eq] at h
  subst h;simp[Hg,Ng]
 | s::t::r,h=>by
  simp only[Hg,Ng]
  split
  ·rename_i b;subst b;rfl
  ·rename_i b
   refine Q6d l i e c (t::r) ?_
   simp only[List.contains_cons,Bool.or_eq_true,beq_iff_eq] at h⊢
   rcases h with h | h
   ·exact absurd h.symm b
   ·exact h
theorem Kk (a c:List Nat) (l l':List Value) (j:l'.length=l.length)
 (h: ∀i,a.contains i=false→c.contains i=false→l'[i]? =l[i]?):l'=O7 a c (Ng l' a) (get l') 0 l:=by
 apply List.ext_getElem?
 intro i
 rw[Cw]
 simp only[Nat.zero_add]
 cases f:l[i]? with
 | none=>
  have:=List.getElem?_eq_none_iff.1 f
  simp only[Option.map_none]
  exact List.getElem?_eq_none (by omega)
 | some v=>
  have m:i<l.length:=(List.getElem?_eq_some_iff.1 f).1
  have k:l'[i]? =some (get l' i):=by
   simp only[get,List.getD_eq_getElem?_getD]
   rw[List.getElem?_eq_getElem (by omega)];rfl
  rw[k]
  simp only[Option.map_some,Option.some.injEq]
  by_cases g:a.contains i=true
  ·rw[Q6d l' i _ undef a g]
  ·have b:a.contains i=false:=by simpa using g
   rw[Va _ _ _ _ b]
   by_cases e:c.contains i=true
   ·rw[if_pos e]
   ·have d:c.contains i=false:=by simpa using e
    rw[if_neg e]
    have:=h i b d
    rw[k,f] at this
    exact Option.some.inj this
theorem Q48 {v:Value} {t e a b:Prop} (c:t→a) (d:e→b) (h:X1 v t e):X1 v a b:=by
 rw[Q6J] at*
 unfold Q2E at*
 split at h
 ·exact c h
 ·exact d h
 ·exact h.elim
theorem Jg (P:Program) (c:List Oper) (next a:List Value→World→Prop) (W:List Nat) (k:List Value): ∀(ops:List Oper) (l:List Value) (w:World),
 (∀o∈ops,∀d,o.dst=some d→W.contains d=true)→Qe W k l→(∀l w,next l w→Qe W k l→a l w)→Y4 P c next ops l w→Y4 P c a ops l w
 | [],l,w,_,j,p,h=>p l w h j
 | o::f,l,w,r,j,p,h=>by
  have g: ∀v,Qe W k (put l o.dst v):=by
   intro v
   cases t:o.dst with
   | none=>exact j
   | some d=>
    have y:=r o (by simp) d t
    refine j.trans ⟨by simp[put],fun i q=>?_⟩
    have:d≠i:=by intro e;subst e;rw[y] at q;cases q
    simp[put,this]
  have b: ∀v w,Y4 P c next f (put l o.dst v) w→Y4 P c a f (put l o.dst v) w:=fun v w s=>
   Jg P c next a W k f _ w (fun o u=>r o (by simp[u])) (g v) p s
  simp only[Y4] at h⊢
  split at h
  ·exact G2 b h
  ·split at h
   ·refine Q0a ((Vr h).imp (fun ⟨n,m⟩=>⟨n,G2 b m⟩) (fun ⟨n,m⟩=>⟨n,b _ _ m⟩))
   ·exact b _ _ h
theorem Q4A {α:Type} {e:α} {c a:(α→World→Prop)→α→(Nat→Value)→World→Prop} {w:World}
 (i: ∀b x d w,c b x d w→a b x d w) (h:lp e w c):lp e w a:=by
 obtain ⟨I,μ,j,f⟩:=Q9w h
 exact Jo I μ j fun x d w g=>i _ _ _ _ (f x d w g)
theorem K2 {a b:List Nat} {i:Nat} (h:a.contains i=true):(a++b).contains i=true:=by simp at h⊢;exact .inl h
theorem D9 {a b:List Nat} {i:Nat} (h:b.contains i=true):(a++b).contains i=true:=by simp at h⊢;exact .inr h
theorem Q4P (P:Program) (q:List (Option (List Nat))) (c:Code): ∀(k:Nat) (Q A:Es) (W:List Nat) (m l:List Value) (w:World),
 (∀i,(L6 q k c).contains i=true→W.contains i=true)→Qe W m l→
 (∀e l w,Q e l w→Qe W m l→A e l w)→Ol P q k c Q l w→Ol P q k c A l w:=by
 induction c with
 | skip=>intro k Q A W m l w _ g j h;exact j _ _ _ h g
 | label n=>intro k Q A W m l w _ g j h;exact j _ _ _ h g
 | exit id=>intro k Q A W m l w _ g j h;exact j _ _ _ h g
 | ret=>intro k Q A W m l w _ g j h;exact j _ _ _ h g
 | goto n=>intro k Q A W m l w _ g j h;exact h.elim
 | refuse s=>intro k Q A W m l w _ g j h;exact h.elim
 | scope c=>intro k Q A W m l w _ g j h;exact h.elim
 | rangeFunc f p a b=>intro k Q A W m l w _ g j h;exact h.elim
 | region id ops M=>
  intro k Q A W m l w B g j h
  have L: ∀o∈ops.toList,∀d,o.dst=some d→W.contains d=true:=by
   intro o R d hd
   refine B d ?_
   simp only[L6,D2,List.contains_eq_mem,List.mem_filterMap,decide_eq_true_eq]
   exact ⟨o,R,hd⟩
  cases M with
  | false=>exact Jg P _ _ _ W m _ _ _ L g (fun l w Z g=>j _ _ _ Z g) h
  | true=>
   intro t
   refine Jg P _ _ _ W m _ _ _ ?_ g (fun l w Z g=>j _ _ _ Z g) (h t)
   intro o R
   simp only[List.mem_filterMap] at R
   obtain ⟨i,_,r⟩:=R
   exact L o (by simpa using Array.mem_of_getElem? r)
 | seq x y D E=>
  intro k Q A W m l w B g j h
  have V: ∀i,(L6 q (k+1) x).contains i=true→W.contains i=true:=fun i r=>B i (D9 (K2 r))
  have hy: ∀i,(L6 q (k+1+Qa x) y).contains i=true→W.contains i=true:=fun i r=>B i (D9 (D9 r))
  simp only[Ol] at h⊢
  split at h
  ·refine D _ _ _ W m l w V g ?_ h
   intro e l' w' C u
   cases e with
   | normal=>exact E _ _ _ W m l' w' hy u j C
   | _=>exact j _ _ _ C u
  ·rename_i sl X
   obtain ⟨J,O,N⟩:=Q6M h
   refine Zg J (D _ _ _ W m l w V g ?_ O) fun z d w hz=>?_
   ·intro e l' w' C u
    cases e with
    | normal=>exact C
    | _=>exact j _ _ _ C u
   ·refine E _ _ _ W m _ w hy (g.trans ⟨St _ _ _ _ _ _,fun i r=>?_⟩) j (N z d w hz)
    rw[Cw]
    have O:sl.contains i=false:=by
     cases H:sl.contains i with
     | false=>rfl
     | true=>rw[B i (K2 (by rw[X];exact H))] at r;cases r
    have N:(L6 q (k+1) x).contains i=false:=by
     cases H:(L6 q (k+1) x).contains i with
     | false=>rfl
     | true=>rw[V i H] at r;cases r
    simp only[Nat.zero_add]
    cases hl:l[i]? with
    | none=>rfl
    | some v=>simp only[Option.map_some,Va _ _ _ _ O,N,Bool.false_eq_true,if_false]
 | cond c x y D E=>
  intro k Q A W m l w B g j h
  exact Q48 (D k _ _ W m l w (fun i r=>B i (K2 r)) g j) (E _ _ _ W m l w (fun i r=>B i (D9 r)) g j) h
 | block id c U=>
  intro k Q A W m l w B g j h
  refine U k _ _ W m l w B g ?_ h
  intro e l' w' C u
  cases e with
  | exit ae=>simp only[Q2G] at C⊢;split<;>rename_i Y<;>simp only[Y,if_true,if_false] at C<;>exact j _ _ _ C u
  | _=>exact j _ _ _ C u
 | loop c U=>
  intro k Q A W m l w B g j h
  refine Q4A (fun aa x d w hb=>?_) h
  refine U _ _ _ W m _ _ (fun i r=>B i (D9 r)) ?_ ?_ hb
  ·refine g.trans ⟨St _ _ _ _ _ _,fun i r=>?_⟩
   rw[Cw]
   have O:((q.getD k none).getD []).contains i=false:=by
    cases H:((q.getD k none).getD []).contains i with
    | false=>rfl
    | true=>rw[B i (K2 H)] at r;cases r
   have N:(L6 q (k+1) c).contains i=false:=by
    cases H:(L6 q (k+1) c).contains i with
    | false=>rfl
    | true=>rw[B i (D9 H)] at r;cases r
   simp only[Nat.zero_add]
   cases hl:l[i]? with
   | none=>rfl
   | some v=>simp only[Option.map_some,Va _ _ _ _ O,N,Bool.false_eq_true,if_false]
  ·intro e l' w' C u
   cases e with
   | normal=>exact C
   | _=>exact j _ _ _ C u
theorem Q9V (P:Program) (g:List (Option (List Nat))) (c:Code): ∀(k:Nat) (Q:Es) (a:Act) (w:World),
 a.defers=[]→Ol P g k c Q a.tmps.toList w→c.wp P (lift Q) a w:=by
 induction c with
 | skip=>intro k Q a w j h;exact wp_skip ⟨j,h⟩
 | label n=>intro k Q a w j h;exact wp_label ⟨j,h⟩
 | exit id=>intro k Q a w j h;exact wp_exit ⟨j,h⟩
 | ret=>intro k Q a w j h;exact wp_ret ⟨j,h⟩
 | goto n=>intro k Q a w j h;exact h.elim
 | refuse s=>intro k Q a w j h;exact h.elim
 | scope c=>intro k Q a w j h;exact h.elim
 | rangeFunc f p a b=>intro k Q a w j h;exact h.elim
 | region id ops z=>
  intro k Q a w j h
  cases z with
  | false=>
   refine wp_region (Ao P ops _ _ (fun a w j h=>⟨j,h⟩) _ (by simp) a w j ?_)
   rw[Pw];exact h
  | true=>
   refine wp_region_draw fun t=>?_
   exact Ao P ops _ _ (fun a w j h=>⟨j,h⟩) _ (Q1R _ _ _) a _ j (h t)
 | seq x y r u=>
  intro k Q a w j h
  simp only[Ol] at h
  split at h
  ·refine wp_seq (wp_mono (r _ _ a w j h) ?_)
   intro e o w' ⟨m,q⟩
   cases e with
   | normal=>exact u _ _ o w' m q
   | _=>exact ⟨m,q⟩
  ·rename_i Y aa
   obtain ⟨J,R,D⟩:=Q6M h
   have H:=Q4P P g x (k+1) _ (fun e l' w'=>thn (fun l' w'=>J (Ng l' Y) w') Q e l' w'∧Qe (L6 g (k+1) x) a.tmps.toList l') (L6 g (k+1) x) a.tmps.toList a.tmps.toList w (fun _ h=>h) (Qe.refl _ _) (fun e l w h M=>⟨h,M⟩) R
   refine wp_seq (wp_mono (r (k+1) _ a w j H) ?_)
   intro e o w' ⟨m,q,B⟩
   cases e with
   | normal=>
    refine u (k+1+Qa x) _ o w' m ?_
    rw[Kk Y (L6 g (k+1) x) a.tmps.toList o.tmps.toList B.1 (fun i _ h=>B.2 i h)]
    exact D _ _ _ q
   | _=>exact ⟨m,q⟩
 | cond c x y r u=>
  intro k Q a w j h
  simp only[Ol,Q6J,Q2E] at h
  split at h
  ·rename_i U
   exact wp_cond_true (by rw[Q3J];exact U) (r _ _ _ _ j h)
  ·rename_i U
   exact wp_cond_false (by rw[Q3J];exact U) (u _ _ _ _ j h)
  ·exact h.elim
 | block id c L=>
  intro k Q a w j h
  refine wp_block (wp_mono (L k _ a w j h) ?_)
  intro e o w' ⟨m,q⟩
  cases e with
  | exit ac=>
   simp only[Q2G,Exit.inBlock] at q⊢
   split<;>rename_i V<;>simp only[V,if_true,if_false] at q<;>exact ⟨m,q⟩
  | _=>exact ⟨m,q⟩
 | loop c L=>
  intro k Q a w j h
  obtain ⟨I,μ,h0,hr⟩:=Q9w h
  refine wp_loop (fun o w'=>o.defers=[]∧(∃d,o.tmps.toList=O7 ((g.getD k none).getD []) (L6 g (k+1) c) (Ng o.tmps.toList ((g.getD k none).getD [])) d 0 a.tmps.toList)∧I (Ng o.tmps.toList ((g.getD k none).getD [])) w') (fun o w'=>μ (Ng o.tmps.toList ((g.getD k none).getD [])) w') ⟨j,⟨get a.tmps.toList,Kk _ _ _ _ rfl (fun _ _ _=>rfl)⟩,h0⟩ ?_
  intro A w1 ⟨N,⟨d1,v⟩,O⟩
  have W:=hr _ d1 w1 O
  dsimp only at W
  rw[←v] at W
  have X:=Q4P P g c (k+1) _ (fun e l' w'=>thn (fun l' w'=>I (Ng l' ((g.getD k none).getD [])) w'∧μ (Ng l' ((g.getD k none).getD [])) w'<μ (Ng A.tmps.toList ((g.getD k none).getD [])) w1) Q e l' w'∧Qe (L6 g (k+1) c) A.tmps.toList l') (L6 g (k+1) c) A.tmps.toList A.tmps.toList w1 (fun _ h=>h) (Qe.refl _ _) (fun e l w h M=>⟨h,M⟩) W
  refine wp_mono (L _ _ A w1 N X) ?_
  intro e Z w2 ⟨C,D,E⟩
  cases e with
  | normal=>
   refine ⟨⟨C,⟨get Z.tmps.toList,Kk _ _ _ _ ?_ ?_⟩,D.1⟩,D.2⟩
   ·rw[E.1,v,St]
   ·intro i R H
    rw[E.2 i H,v,Cw]
    simp only[Nat.zero_add,Va _ _ _ _ R,H,Bool.false_eq_true,if_false,Option.map_id']
  | _=>exact ⟨C,D⟩
def Q8U:List Value→Nat→Value→(List Value→Prop)→Prop
 | [],_,_,k=>k []
 | _::l,0,v,k=>k (v::l)
 | x::l,n+1,v,k=>Q8U l n v (fun l'=>k (x::l'))
def Q3W (l:List Value) (d:Option Tmp) (v:Value) (k:List Value→Prop):Prop:=
 match d with
 | some d=>Q8U l d v k
 | none=>k l
def Q8p:List Value→Nat→(Value→Prop)→Prop
 | [],_,k=>k undef
 | x::_,0,k=>k x
 | _::l,n+1,k=>Q8p l n k
def evK (l:List Value) (o:Operand) (k:Value→Prop):Prop:=
 match o with
 | .tmp t=>Q8p l t k
 | .const v=>k v
 | .global g=>k (.pointer (some ⟨g,0,none⟩))
 | .func f=>k (.func (.func f) #[] #[])
def Q2T (i:Nat) (e:Value):(a:List Nat)→Po a.length→(Value→Prop)→Prop
 | [],_,k=>k e
 | [s],x,k=>if s=i then k x else k e
 | s::t::r,x,k=>if s=i then k x.1 else Q2T i e (t::r) x.2 k
def Fl (a b:List Nat) (x:Po a.length) (d:Nat→Value):Nat→List Value→(List Value→Prop)→Prop
 | _,[],k=>k []
 | i,v::l,k=>match b.contains i with
  | true=>Q2T i (d i) a x (fun u=>Fl a b x d (i+1) l (fun l'=>k (u::l')))
  | false=>Q2T i v a x (fun u=>Fl a b x d (i+1) l (fun l'=>k (u::l')))
theorem X31 (l:List Value): ∀(n:Nat) (v:Value) (k:List Value→Prop),Q8U l n v k=k (l.set n v):=by
 induction l with
 | nil=>intro n v k;rfl
 | cons x l a=>intro n v k;cases n with
  | zero=>rfl
  | succ n=>simp only[Q8U,a,List.set_cons_succ]
theorem Q82 (l:List Value) (d:Option Tmp) (v:Value) (k:List Value→Prop):Q3W l d v k=k (put l d v):=by
 cases d with
 | none=>rfl
 | some d=>exact X31 l d v k
theorem X32 (l:List Value): ∀(n:Nat) (k:Value→Prop),Q8p l n k=k (get l n):=by
 induction l with
 | nil=>intro n k;rfl
 | cons x l a=>intro n k;cases n with
  | zero=>rfl
  | succ n=>simp only[Q8p,a];rfl
theorem X3Z (l:List Value) (o:Operand) (k:Value→Prop):evK l o k=k (ev l o):=by
 cases o with
 | tmp t=>exact X32 l t k
 | _=>rfl
theorem Q07 (i:Nat) (e:Value) (k:Value→Prop): ∀(a:List Nat) (x:Po a.length),Q2T i e a x k=k (Hg i e a x)
 | [],_=>rfl
 | [s],x=>by
  by_cases h:s=i
  ·exact (if_pos h).trans (congrArg k (if_pos h).symm)
  ·exact (if_neg h).trans (congrArg k (if_neg h).symm)
 | s::t::r,x=>by
  by_cases h:s=i
  ·exact (if_pos h).trans (congrArg k (if_pos h).symm)
  ·exact ((if_neg h).trans (Q07 i e k (t::r) x.2)).trans (congrArg k (if_neg h).symm)
theorem Q4D (a b:List Nat) (x:Po a.length) (d:Nat→Value) (l:List Value): ∀(i:Nat) (k:List Value→Prop),Fl a b x d i l k=k (O7 a b x d i l):=by
 induction l with
 | nil=>intro i k;rfl
 | cons v l c=>
  intro i k
  simp only[Fl,O7]
  split
  ·rename_i h;rw[Q07,c,if_pos h]
  ·rename_i h;rw[Q07,c,if_neg (by rw[h];simp)]
theorem Ch (b c a:List Nat) (h: ∀i,c.contains i=a.contains i) (x:Po b.length) (d:Nat→Value) (l:List Value): ∀i,O7 b c x d i l=O7 b a x d i l:=by
 induction l with
 | nil=>intro i;rfl
 | cons v l e=>intro i;simp only[O7,e,h]
noncomputable def I1 (P:Program) (ops:List Oper) (next:List Value→World→Prop):List Oper→List Value→World→Prop
 | [],l,w=>next l w
 | o::a,l,w=>
  match o.guard with
  | none=>match o.op with
   | .move x=>evK l x fun v=>Q3W l o.dst v fun l=>I1 P ops next a l w
   | .assign x=>evK l x fun v=>Q3W l o.dst v fun l=>I1 P ops next a l w
   | _=>V8 P l o w (fun v w=>Q3W l o.dst v fun l=>I1 P ops next a l w)
  | some (j,b)=>match (ops[j]?).bind (·.dst) with
   | some d=>Q1 (get l d) b w (V8 P l o) (fun v w=>Q3W l o.dst v fun l=>I1 P ops next a l w)
   | none=>Q3W l o.dst undef fun l=>I1 P ops next a l w
theorem Ho (P:Program) (ops:List Oper) (next:List Value→World→Prop) (os:List Oper): ∀(l:List Value) (w:World),I1 P ops next os l w=Y4 P ops next os l w:=by
 induction os with
 | nil=>intro l w;rfl
 | cons o a c=>
  intro l w
  obtain ⟨dst,p,e,pos,d,g⟩:=o
  cases g with
  | none=>cases p<;>simp only[I1,Y4,Q82,X3Z,c,V8]
  | some q=>obtain ⟨j,b⟩:=q;simp only[I1,Y4,Q82,c]
def P2 (T:World→World→Prop) (φ:Value→World→Prop):Prop:= ∀v w w',φ v w→T w w'→φ v w'
def dk (T:World→World→Prop) (φ:Value→World→Prop) (w:World):Value→World→Prop:=fun v w'=>T w w'∧φ v w'
def Q6u (T:World→World→Prop) (A:(Value→World→Prop)→Prop) (a:(Value→World→Prop)→Prop):Prop:=
 ∃φ,P2 T φ∧A φ∧a φ
theorem Q9x: ∃f:(World→World→Prop)→((Value→World→Prop)→Prop)→((Value→World→Prop)→Prop)→Prop,f=Q6u:=⟨_,rfl⟩
noncomputable def Q5:(World→World→Prop)→((Value→World→Prop)→Prop)→((Value→World→Prop)→Prop)→Prop:=Classical.choose Q9x
theorem X02:Q5=Q6u:=Classical.choose_spec Q9x
def Q8B (w:World) (A:(World→World→Prop)→(World→Prop)→Prop):Prop:= ∃T B,B w.drew∧(∀w w',B w→T w w'→B w')∧A T B
theorem X25: ∃f:World→((World→World→Prop)→(World→Prop)→Prop)→Prop,f=Q8B:=⟨_,rfl⟩
noncomputable def dr:World→((World→World→Prop)→(World→Prop)→Prop)→Prop:=Classical.choose X25
theorem X1L:dr=Q8B:=Classical.choose_spec X25
theorem Q15 {w:World} {A:(World→World→Prop)→(World→Prop)→Prop} (T:World→World→Prop) (B:World→Prop) (h:B w.drew) (a: ∀w w',B w→T w w'→B w') (b:A T B):dr w A:=by
 rw[X1L];exact ⟨T,B,h,a,b⟩
theorem W9 {T:World→World→Prop} {A a:(Value→World→Prop)→Prop} (φ:Value→World→Prop) (b:P2 T φ) (h:A φ) (c:a φ):Q5 T A a:=by
 rw[X02];exact ⟨φ,b,h,c⟩
def Q3M (T:World→World→Prop) (A a:(List Value→Value→World→Prop)→Prop):Prop:=
 ∃φ,(∀xs,P2 T (φ xs))∧A φ∧a φ
theorem Q7U: ∃f:(World→World→Prop)→((List Value→Value→World→Prop)→Prop)→((List Value→Value→World→Prop)→Prop)→Prop,f=Q3M:=⟨_,rfl⟩
noncomputable def Q2t:(World→World→Prop)→((List Value→Value→World→Prop)→Prop)→((List Value→Value→World→Prop)→Prop)→Prop:=Classical.choose Q7U
theorem Q88:Q2t=Q3M:=Classical.choose_spec Q7U
theorem Q7Z {T:World→World→Prop} {A a:(List Value→Value→World→Prop)→Prop} (φ:List Value→Value→World→Prop) (b: ∀xs,P2 T (φ xs)) (h:A φ) (c:a φ):Q2t T A a:=by
 rw[Q88];exact ⟨φ,b,h,c⟩
abbrev Iv:=Nat×Nat
def Ap (a:Nat→Iv):Prop:= ∀i j,i≠j→(a i).2≤(a j).1∨(a j).2≤(a i).1
def dkR (T:World→World→Prop) (φ:Iv→Value→World→Prop) (w:World):Value→World→Prop:=fun v w'=>T w w'∧φ (w.heap.size,w'.heap.size) v w'
def Q3x (T:World→World→Prop) (A a:(Iv→Value→World→Prop)→Prop):Prop:=
 ∃φ,(∀p,P2 T (φ p))∧A φ∧a φ
theorem Q84: ∃f:(World→World→Prop)→((Iv→Value→World→Prop)→Prop)→((Iv→Value→World→Prop)→Prop)→Prop,f=Q3x:=⟨_,rfl⟩
noncomputable def Q3F:(World→World→Prop)→((Iv→Value→World→Prop)→Prop)→((Iv→Value→World→Prop)→Prop)→Prop:=Classical.choose Q84
theorem Q7M:Q3F=Q3x:=Classical.choose_spec Q84
theorem Q8c {T:World→World→Prop} {A a:(Iv→Value→World→Prop)→Prop} (φ:Iv→Value→World→Prop) (b: ∀p,P2 T (φ p)) (h:A φ) (c:a φ):Q3F T A a:=by
 rw[Q7M];exact ⟨φ,b,h,c⟩
def Q6O (w:World) (A:(World→World→Prop)→(World→Prop)→Prop):Prop:= ∃T B,B w.drew∧(∀w w',B w→T w w'→B w')∧(∀w w',T w w'→w.heap.size≤w'.heap.size)∧A T B
theorem Q9J: ∃f:World→((World→World→Prop)→(World→Prop)→Prop)→Prop,f=Q6O:=⟨_,rfl⟩
noncomputable def drR:World→((World→World→Prop)→(World→Prop)→Prop)→Prop:=Classical.choose Q9J
theorem Q9G:drR=Q6O:=Classical.choose_spec Q9J
theorem X3R {w:World} {A:(World→World→Prop)→(World→Prop)→Prop} (T:World→World→Prop) (B:World→Prop) (h:B w.drew) (a: ∀w w',B w→T w w'→B w') (b: ∀w w',T w w'→w.heap.size≤w'.heap.size) (c:A T B):drR w A:=by
 rw[Q9G];exact ⟨T,B,h,a,b,c⟩
def Bt:Bool→((Nat→Iv)→Prop)→Prop
 | false,k=>k fun _=>(0,0)
 | true,k=> ∀a:Nat→Iv,Ap a→k a
def OkI:Bool→(Nat→Iv)→Prop
 | false,a=>a=fun _=>(0,0)
 | true,a=>Ap a
def Oe:Bool→World→Nat
 | false,_=>0
 | true,w=>w.heap.size
theorem Q5M {r:Bool} {k:(Nat→Iv)→Prop} (h:Bt r k) {b:Nat→Iv} (a:OkI r b):k b:=by
 cases r with
 | false=>have a:b=_:=a;subst a;exact h
 | true=>exact h b a
def Cj (r:Bool) (a:Nat→Iv) (w:World):Prop:=OkI r a∧ ∀q,(a q).2≤Oe r w
theorem Cj.init {r:Bool} {w:World}:Cj r (fun _=>(0,0)) w:=⟨by cases r<;>first | rfl | exact fun _ _ _=> .inl (Nat.le_refl _),fun _=>Nat.zero_le _⟩
theorem Cj.step {r:Bool} {c:Nat→Iv} {w w':World} (h:Cj r c w) (g:Oe r w≤Oe r w') (q:Nat):Cj r (fun n=>if n=q then (Oe r w,Oe r w') else c n) w':=by
 obtain ⟨a,d⟩:=h
 refine ⟨?_,fun n=>?_⟩
 ·cases r with
  | false=>
   have a:c=_:=a
   subst a
   funext n
   simp[Oe]
  | true=>
   intro i j b
   have a:Ap c:=a
   simp only
   by_cases f:i=q
   ·subst f
    rw[if_pos rfl,if_neg (Ne.symm b)]
    exact .inr (d j)
   ·rw[if_neg f]
    by_cases e:j=q
    ·subst e
     rw[if_pos rfl]
     exact .inl (d i)
    ·rw[if_neg e]
     exact a i j b
 ·simp only
  split
  ·exact Nat.le_refl _
  ·exact Nat.le_trans (d n) g
noncomputable def runOp (P:Program) (ops:List Oper) (l:List Value) (o:Oper) (w:World) (K:Value→World→Prop):Prop:=
 match o.guard with
 | none=>V8 P l o w K
 | some (j,b)=>match (ops[j]?).bind (·.dst) with
  | some d=>Q1 (get l d) b w (V8 P l o) K
  | none=>False
inductive Ent where
  | val (v : Value)
  | ref (j : Nat)
def Ent.at (u:Nat→Value):Ent→Value
 | .val v=>v
 | .ref j=>u j
def K3 (u:Nat→Value) (S:List Ent):List Value:=S.map (Ent.at u)
def getE:List Ent→Nat→Ent
 | [],_=> .val undef
 | x::_,0=>x
 | _::l,n+1=>getE l n
def entOf (S:List Ent):Operand→Ent
 | .tmp t=>getE S t
 | .const v=> .val v
 | .global g=> .val (.pointer (some ⟨g,0,none⟩))
 | .func f=> .val (.func (.func f) #[] #[])
def mv (o:Oper):Option Operand:=
 match o.guard with
 | some _=>none
 | none=>match o.op with
  | .move x=>some x
  | .assign x=>some x
  | _=>none
def Q2w:List Ent→Nat→Ent→List Ent
 | [],_,_=>[]
 | _::l,0,e=>e::l
 | x::l,n+1,e=>x::Q2w l n e
def putE (S:List Ent) (d:Option Nat) (e:Ent):List Ent:=
 match d with
 | some d=>Q2w S d e
 | none=>S
def H5 (o:Oper):List Nat:=o.op.operands.toList.filterMap fun | .tmp t=>some t | _=>none
def O8 (ops:List Oper) (o:Oper):List Nat:=
 match o.guard with
 | none=>[]
 | some (j,_)=>match (ops[j]?).bind (·.dst) with | some d=>[d] | none=>[]
def Q1c:List Nat→List Nat
 | []=>[]
 | x::l=>x::(Q1c l).filter (fun y=> !(y==x))
def Q58:Ent→List Nat
 | .ref j=>[j]
 | .val _=>[]
def Q1a (S:List Ent):List Nat→List Nat
 | []=>[]
 | s::l=>Q58 (getE S s)++Q1a S l
def refs (ops:List Oper) (S:List Ent) (o:Oper):List Nat:=Q1c (Q1a S (O8 ops o++H5 o))
def Sd:List Nat→(Nat→Value)→((Nat→Value)→Prop)→Prop
 | [],u,k=>k u
 | j::a,u,k=> ∀t:Value,Sd a (fun n=>if n=j then t else u n) k
abbrev Si:=List (Nat×List Nat×(List Value→Iv→Value→World→Prop))
def Ue:Si→Nat→Option (List Nat×(List Value→Iv→Value→World→Prop))
 | [],_=>none
 | (i,φ)::l,j=>if i=j then some φ else Ue l j
def Sn (b:Si) (u:Nat→Value) (c:Nat→Iv) (w:World) (a:Prop):List Nat→Prop
 | []=>a
 | j::d=>match Ue b j with
  | some ([],φ)=>φ [] (c j) (u j) w→Sn b u c w a d
  | _=>Sn b u c w a d
def Q19 (b:Si) (u:Nat→Value) (c:Nat→Iv) (w:World) (a:Prop):List Nat→Prop
 | []=>a
 | j::d=>match Ue b j with
  | some (R,φ)=>φ (R.map u) (c j) (u j) w→Q19 b u c w a d
  | none=>Q19 b u c w a d
def Q5R (o:Oper):Bool:=match o.op with | .store .. =>true | _=>false
def Q0D (o:Oper):Bool:=match o.op with | .call c=>(match c.callee with | .value (.func _)=>true | _=>false) | _=>false
def Q9g (r:Bool) (o:Oper):Bool:=match r with | true=>Q0D o | false=>false
noncomputable def chain (P:Program) (r:Bool) (ops:List Oper) (T:World→World→Prop) (B:World→Prop) (U3:List Value→World→Prop) (tail:List Oper):Nat→List Oper→List Ent→Si→List Nat→Prop
 | _,[],S,b,done=>Sd done (fun _=>undef) fun u=>Bt r fun c=> ∀w,B w→Q19 b u c w (I1 P ops U3 tail (K3 u S) w) done
 | i,o::a,S,b,done=>
  match mv o with
  | some x=>chain P r ops T B U3 tail (i+1) a (putE S o.dst (entOf S x)) b done
  | none=>match Q5R o with
   | true=>Q2t T (fun φ=>Sd (refs ops S o) (fun _=>undef) fun u=>Bt r fun c=> ∀w,B w→Sn b u c w (runOp P ops (K3 u S) o w (dk T (φ ((refs ops S o).map u)) w)) (refs ops S o))
    (fun φ=>chain P r ops T B U3 tail (i+1) a (putE S o.dst (.ref i)) (b++[(i,refs ops S o,fun xs (_:Iv)=>φ xs)]) (done++[i]))
   | false=>match Q9g r o with
    | true=>Q3F T (fun φ=>Sd (refs ops S o) (fun _=>undef) fun u=>Bt r fun c=> ∀w,B w→Sn b u c w (runOp P ops (K3 u S) o w (dkR T φ w)) (refs ops S o))
     (fun φ=>chain P r ops T B U3 tail (i+1) a (putE S o.dst (.ref i)) (b++[(i,[],fun (_:List Value)=>φ)]) (done++[i]))
    | false=>Q5 T (fun φ=>Sd (refs ops S o) (fun _=>undef) fun u=>Bt r fun c=> ∀w,B w→Sn b u c w (runOp P ops (K3 u S) o w (dk T φ w)) (refs ops S o))
     (fun φ=>chain P r ops T B U3 tail (i+1) a (putE S o.dst (.ref i)) (b++[(i,[],fun (_:List Value) (_:Iv)=>φ)]) (done++[i]))
def Qx:Op→Bool
 | .ready _ | .waits _ | .sliceToArrayPointer .. | .makeChan .. | .typeAssert .. | .go _ | .defer _ | .send .. | .recv .. | .select .. =>false
 | .call c=>match c.callee with | .invoke .. =>false | _=>true
 | _=>true
theorem Ck {l l':List Value} {x:Option Operand} (h: ∀y∈x.toArray,ev l y=ev l' y):evo l x=evo l' x:=by
 cases x with
 | none=>rfl
 | some y=>simp only[evo];rw[h y (by simp)]
theorem Q12 {l l':List Value} {xs:Array Operand} (h: ∀y∈xs,ev l y=ev l' y):evs l xs=evs l' xs:=by
 unfold evs;exact List.map_congr_left fun y a=>h y (by simpa using a)
theorem Q4H {l l':List Value} {xs:Array (Nat×Operand)} (h: ∀y∈(xs.toList.map (·.2)).toArray,ev l y=ev l' y):evp l xs=evp l' xs:=by
 unfold evp
 refine List.map_congr_left fun y a=>?_
 rw[h y.2 (by simp;exact ⟨y.1,by simpa using a⟩)]
theorem Dc {P:Program} {l l':List Value} {o:Oper} (k:Qx o.op=true) (h: ∀x∈o.op.operands,ev l x=ev l' x):V8 P l o=V8 P l' o:=by
 obtain ⟨d,p,B,pos,D,g⟩:=o
 funext w K
 cases p with
 | call c=>
  obtain ⟨j,i,C⟩:=c
  have q:evs l i=evs l' i:=Q12 fun y e=>h y (by simp[Op.operands,Call.operands];exact .inr e)
  cases j with
  | invoke r m=>simp[Qx] at k
  | builtin b=>simp only[V8,Ou,q]
  | value f=>
   have A:ev l f=ev l' f:=h f (by simp[Op.operands,Call.operands])
   cases f<;>simp only[V8,Ou,q,A]
 | build t v=>simp only[V8];rw[Q4H h]
 | buildSlice t n v=>simp only[V8];rw[Q4H h]
 | makeFunc f a b=>
  simp only[V8]
  rw[Q12 (xs:=a) fun y e=>h y (by simp[Op.operands];exact .inl e),Q12 (xs:=b) fun y e=>h y (by simp[Op.operands];exact .inr e)]
 | makeMap t r=>simp only[V8];rw[Ck h]
 | slice t x u s z=>
  simp only[V8]
  rw[h x (by simp[Op.operands]),Ck (x:=u) fun y e=>h y (by simp[Op.operands] at e⊢;simp[e]),Ck (x:=s) fun y e=>h y (by simp[Op.operands] at e⊢;simp[e]),Ck (x:=z) fun y e=>h y (by simp[Op.operands] at e⊢;simp[e])]
 | _=>first
  | (simp[Qx] at k;done)
  | (simp only[Op.operands,List.mem_toArray,List.mem_cons,List.not_mem_nil,or_false,forall_eq_or_imp,forall_eq] at h;simp only[V8,h];done)
  | rfl
def Ie:List Oper→List Nat→List Nat
 | [],acc=>acc
 | o::a,acc=>Ie a (acc++[(o.after.toList.filter (Region.binds .any)).foldl (fun s e=>s ||| 2 ^ e.on ||| acc.getD e.on 0) 0])
def T8 (a b:Oper):Bool:=
 match a.dst with
 | some d=>(H5 b).contains d||b.dst==some d
 | none=>false
def Q42 (a:List Nat) (ops:List Oper):Bool:=
 ops.zipIdx.all fun (o,j)=>ops.zipIdx.all fun (q,i)=> !(decide (i<j))|| !(T8 q o||T8 o q)||(a.getD j 0).testBit i
def Ju (ops:List Oper):Bool:=
 ops.zipIdx.all fun (o,i)=>Qx o.op&&(o.after.toList.filter (Region.binds .any)).all (fun e=>decide (e.on<i))&&
  match o.guard with | none=>true | some (j,_)=>(o.after.toList.filter (Region.binds .any)).any (fun e=>e.on==j)
def Q56 (m:Region.Mode) (ops:List Oper):List Nat→List Nat→Bool
 | [],_=>true
 | j::L,seen=>((ops[j]?.map fun o=>o.after.toList).getD []).all (fun e=> !Region.binds m e||seen.contains e.on)&&Q56 m ops L (j::seen)
def K6 (m:Region.Mode) (ops:List Oper) (L:List Nat):Bool:=
 Q56 m ops L []&&(List.range ops.length).all (L.contains ·)&&ops.all (fun o=>o.after.toList.all fun e=> !Region.binds m e||decide (e.on<ops.length))
def X1c (m:Region.Mode) (ops:List Oper):Nat→List Nat→List Nat→List Nat
 | 0,_,seen=>seen.reverse
 | n+1,a,seen=>
  match a.find? (fun j=>((ops[j]?.map fun o=>o.after.toList).getD []).all (fun e=> !Region.binds m e||seen.contains e.on)) with
  | some j=>X1c m ops n (a.erase j) (j::seen)
  | none=>seen.reverse
def Xh:List Nat→Bool
 | []=>true
 | x::l=> !l.contains x&&Xh l
def P0 (ops:List Oper) (j:Nat):List Nat:=(ops[j]?.map fun o=>(o.after.toList.filter (Region.binds .any)).map (·.on)).getD []
def Sc (ops:List Oper) (L:List Nat):Prop:= ∀b j a,L=b++j::a→ ∀i∈P0 ops j,i∈b
theorem Q6k (f:Edge→Nat) (l:List Edge): ∀(s i:Nat),(l.foldl (fun s e=>s ||| 2 ^ e.on ||| f e) s).testBit i=true→
 s.testBit i=true∨ ∃e∈l,e.on=i∨(f e).testBit i=true:=by
 induction l with
 | nil=>intro s i h;exact .inl h
 | cons e l c=>
  intro s i h
  rcases c _ _ h with h | ⟨a,b,h⟩
  ·simp only[Nat.testBit_or,Bool.or_eq_true] at h
   rcases h with (h | h) | h
   ·exact .inl h
   ·rw[Nat.testBit_two_pow] at h
    exact .inr ⟨e,by simp, .inl (by simpa using h)⟩
   ·exact .inr ⟨e,by simp, .inr h⟩
  ·exact .inr ⟨a,by simp[b],h⟩
theorem Q4E (a:List Oper): ∀(b:List Oper) (acc:List Nat),acc.length+b.length=a.length→(∀k,acc.length≤k→a[k]? =b[k-acc.length]?)→
 (∀j i,j<acc.length→(acc.getD j 0).testBit i=true→ ∃k∈P0 a j,k=i∨(k<j∧(acc.getD k 0).testBit i=true))→
 (∀j,j<a.length→ ∀k∈P0 a j,k<j)→
 ∀j i,j<a.length→((Ie b acc).getD j 0).testBit i=true→ ∃k∈P0 a j,k=i∨(k<j∧((Ie b acc).getD k 0).testBit i=true)
 | [],acc,q,_,c,_=>by
  intro j i t h
  exact c j i (by simp at q;omega) h
 | o::b,acc,q,l,c,p=>by
  have z:a[acc.length]? =some o:=by rw[l _ (Nat.le_refl _)];simp
  refine Q4E a b _ (by simp at q⊢;omega) ?_ ?_ p
  ·intro k f
   simp only[List.length_append,List.length_cons,List.length_nil] at f⊢
   rw[l k (by omega)]
   obtain ⟨m,v⟩: ∃m,k-acc.length=m+1:=⟨k-acc.length-1,by omega⟩
   rw[v,List.getElem?_cons_succ]
   congr 1;omega
  ·intro j i t h
   simp only[List.length_append,List.length_cons,List.length_nil] at t
   have d: ∀k,k<acc.length→(acc++[(o.after.toList.filter (Region.binds .any)).foldl (fun s e=>s ||| 2 ^ e.on ||| acc.getD e.on 0) 0]).getD k 0=acc.getD k 0:=by
    intro k f
    simp only[List.getD_eq_getElem?_getD]
    rw[List.getElem?_append_left f]
   by_cases n:j<acc.length
   ·rw[d j n] at h
    obtain ⟨k,f,h⟩:=c j i n h
    exact ⟨k,f,h.imp id fun ⟨y,w⟩=>⟨y,by rw[d k (by omega)];exact w⟩⟩
   ·have r:j=acc.length:=by omega
    subst r
    simp only[List.getD_eq_getElem?_getD,List.getElem?_append_right (Nat.le_refl _),Nat.sub_self,List.getElem?_cons_zero,Option.getD_some] at h
    rcases Q6k (fun e=>acc.getD e.on 0) _ _ _ (by simpa only[List.getD_eq_getElem?_getD] using h) with h | ⟨e,u,h⟩
    ·simp at h
    ·have g:e.on∈P0 a acc.length:=by
      unfold P0;rw[z];simp only[Option.map_some,Option.getD_some,List.mem_map];exact ⟨e,u,rfl⟩
     refine ⟨e.on,g,h.imp id fun h=>?_⟩
     have f:=p acc.length (by simp at q;omega) _ g
     exact ⟨f,by rw[d _ f];exact h⟩
theorem Ig {ops:List Oper} (h:Ju ops=true): ∀j,j<ops.length→ ∀k∈P0 ops j,k<j:=by
 intro j b k a
 simp only[Ju,List.all_eq_true,Bool.and_eq_true] at h
 unfold P0 at a
 rw[List.getElem?_eq_getElem b] at a
 simp only[Option.map_some,Option.getD_some,List.mem_map] at a
 obtain ⟨e,c,rfl⟩:=a
 have:=(h (ops[j],j) (by rw[List.mem_zipIdx_iff_getElem?];simp[b])).1.2 e c
 simpa using this
theorem Q5z {ops:List Oper} (l:Ju ops=true) {L:List Nat} (p:Sc ops L): ∀(j:Nat),j<ops.length→ ∀i b a,L=b++j::a→((Ie ops []).getD j 0).testBit i=true→i∈b:=by
 intro j
 induction j using Nat.strongRecOn with
 | _ j m=>
  intro d i b a f q
  obtain ⟨k,n,h⟩:=Q4E ops ops [] (by simp) (by simp) (by intro j i d;simp at d) (Ig l) j i d q
  have c:=p b j a f k n
  rcases h with rfl | ⟨e,h⟩
  ·exact c
  ·obtain ⟨g,o,rfl⟩:=List.append_of_mem c
   have:=m k e (by omega) i g (o++j::a) (by rw[f];simp) h
   exact List.mem_append_left _ this
theorem Vq: ∀(n:Nat) (a:List Nat),(∀k,k<n→k∈a)→n≤a.length
 | 0,_,_=>Nat.zero_le _
 | n+1,a,h=>by
  have e:=Vq n (a.erase n) fun k c=>(List.mem_erase_of_ne (by omega)).2 (h k (by omega))
  have d:=List.length_erase_of_mem (h n (by omega))
  have b:=List.length_pos_of_mem (h n (by omega))
  omega
theorem C7: ∀(n:Nat) (l:List Nat),l.Nodup→(∀k∈l,k<n)→l.length≤n
 | 0,l,_,h=>by
  cases l with
  | nil=>simp
  | cons x l=>exact absurd (h x (by simp)) (by omega)
 | n+1,l,b,h=>by
  by_cases c:n∈l
  ·have g:=C7 n (l.erase n) (b.erase n) fun k a=>by
    have f:=h k (List.mem_of_mem_erase a)
    have d:k≠n:=fun e=>by subst e;exact (List.Nodup.not_mem_erase b) a
    omega
   have f:=List.length_erase_of_mem c
   have d:=List.length_pos_of_mem c
   omega
  ·have:=C7 n l b fun k a=>by
    have f:=h k a
    have d:k≠n:=fun e=>by subst e;exact c a
    omega
   omega
theorem Q9U {m:Region.Mode} {e:Edge} (h:Region.binds .any e=true):Region.binds m e=true:=by
 unfold Region.binds at h⊢
 cases a:e.ground<;>rw[a] at h<;>first | rfl | (exact absurd h (by simp<;>rfl)) | (simp at h;cases h)
theorem Q8L {m:Region.Mode} {ops:List Oper} {L:List Nat} (h:K6 m ops L=true) (k:Nat) (a:k<ops.length): ∀e∈(ops[k]?.map fun o=>o.after.toList).getD [],Region.binds m e=true→e.on<ops.length:=by
 intro e b c
 simp only[K6,Bool.and_eq_true,List.all_eq_true] at h
 rw[List.getElem?_eq_getElem a] at b
 have:=h.2 ops[k] (List.getElem_mem a) e (by simpa using b)
 rw[c] at this
 simpa using this
theorem Q6N {m:Region.Mode} {ops:List Oper} {L:List Nat} (h:K6 m ops L=true): ∀k,k<ops.length→k∈L:=by
 intro k a
 simp only[K6,Bool.and_eq_true,List.all_eq_true] at h
 simpa using h.1.2 k (by simpa using a)
theorem Q87 (m:Region.Mode) (ops:Array Oper) (O:Ju ops.toList=true) (L0:List Nat) (R:K6 m ops.toList L0=true): ∀(fuel t:Nat) (listed:Array Bool) (a:List Nat),
 fuel+a.length=ops.size→listed.size=ops.size→(∀i,i<ops.size→(listed.getD i true=true↔i∈a))→a.Nodup→(∀i∈a,i<ops.size)→Sc ops.toList a.reverse→
 (Region.linearise.go m ops fuel t listed a).Nodup∧(Region.linearise.go m ops fuel t listed a).length=ops.size∧Sc ops.toList (Region.linearise.go m ops fuel t listed a)
 | 0,t,listed,a,hf,_,_,hn,_,hr=>by
  simp only[Region.linearise.go]
  exact ⟨List.pairwise_reverse.2 (hn.imp fun h=>Ne.symm h),by simp;omega,hr⟩
 | fuel+1,t,listed,a,hf,E,A,hn,M,hr=>by
  -- one that isn't listed may come
  have Z: ∃k,k<ops.size∧k∉a:=by
   refine Classical.byContradiction fun V=>?_
   have C: ∀k,k<ops.size→k∈a:=fun k hk=>Classical.byContradiction fun h=>V ⟨k,hk,h⟩
   have:=Vq ops.size a C
   omega
  simp only[Region.linearise.go]
  split
  ·rename_i i hi
   have l:=List.mem_of_getElem? hi
   simp only[List.mem_filter,List.mem_range,Bool.and_eq_true,Bool.not_eq_true'] at l
   obtain ⟨c,y,p⟩:=l
   have B:i∉a:=fun h=>by rw[(A i c).2 h] at y;cases y
   refine Q87 m ops O L0 R fuel _ _ _ (by simp;omega) (by simp[E]) ?_ (List.nodup_cons.2 ⟨B,hn⟩) ?_ ?_
   ·intro j hj
    by_cases r:i=j
    ·subst r;simp[Array.getD,E,c]
    ·have:(listed.setIfInBounds i true).getD j true=listed.getD j true:=by
      simp only[Array.getD_eq_getD_getElem?]
      rw[Array.getElem?_setIfInBounds_ne r]
     rw[this,A j hj]
     simp[Ne.symm r]
   ·intro j hj
    rcases List.mem_cons.1 hj with rfl | hj
    ·exact c
    ·exact M j hj
   ·rw[List.reverse_cons]
    intro af j s X k hk
    rcases List.eq_nil_or_concat s with rfl | ⟨q,x,rfl⟩
    ·have hh:=List.append_inj' X rfl
     obtain ⟨h1,h2⟩:=hh
     simp only[List.cons.injEq,and_true] at h2
     subst h2;subst h1
     have U:=hk
     unfold P0 at hk
     rw[show ops.toList[i]? =some ops[i] by simp[c]] at hk
     simp only[Option.map_some,Option.getD_some,List.mem_map,List.mem_filter] at hk
     obtain ⟨e,⟨f,ae⟩,rfl⟩:=hk
     rw[show ops[i]? =some ops[i] by simp[c]] at p
     simp only[Option.map_some,Option.getD_some,Array.all_eq_true'] at p
     have h4:=p e (by simpa using f)
     simp only[Bool.or_eq_true,Bool.not_eq_true'] at h4
     rcases h4 with h4 | h4
     ·rw[Q9U ae] at h4;cases h4
     ·have am:=Ig O i (by simpa using c) e.on U
      have:listed.getD e.on true=true:=by
       simp only[Array.getD_eq_getD_getElem?] at h4⊢
       rw[Array.getElem?_eq_getElem (by omega)] at h4⊢
       simpa using h4
      simpa using (A e.on (by omega)).1 this
    ·rw[List.concat_eq_append,←List.cons_append,←List.append_assoc] at X
     have hh:=List.append_inj' X rfl
     exact hr af j q hh.1 k hk
  ·rename_i n
   exfalso
   obtain ⟨k0,N,w⟩:=Z
   have z:=R
   simp only[K6,Bool.and_eq_true] at z
   -- every number of L0 that is none of an operation's has no edges: it may stand there, but isn't looked at
   have g: ∃k,k<ops.size∧k∉a∧ ∀e∈(ops.toList[k]?.map fun o=>o.after.toList).getD [],Region.binds m e=true→e.on∈a∨ops.size≤e.on:=by
    -- the first of L0 that is an operation's number and isn't listed
    have key: ∀(L b:List Nat),Q56 m ops.toList L b=true→(∀k∈b,k∈a∨ops.size≤k)→(∃k∈L,k<ops.size∧k∉a)→
     ∃k,k<ops.size∧k∉a∧ ∀e∈(ops.toList[k]?.map fun o=>o.after.toList).getD [],Region.binds m e=true→e.on∈a∨ops.size≤e.on:=by
     intro L
     induction L with
     | nil=>rintro b _ _ ⟨k,hk,_⟩;simp at hk
     | cons j L ih=>
      rintro b h hs ⟨k,hk,ac,H⟩
      simp only[Q56,Bool.and_eq_true,List.all_eq_true] at h
      by_cases hj:j∈a∨ops.size≤j
      ·refine ih (j::b) h.2 (fun x hx=>by rcases List.mem_cons.1 hx with rfl | hx;exact hj;exact hs x hx) ⟨k,?_,ac,H⟩
       rcases List.mem_cons.1 hk with rfl | hk
       ·rcases hj with hj | hj
        ·exact absurd hj H
        ·omega
       ·exact hk
      ·have W:j<ops.size:=by
        refine Nat.lt_of_not_le fun h=>hj (.inr h)
       refine ⟨j,W,fun h=>hj (.inl h),fun e O Q=>?_⟩
       have:=h.1 e O
       rw[Q] at this
       exact hs _ (by simpa using this)
    exact key L0 [] z.1.1 (by simp) ⟨k0,Q6N R k0 (by simpa using N),N,w⟩
   obtain ⟨k,d,Y,D⟩:=g
   by_cases u:k∈(List.range ops.size).filter fun i=> !listed.getD i true&&((ops[i]?).map (·.after.all fun e=> !Region.binds m e||listed.getD e.on false)).getD false
   ·have v:=List.length_pos_of_mem u
    have:=List.getElem?_eq_none_iff.1 n
    have:=Nat.mod_lt t v
    omega
   ·refine u ?_
    simp only[List.mem_filter,List.mem_range,Bool.and_eq_true,Bool.not_eq_true']
    refine ⟨d,?_,?_⟩
    ·cases hc:listed.getD k true with
     | false=>rfl
     | true=>exact absurd ((A k d).1 hc) Y
    ·rw[show ops[k]? =some ops[k] by simp[d]]
     simp only[Option.map_some,Option.getD_some,Array.all_eq_true']
     intro e f
     simp only[Bool.or_eq_true,Bool.not_eq_true']
     cases Q:Region.binds m e with
     | false=>exact .inl rfl
     | true=>
      right
      rw[show ops.toList[k]? =some ops[k] by simp[d]] at D
      rcases D e (by simpa using f) Q with h | h
      ·have J:=M _ h
       have:=(A e.on J).2 h
       simp only[Array.getD_eq_getD_getElem?] at this⊢
       rw[Array.getElem?_eq_getElem (by omega)] at this⊢
       simpa using this
      ·exact absurd h (by
        have:=Q8L R k (by simpa using d) e (by rw[show ops.toList[k]? =some ops[k] by simp[d]];simpa using f) Q
        simp at this;omega)
theorem Q4T (b:Bool) (ops:Array Oper) (t:Nat) (f:Ju ops.toList=true) (e: ∀m,∃L,K6 m ops.toList L=true):
 (Region.schedule b ops t).Nodup∧(Region.schedule b ops t).length=ops.size∧Sc ops.toList (Region.schedule b ops t):=by
 have key: ∀m t,(Region.linearise m ops t).Nodup∧(Region.linearise m ops t).length=ops.size∧Sc ops.toList (Region.linearise m ops t):=by
  intro m t
  obtain ⟨L,c⟩:=e m
  refine Q87 m ops f L c _ _ _ _ (by simp) (by simp) ?_ List.nodup_nil (by simp) ?_
  ·intro i d;simp[Array.getD,d]
  ·intro g j a h;simp at h
 unfold Region.schedule
 split<;>exact key _ _
theorem Yg: ∀(ops:List Oper),Xh (D2 ops)=true→ ∀(i j:Nat) (a b:Oper) (d:Nat),ops[i]? =some a→ops[j]? =some b→a.dst=some d→b.dst=some d→i=j
 | [],_,i,j,a,b,d,h,_,_,_=>by simp at h
 | o::c,g,i,j,a,b,d,m,n,p,r=>by
  have f: ∀(k:Nat) (q:Oper),c[k]? =some q→q.dst=some d→d∈D2 c:=by
   intro k q s v
   simp only[D2,List.mem_filterMap]
   exact ⟨q,List.mem_of_getElem? s,v⟩
  have l:Xh (D2 c)=true:=by
   simp only[D2,List.filterMap_cons] at g
   split at g
   ·exact g
   ·simp only[Xh,Bool.and_eq_true] at g;exact g.2
  have e:o.dst=some d→d∉D2 c:=by
   intro u
   simp only[D2,List.filterMap_cons,u,Xh,Bool.and_eq_true,Bool.not_eq_true'] at g
   intro t
   have:=g.1
   simp only[List.contains_eq_mem,decide_eq_false_iff_not] at this
   exact this t
  cases i with
  | zero=>
   simp only[List.getElem?_cons_zero,Option.some.injEq] at m
   subst m
   cases j with
   | zero=>rfl
   | succ j=>exact absurd (f j b (by simpa using n) r) (e p)
  | succ i=>
   cases j with
   | zero=>
    simp only[List.getElem?_cons_zero,Option.some.injEq] at n
    subst n
    exact absurd (f i a (by simpa using m) p) (e r)
   | succ j=>rw[Yg c l i j a b d (by simpa using m) (by simpa using n) p r]
theorem Ks (u:Nat→Value): ∀(S:List Ent) (s:Nat),get (K3 u S) s=(getE S s).at u
 | [],s=>by simp[K3,get,getE,Ent.at]
 | e::S,0=>rfl
 | e::S,s+1=>Ks u S s
theorem By: ∀(S:List Ent) (s:Nat),getE S s=(S[s]?).getD (.val undef)
 | [],s=>by simp[getE]
 | e::S,0=>rfl
 | e::S,s+1=>by simp only[getE,List.getElem?_cons_succ];exact By S s
theorem Q1j: ∀(S:List Ent) (n:Nat) (e:Ent),Q2w S n e=S.set n e
 | [],n,e=>by simp[Q2w]
 | x::S,0,e=>rfl
 | x::S,n+1,e=>by simp only[Q2w,List.set_cons_succ,Q1j S n e]
theorem Q46 {x:Nat}: ∀{l:List Nat},x∈l→x∈Q1c l
 | y::l,h=>by
  simp only[Q1c,List.mem_cons,List.mem_filter]
  by_cases e:x=y
  ·exact .inl e
  ·exact .inr ⟨Q46 ((List.mem_cons.1 h).resolve_left e),by simpa using e⟩
theorem Cv {x:Nat}: ∀{l:List Nat},x∈Q1c l→x∈l
 | y::l,h=>by
  simp only[Q1c,List.mem_cons,List.mem_filter] at h⊢
  exact h.imp id fun h=>Cv h.1
theorem Q4r {S:List Ent} {j:Nat}: ∀{l:List Nat} {s:Nat},s∈l→getE S s= .ref j→j∈Q1a S l
 | x::l,s,h,e=>by
  simp only[Q1a,List.mem_append]
  rcases List.mem_cons.1 h with rfl | h
  ·left;rw[e];simp[Q58]
  ·right;exact Q4r h e
theorem Cm {S:List Ent} {j:Nat}: ∀{l:List Nat},j∈Q1a S l→ ∃s∈l,getE S s= .ref j
 | x::l,h=>by
  simp only[Q1a,List.mem_append] at h
  rcases h with h | h
  ·refine ⟨x,by simp,?_⟩
   cases a:getE S x with
   | val v=>rw[a] at h;simp[Q58] at h
   | ref k=>rw[a] at h;simp[Q58] at h;rw[h]
  ·obtain ⟨s,b,e⟩:=Cm h
   exact ⟨s,by simp[b],e⟩
theorem Q2a: ∀(a:List Nat) (b u:Nat→Value) (k:(Nat→Value)→Prop),Sd a b k→ ∃c,k c∧ ∀x,(x∈a→c x=u x)∧(x∉a→c x=b x)
 | [],b,u,k,h=>⟨b,h,fun x=>⟨fun h=>by simp at h,fun _=>rfl⟩⟩
 | j::a,b,u,k,h=>by
  obtain ⟨c,g,f⟩:=Q2a a _ u k (h (u j))
  refine ⟨c,g,fun x=>⟨fun hx=>?_,fun hx=>?_⟩⟩
  ·by_cases d:x∈a
   ·exact (f x).1 d
   ·rw[(f x).2 d]
    rcases List.mem_cons.1 hx with rfl | hx
    ·simp
    ·exact absurd hx d
  ·rw[(f x).2 (fun h=>hx (List.mem_cons_of_mem _ h))]
   have:x≠j:=fun e=>hx (by simp[e])
   simp[this]
theorem Q2n {e:Si} {u:Nat→Value} {f:Nat→Iv} {w:World} {a:Prop}: ∀{d:List Nat},Sn e u f w a d→(∀j∈d,∀φ,Ue e j=some ([],φ)→φ [] (f j) (u j) w)→a
 | [],h,_=>h
 | j::d,h,c=>by
  simp only[Sn] at h
  split at h
  ·rename_i φ g
   exact Q2n (h (c j (by simp) φ g)) fun k b=>c k (by simp[b])
  ·exact Q2n h fun k b=>c k (by simp[b])
theorem Q0K {e:Si} {u:Nat→Value} {f:Nat→Iv} {w:World} {a:Prop}: ∀{d:List Nat},Q19 e u f w a d→(∀j∈d,∀R φ,Ue e j=some (R,φ)→φ (R.map u) (f j) (u j) w)→a
 | [],h,_=>h
 | j::d,h,c=>by
  simp only[Q19] at h
  split at h
  ·rename_i R φ g
   exact Q0K (h (c j (by simp) R φ g)) fun k b=>c k (by simp[b])
  ·exact Q0K h fun k b=>c k (by simp[b])
theorem Kh {a:Si} {i j:Nat} {φ:List Nat×(List Value→Iv→Value→World→Prop)} (h:i≠j):Ue (a++[(i,φ)]) j=Ue a j:=by
 induction a with
 | nil=>simp[Ue,h]
 | cons p a b=>obtain ⟨k,ψ⟩:=p;simp only[List.cons_append,Ue,b]
theorem Lg {a:Si} {i:Nat} {φ:List Nat×(List Value→Iv→Value→World→Prop)} (h:Ue a i=none):Ue (a++[(i,φ)]) i=some φ:=by
 induction a with
 | nil=>simp[Ue]
 | cons p a c=>
  obtain ⟨k,ψ⟩:=p
  simp only[Ue] at h
  split at h
  ·cases h
  ·rename_i b;simp only[List.cons_append,Ue,b,if_false];exact c h
def Sk (S:List Ent) (i:Nat) (o:Oper):Ent:=match mv o with | some x=>entOf S x | none=> .ref i
def L7 (S:List Ent):Nat→List Oper→List Ent
 | _,[]=>S
 | i,o::a=>L7 (putE S o.dst (Sk S i o)) (i+1) a
theorem Q4B: ∀(a:List Oper) (S:List Ent) (i k:Nat) (o:Oper),a[k]? =some o→
 L7 S i (a.take (k+1))=putE (L7 S i (a.take k)) o.dst (Sk (L7 S i (a.take k)) (i+k) o)
 | [],_,_,_,_,h=>by simp at h
 | x::a,S,i,0,o,h=>by
  simp only[List.getElem?_cons_zero,Option.some.injEq] at h
  subst h
  simp[L7]
 | x::a,S,i,k+1,o,h=>by
  simp only[List.getElem?_cons_succ] at h
  have:=Q4B a (putE S x.dst (Sk S i x)) (i+1) k o h
  simp only[List.take_succ_cons,L7]
  rw[this,show i+1+k=i+(k+1) from by omega]
def Yj (S:List Ent) (D:List Nat):Prop:= ∀e∈S,∀j,e= .ref j→j∈D
theorem Yj.getE {S:List Ent} {D:List Nat} (h:Yj S D) {s j:Nat} (e:Go.Emb.getE S s= .ref j):j∈D:=by
 rw[By] at e
 cases a:S[s]? with
 | none=>rw[a] at e;cases e
 | some x=>rw[a] at e;exact h x (List.mem_of_getElem? a) j e
theorem Yj.putE {S:List Ent} {D:List Nat} (h:Yj S D) (d:Option Nat) {e:Ent} (c: ∀j,e= .ref j→j∈D):Yj (Go.Emb.putE S d e) D:=by
 cases d with
 | none=>exact h
 | some d=>
  intro x a j b
  simp only[Go.Emb.putE,Q1j] at a
  rcases List.mem_or_eq_of_mem_set a with a | rfl
  ·exact h x a j b
  ·exact c j b
theorem Yj.mono {S:List Ent} {D a:List Nat} (h:Yj S D) (c: ∀j∈D,j∈a):Yj S a:=fun e d j b=>c j (h e d j b)
theorem Yj.entOf {S:List Ent} {D:List Nat} (h:Yj S D) (x:Operand) {j:Nat} (e:Go.Emb.entOf S x= .ref j):j∈D:=by
 cases x with
 | tmp t=>exact h.getE e
 | _=>cases e
theorem Q8O {S:List Ent} {D:List Nat} (h:Yj S D) {u a:Nat→Value} (b: ∀j∈D,a j=u j):K3 a S=K3 u S:=by
 unfold K3
 refine List.map_congr_left fun e c=>?_
 cases e with
 | val v=>rfl
 | ref j=>exact b j (h _ c j rfl)
theorem Q1Z {P:Program} {ops:List Oper} {l l':List Value} {o:Oper} (c:Qx o.op=true) (h: ∀s∈O8 ops o++H5 o,get l s=get l' s):runOp P ops l o=runOp P ops l' o:=by
 funext w K
 unfold runOp
 rw[Dc c fun x e=>by
  cases x with
  | tmp s=>exact h s (List.mem_append_right _ (by simp only[H5,List.mem_filterMap];exact ⟨.tmp s,by simpa using e,rfl⟩))
  | _=>rfl]
 cases a:o.guard with
 | none=>rfl
 | some q=>
  obtain ⟨j,b⟩:=q
  simp only
  cases f:(ops[j]?).bind (·.dst) with
  | none=>rfl
  | some d=>simp only;rw[h d (List.mem_append_left _ (by simp[O8,a,f]))]
theorem Q3a {P:Program} {ops:List Oper} {l:List Value} {o:Oper} {w:World} {K d:Value→World→Prop} (a: ∀v w,K v w→d v w) (h:runOp P ops l o w K):runOp P ops l o w d:=by
 unfold runOp at*
 split at h
 ·exact G2 a h
 ·split at h
  ·exact Q0a ((Vr h).imp (fun ⟨c,b⟩=>⟨c,G2 a b⟩) (fun ⟨c,b⟩=>⟨c,a _ _ b⟩))
  ·exact h.elim
theorem Q2I {P:Program} {ops:List Oper} {U3:List Value→World→Prop} {o:Oper} {a:List Oper} {l:List Value} {w:World}
 (h:runOp P ops l o w (fun v w=>Y4 P ops U3 a (put l o.dst v) w)):Y4 P ops U3 (o::a) l w:=by
 simp only[Y4]
 unfold runOp at h
 cases e:o.guard with
 | none=>simp only[e] at h⊢;exact h
 | some q=>
  obtain ⟨j,b⟩:=q
  simp only[e] at h⊢
  split at h
  ·rename_i d c
   first | exact h | (simp only[c];exact h) | (rw[c];exact h)
  ·exact h.elim
structure Whole (P : Program) (r : Bool) (ops : List Oper) (T : World → World → Prop) (B : World → Prop) (U3 : List Value → World → Prop) (tail : List Oper) (Φ : Nat → (Nat → Value) → Iv → World → Prop) (S : List Ent) (i : Nat) (rest : List Oper) (D : List Nat) : Prop where
  stable : ∀ k o, rest[k]? = some o → mv o = none → ∀ u p w w', Φ (i + k) u p w → T w w' → Φ (i + k) u p w'
  loc : ∀ k o, rest[k]? = some o → mv o = none → ∀ u u', (∀ r ∈ (i + k) :: refs ops (L7 S i (rest.take k)) o, u r = u' r) → Φ (i + k) u = Φ (i + k) u'
  run : ∀ k o, rest[k]? = some o → mv o = none → Qx o.op = true → ∀ u iv w, OkI r iv → B w → (∀ j ∈ refs ops (L7 S i (rest.take k)) o, Φ j u (iv j) w) →
    runOp P ops (K3 u (L7 S i (rest.take k))) o w (fun v w' => T w w' ∧ ∀ u', (∀ r ∈ refs ops (L7 S i (rest.take k)) o, u' r = u r) → u' (i + k) = v → Φ (i + k) u' (Oe r w, Oe r w') w')
  last : ∀ u iv w, OkI r iv → B w → (∀ j ∈ D, Φ j u (iv j) w) → (∀ k o, rest[k]? = some o → mv o = none → Φ (i + k) u (iv (i + k)) w) → Y4 P ops U3 tail (K3 u (L7 S i rest)) w
theorem Au (P:Program) (r:Bool) (ops:List Oper) (T:World→World→Prop) (B:World→Prop) (U3:List Value→World→Prop) (tail:List Oper): ∀(d:List Oper) (i:Nat) (S:List Ent) (m:Si) (done:List Nat),
 Yj S done→(∀j,j∈done→j<i∧ ∃φ,Ue m j=some φ)→(∀j φ,Ue m j=some φ→j<i∧ ∀r∈φ.1,r∈done)→chain P r ops T B U3 tail i d S m done→
 ∃Φ:Nat→(Nat→Value)→Iv→World→Prop,(∀j R φ,Ue m j=some (R,φ)→Φ j=fun u p w=>φ (R.map u) p (u j) w)∧Whole P r ops T B U3 tail Φ S i d done
 | [],i,S,m,done,N,Z,H,h=>by
  refine ⟨fun j u p w=>match Ue m j with | some (R,φ)=>φ (R.map u) p (u j) w | none=>True,fun j R φ hj=>by simp[hj],⟨by simp,by simp,by simp,?_⟩⟩
  intro u z w y hB L _
  obtain ⟨C,q,g⟩:=Q2a done _ u _ h
  have n:=Q0K (Q5M q y w hB) fun j hj R φ Q=>by
   have:=L j hj
   simp only[Q] at this
   rw[(g j).1 hj,show R.map C=R.map u from List.map_congr_left fun r f=>(g r).1 ((H j _ Q).2 r f)];exact this
  rw[Q8O N fun j hj=>(g j).1 hj,Ho] at n
  exact n
 | o::d,i,S,m,done,N,Z,H,h=>by
  simp only[chain] at h
  cases A:mv o with
  | some x=>
   simp only[A] at h
   have c:Sk S i o=entOf S x:=by simp[Sk,A]
   obtain ⟨Φ,q,g⟩:=Au P r ops T B U3 tail d (i+1) _ m done (N.putE _ fun j hj=>N.entOf x hj) (fun j hj=>⟨by have:=(Z j hj).1;omega,(Z j hj).2⟩) (fun j φ hj=>⟨by have:=(H j φ hj).1;omega,(H j φ hj).2⟩) h
   refine ⟨Φ,q,⟨?_,?_,?_,?_⟩⟩
   ·intro k l b a
    cases k with
    | zero=>simp only[List.getElem?_cons_zero,Option.some.injEq] at b;subst b;rw[A] at a;cases a
    | succ k=>have:=g.stable k l (by simpa using b) a;rwa [show i+1+k=i+(k+1) from by omega] at this
   ·intro k l b a u C O
    cases k with
    | zero=>simp only[List.getElem?_cons_zero,Option.some.injEq] at b;subst b;rw[A] at a;cases a
    | succ k=>
     simp only[List.take_succ_cons,L7,c] at O
     have:=g.loc k l (by simpa using b) a u C (by rwa [show i+1+k=i+(k+1) from by omega])
     rwa [show i+1+k=i+(k+1) from by omega] at this
   ·intro k l b a D u z w y hB f
    cases k with
    | zero=>simp only[List.getElem?_cons_zero,Option.some.injEq] at b;subst b;rw[A] at a;cases a
    | succ k=>
     simp only[List.take_succ_cons,L7,c] at f⊢
     have:=g.run k l (by simpa using b) a D u z w y hB f
     rwa [show i+1+k=i+(k+1) from by omega] at this
   ·intro u z w y hB L Y
    simp only[L7,c]
    refine g.last u z w y hB L fun k l b a=>?_
    have:=Y (k+1) l (by simpa using b) a
    rwa [show i+(k+1)=i+1+k from by omega] at this
  | none=>
   have h': ∃(R:List Nat) (φ:List Value→Iv→Value→World→Prop),(∀r∈R,r∈refs ops S o)∧(∀xs p,P2 T (φ xs p))∧
    (Sd (refs ops S o) (fun _=>undef) fun u=>Bt r fun z=> ∀w,B w→Sn m u z w (runOp P ops (K3 u S) o w (fun v w'=>T w w'∧φ (R.map u) (Oe r w,Oe r w') v w')) (refs ops S o))∧
    chain P r ops T B U3 tail (i+1) d (putE S o.dst (.ref i)) (m++[(i,R,φ)]) (done++[i]):=by
    cases U:Q5R o with
    | true=>
     simp only[A,U,Q88,Q3M] at h
     obtain ⟨φ,q,g,n⟩:=h
     exact ⟨_,fun xs _=>φ xs,fun _ h=>h,fun xs _=>q xs,g,n⟩
    | false=>
     cases hn:Q9g r o with
     | true=>
      simp only[A,U,hn,Q7M,Q3x] at h
      obtain ⟨φ,q,g,n⟩:=h
      cases r with
      | false=>cases hn
      | true=>exact ⟨[],fun _=>φ,by simp,fun _=>q,g,n⟩
     | false=>
      simp only[A,U,hn,X02,Q6u] at h
      obtain ⟨φ,q,g,n⟩:=h
      exact ⟨[],fun _ _=>φ,by simp,fun _ _=>q,g,n⟩
   clear h
   obtain ⟨R,φ,W,af,V,h⟩:=h'
   have ab: ∀r∈refs ops S o,r∈done:=fun r f=>by
    obtain ⟨s,_,he⟩:=Cm (Cv f)
    exact N.entOf (.tmp s) he
   have c:Sk S i o= .ref i:=by simp[Sk,A]
   have t:Ue m i=none:=by
    cases L:Ue m i with
    | none=>rfl
    | some ψ=>have:=(H i ψ L).1;omega
   obtain ⟨Φ,q,g⟩:=Au P r ops T B U3 tail d (i+1) _ (m++[(i,R,φ)]) (done++[i])
    ((N.mono fun j hj=>List.mem_append_left _ hj).putE _ fun j hj=>by cases hj;simp)
    (fun j hj=>by
     rcases List.mem_append.1 hj with hj | hj
     ·obtain ⟨n,ψ,M⟩:=Z j hj
      exact ⟨by omega,ψ,by rw[Kh (by omega)];exact M⟩
     ·simp at hj;subst hj;exact ⟨by omega,(R,φ),Lg t⟩)
    (fun j ψ hj=>by
     by_cases e:i=j
     ·subst e
      rw[Lg t] at hj;cases hj
      exact ⟨by omega,fun r f=>List.mem_append_left _ (ab r (W r f))⟩
     ·rw[Kh e] at hj
      obtain ⟨n,M⟩:=H j ψ hj
      exact ⟨by omega,fun r f=>List.mem_append_left _ (M r f)⟩) h
   have J:Φ i=fun u p w=>φ (R.map u) p (u i) w:=q i R φ (Lg t)
   have E: ∀j X ψ,Ue m j=some (X,ψ)→Φ j=fun u p w=>ψ (X.map u) p (u j) w:=fun j X ψ hj=>q j X ψ (by rw[Kh (by have:=(H j _ hj).1;omega)];exact hj)
   refine ⟨Φ,E,⟨?_,?_,?_,?_⟩⟩
   ·intro k l b a
    cases k with
    | zero=>
     intro u p w w' ha hT
     rw[Nat.add_zero,J] at ha⊢
     exact af _ _ _ _ _ ha hT
    | succ k=>have:=g.stable k l (by simpa using b) a;rwa [show i+1+k=i+(k+1) from by omega] at this
   ·intro k l b a u C O
    cases k with
    | zero=>
     simp only[List.getElem?_cons_zero,Option.some.injEq] at b
     subst b
     simp only[List.take_zero,L7,Nat.add_zero] at O
     rw[Nat.add_zero,J]
     funext p w
     show φ (R.map u) p (u i) w=φ (R.map C) p (C i) w
     rw[show R.map u=R.map C from List.map_congr_left fun r f=>O r (List.mem_cons_of_mem _ (W r f)),O i (by simp)]
    | succ k=>
     simp only[List.take_succ_cons,L7,c] at O
     have:=g.loc k l (by simpa using b) a u C (by rwa [show i+1+k=i+(k+1) from by omega])
     rwa [show i+1+k=i+(k+1) from by omega] at this
   ·intro k l b a D u z w y hB f
    cases k with
    | zero=>
     simp only[List.getElem?_cons_zero,Option.some.injEq] at b
     subst b
     simp only[List.take_zero,L7,Nat.add_zero] at f⊢
     obtain ⟨C,n,M⟩:=Q2a _ _ u _ V
     have h5:=Q2n (Q5M n y w hB) fun j hj ψ hψ=>by
      have h6:=f j hj
      rw[E j [] ψ hψ] at h6
      rw[(M j).1 hj];exact h6
     rw[Q1Z D (l':=K3 u S)] at h5
     ·refine Q3a ?_ h5
      rintro v w' ⟨hT,hf⟩
      refine ⟨hT,fun u2 ag hi=>?_⟩
      rw[J]
      show φ (R.map u2) (Oe r w,Oe r w') (u2 i) w'
      rw[hi,show R.map u2=R.map C from List.map_congr_left fun r f=>by rw[ag r (W r f),(M r).1 (W r f)]]
      exact hf
     ·intro s U
      rw[Ks,Ks]
      cases he:getE S s with
      | val v=>rfl
      | ref j=>exact (M j).1 (Q46 (Q4r U he))
    | succ k=>
     simp only[List.take_succ_cons,L7,c] at f⊢
     have:=g.run k l (by simpa using b) a D u z w y hB f
     rwa [show i+1+k=i+(k+1) from by omega] at this
   ·intro u z w y hB L Y
    simp only[L7,c]
    refine g.last u z w y hB (fun j hj=>?_) fun k l b a=>?_
    ·rcases List.mem_append.1 hj with hj | hj
     ·exact L j hj
     ·simp at hj;subst hj
      have:=Y 0 o (by simp) A
      simpa using this
    ·have:=Y (k+1) l (by simpa using b) a
     rwa [show i+(k+1)=i+1+k from by omega] at this
def Qb (os:List Oper) (S0:List Ent) (q:Nat):Ent:=
 match os[q]? with
 | some o=>Sk (L7 S0 0 (os.take q)) q o
 | none=> .val undef
theorem Q7P {os:List Oper} {S0:List Ent} {q:Nat} {o:Oper} (h:os[q]? =some o):L7 S0 0 (os.take (q+1))=putE (L7 S0 0 (os.take q)) o.dst (Qb os S0 q):=by
 rw[Q4B os S0 0 q o h]
 simp[Qb,h]
theorem Q7q (S:List Ent) (d:Option Nat) (e:Ent):(putE S d e).length=S.length:=by
 cases d with
 | none=>rfl
 | some d=>simp[putE,Q1j]
theorem Pi (os:List Oper) (S0:List Ent): ∀q,q≤os.length→(L7 S0 0 (os.take q)).length=S0.length
 | 0,_=>by simp[L7]
 | q+1,h=>by rw[Q7P (List.getElem?_eq_getElem (by omega)),Q7q,Pi os S0 q (by omega)]
theorem Rz {os:List Oper} {S0:List Ent} (t:Xh (D2 os)=true) (u: ∀d∈D2 os,d<S0.length): ∀q,q≤os.length→
 (∀p,p<q→ ∀o d,os[p]? =some o→o.dst=some d→(L7 S0 0 (os.take q))[d]? =some (Qb os S0 p))∧
  (∀s,(∀p,p<q→ ∀o,os[p]? =some o→o.dst≠some s)→(L7 S0 0 (os.take q))[s]? =S0[s]?)
 | 0,_=>⟨fun p k=>absurd k (by omega),fun s _=>by simp[L7]⟩
 | q+1,h=>by
  obtain ⟨r,n⟩:=Rz t u q (by omega)
  have j:os[q]? =some os[q]:=List.getElem?_eq_getElem (by omega)
  have g:=Pi os S0 q (by omega)
  rw[Q7P j]
  cases a:os[q].dst with
  | none=>
   refine ⟨fun p k o d b c=>?_,fun s l=>n s fun p k=>l p (by omega)⟩
   by_cases e:p=q
   ·subst e;rw[j] at b;cases b;rw[a] at c;cases c
   ·exact r p (by omega) o d b c
  | some i=>
   have m:i<S0.length:=u i (by simp only[D2,List.mem_filterMap];exact ⟨os[q],List.getElem_mem _,a⟩)
   simp only[putE,Q1j]
   refine ⟨fun p k o d b c=>?_,fun s l=>?_⟩
   ·by_cases e:p=q
    ·subst e;rw[j] at b;cases b;rw[a] at c;cases c
     rw[List.getElem?_set_self (by rw[g];exact m)]
    ·have f:i≠d:=by
      rintro rfl
      exact e (Yg os t p q o os[q] i b j c a)
     rw[List.getElem?_set_ne f]
     exact r p (by omega) o d b c
   ·have f:i≠s:=fun e=>l q (by omega) os[q] j (by rw[a,e])
    rw[List.getElem?_set_ne f]
    exact n s fun p k=>l p (by omega)
def Ml (os:List Oper) (p:Nat):Bool:=
 match os[p]? with
 | some o=>match mv o with
  | some (.tmp s)=> !(D2 os).contains s
  | some _=>true
  | none=>false
 | none=>false
theorem X3E {P:Program} {o:Oper} {x:Operand} (h:mv o=some x) (l:List Value) (w:World) (K:Value→World→Prop):o.guard=none∧V8 P l o w K=K (ev l x) w:=by
 unfold mv at h
 split at h
 ·cases h
 ·rename_i b
  refine ⟨b,?_⟩
  split at h
  ·rename_i y a;cases h;simp only[V8,a]
  ·rename_i y a;cases h;simp only[V8,a]
  ·cases h
theorem Q7A {P:Program} {ops:List Oper} {U3:List Value→World→Prop} {o:Oper} {c a:List Oper} {l l':List Value} {w:World} (r:Qx o.op=true) (n: ∀s∈O8 ops o++H5 o,get l' s=get l s)
 (f: ∀v w,Y4 P ops U3 c (put l o.dst v) w→Y4 P ops U3 a (put l' o.dst v) w) (h:Y4 P ops U3 (o::c) l w):Y4 P ops U3 (o::a) l' w:=by
 have m:V8 P l' o=V8 P l o:=Dc r fun x p=>by
  cases x with
  | tmp s=>exact n s (List.mem_append_right _ (by simp only[H5,List.mem_filterMap];exact ⟨.tmp s,by simpa using p,rfl⟩))
  | _=>rfl
 simp only[Y4] at h⊢
 cases e:o.guard with
 | none=>simp only[e] at h⊢;rw[m];exact G2 f h
 | some q=>
  obtain ⟨j,b⟩:=q
  simp only[e] at h⊢
  cases k:(ops[j]?).bind (·.dst) with
  | none=>simp only[k] at h⊢;exact f _ _ h
  | some d=>
   simp only[k] at h⊢
   rw[n d (List.mem_append_left _ (by simp[O8,e,k])),m]
   exact Q0a ((Vr h).imp (fun ⟨i,g⟩=>⟨i,G2 f g⟩) (fun ⟨i,g⟩=>⟨i,f _ _ g⟩))
structure At (os : List Oper) (l0 : List Value) (pre : List Nat) (l : List Value) (u : Nat → Value) : Prop where
  len : l.length = l0.length
  done : ∀ p ∈ pre, ∀ o d, os[p]? = some o → o.dst = some d → l[d]? = some ((Qb os (l0.map .val) p).at u)
  rest : ∀ s, (∀ p ∈ pre, ∀ o, os[p]? = some o → o.dst ≠ some s) → l[s]? = l0[s]?
  refs : ∀ p ∈ pre, ∀ r, Qb os (l0.map .val) p = .ref r → r ∈ pre ∧ ∃ o, os[r]? = some o ∧ mv o = none
theorem X4J {P:Program} {r0:Bool} {ops os:List Oper} {T:World→World→Prop} {B:World→Prop} {U3:List Value→World→Prop} {m:Nat} {C:List Value} {Φ:Nat→(Nat→Value)→Iv→World→Prop}
 (bit:Nat→Nat→Bool) (bq: ∀o∈os,Qx o.op=true) (hn:Xh (D2 os)=true) (hd: ∀d∈D2 os,d<C.length)
 (ae: ∀p q a b,p<q→os[p]? =some a→os[q]? =some b→(T8 a b||T8 b a)=true→bit p q=true)
 (hg: ∀q o j b,os[q]? =some o→o.guard=some (j,b)→ ∃p,p<q∧os[p]? =ops[j]? ∧bit p q=true)
 (hm:m≤os.length) (al: ∀q,m≤q→q<os.length→ ∀p,p<q→bit p q=true∨(p<m∧Ml os p=true))
 (hT: ∀w w',B w→T w w'→B w') (hM: ∀w w',T w w'→Oe r0 w≤Oe r0 w') (hW:Whole P r0 ops T B U3 (os.drop m) Φ (C.map .val) 0 (os.take m) [])
 (L:List Nat) (H:L.Nodup) (bs:L.length=os.length) (ac: ∀q∈L,q<os.length)
 (hC: ∀c q f,L=c++q::f→ ∀p,bit p q=true→p<os.length→p∈c):
 ∀(f c:List Nat),L=c++f→(∀q∈c,q<m)→ ∀(l:List Value) (u:Nat→Value) (iv:Nat→Iv) (w:World),Cj r0 iv w→At os C c l u→B w→
  (∀r∈c,∀o,os[r]? =some o→mv o=none→Φ r u (iv r) w∧ ∀j∈refs ops (L7 (C.map .val) 0 (os.take r)) o,j∈c)→Y4 P ops U3 (f.filterMap (os[·]?)) l w:=by
 have a7: ∀d∈D2 os,d<(C.map Ent.val).length:=by simpa using hd
 have a4: ∀q,q≤m→(os.take m).take q=os.take q:=fun q hq=>by rw[List.take_take,Nat.min_eq_left hq]
 have X: ∀q,q<m→(os.take m)[q]? =os[q]? :=fun q hq=>by rw[List.getElem?_take_of_lt hq]
 -- when all of the first part is done
 have ct: ∀(c f:List Nat),L=c++f→(∀q∈c,q<m)→(∀q,q<m→q∈c)→ ∀l u iv w,Cj r0 iv w→At os C c l u→B w→
  (∀r∈c,∀o,os[r]? =some o→mv o=none→Φ r u (iv r) w∧ ∀j∈refs ops (L7 (C.map .val) 0 (os.take r)) o,j∈c)→Y4 P ops U3 (f.filterMap (os[·]?)) l w:=by
  intro c f E D ao l u iv w hI hA hB hΦ
  have b5: ∀(f c:List Nat),L=c++f→m≤c.length→(∀q,q∈c↔q<c.length)→f.filterMap (os[·]?)=os.drop c.length:=by
   intro f
   induction f with
   | nil=>
    intro c E _ _
    rw[List.append_nil] at E
    rw[←E,bs];simp
   | cons q f ih=>
    intro c E c9 a2
    have cr:q∉c:=by
     rw[E] at H
     intro h
     exact (List.nodup_append.1 H).2.2 q h q (by simp) rfl
    have cv:c.length≤q:=Nat.le_of_not_lt fun h=>cr ((a2 q).2 h)
    have V:=ac q (by rw[E];simp)
    have c0:q=c.length:=by
     refine Nat.le_antisymm (Nat.le_of_not_lt fun h=>?_) cv
     have:=hC c q f E c.length ((al q (by omega) V _ h).resolve_right (by omega)) (by omega)
     have:=(a2 _).1 this
     omega
    subst c0
    rw[List.filterMap_cons,List.getElem?_eq_getElem V]
    simp only
    rw[ih (c++[c.length]) (by rw[E];simp) (by simp;omega) (by intro x;simp only[List.mem_append,a2,List.mem_singleton,List.length_append,List.length_cons,List.length_nil];omega)]
    simp only[List.length_append,List.length_cons,List.length_nil]
    rw[←List.drop_eq_getElem_cons V]
  have bk:c.length=m:=by
   have J:=C7 m c (by rw[E] at H;exact (List.nodup_append.1 H).1) D
   have R:=Vq m c ao
   omega
  have J:=b5 f c E (by omega) (fun q=>by rw[bk];exact ⟨D q,ao q⟩)
  rw[J,bk]
  have R:=hW.last u iv w hI.1 hB (by simp) fun k o hk t=>by
   have a0:k<m:=by
    have:=(List.getElem?_eq_some_iff.1 hk).1
    simp at this;omega
   rw[Nat.zero_add]
   rw[X k a0] at hk
   exact (hΦ k (ao k a0) o hk t).1
  have h3:l=K3 u (L7 (C.map .val) 0 (os.take m)):=by
   obtain ⟨g1,g2⟩:=Rz hn a7 m hm
   apply List.ext_getElem?
   intro s
   rw[K3,List.getElem?_map]
   by_cases hs: ∃p,p<m∧ ∃o,os[p]? =some o∧o.dst=some s
   ·obtain ⟨p,hp,o,i,z⟩:=hs
    rw[hA.done p (ao p hp) o s i z,g1 p hp o s i z];rfl
   ·have af: ∀p,p<m→ ∀o,os[p]? =some o→o.dst≠some s:=fun p hp o i z=>hs ⟨p,hp,o,i,z⟩
    rw[hA.rest s (fun p hp=>af p (D p hp)),g2 s af,List.getElem?_map]
    cases C[s]? <;>rfl
  rw[h3];exact R
 -- moves that come late, among the tail
 have cb: ∀(f c:List Nat) (k:Nat),L=c++f→m≤k→k≤os.length→(∀q,m≤q→(q∈c↔q<k))→(∀p∈f,p<m→Ml os p=true)→
  ∀(l lf:List Value) (w:World),l.length=C.length→lf.length=C.length→(∀s,(∀p∈f,p<m→ ∀o,os[p]? =some o→o.dst≠some s)→l[s]? =lf[s]?)→
   (∀p∈f,p<m→ ∀o d x,os[p]? =some o→mv o=some x→o.dst=some d→lf[d]? =some (ev C x))→(∀s,(D2 os).contains s=false→l[s]? =C[s]?)→
   Y4 P ops U3 (os.drop k) lf w→Y4 P ops U3 (f.filterMap (os[·]?)) l w:=by
  intro f
  induction f with
  | nil=>
   intro c k E ba bv ab _ l lf w hl bc aq _ _ h
   rw[List.append_nil] at E
   have hk:k=os.length:=by
    refine Nat.le_antisymm bv (Nat.le_of_not_lt fun D=>?_)
    have cy:k∉c:=fun e=>by have:=(ab k ba).1 e;omega
    have J:=C7 os.length (k::c) (List.nodup_cons.2 ⟨cy,E▸H⟩) (fun x hx=>by
     rcases List.mem_cons.1 hx with rfl | hx
     ·exact D
     ·exact ac x (by rw[E];exact hx))
    simp at J
    rw[E] at bs;omega
   have:l=lf:=List.ext_getElem? fun s=>aq s (by simp)
   rw[this]
   rw[hk,List.drop_length] at h
   exact h
  | cons q f ih=>
   intro c k E ba bv ab ak l lf w hl bc aq a1 aa h
   have O:q∉c:=by
    rw[E] at H
    intro h
    exact (List.nodup_append.1 H).2.2 q h q (by simp) rfl
   have cm:q∉f:=by
    rw[E] at H
    exact (List.nodup_cons.1 (List.nodup_append.1 H).2.1).1
   have V:=ac q (by rw[E];simp)
   have A:os[q]? =some os[q]:=List.getElem?_eq_getElem V
   have ck:L=(c++[q])++f:=by rw[E];simp
   rw[List.filterMap_cons,A]
   simp only
   by_cases Z:q<m
   ·-- a late move
    have D:=ak q (by simp) Z
    unfold Ml at D
    rw[A] at D
    simp only at D
    cases t:mv os[q] with
    | none=>rw[t] at D;cases D
    | some x=>
     rw[t] at D
     have hx:ev l x=ev C x:=by
      cases x with
      | tmp s=>
       simp only[Bool.not_eq_true'] at D
       simp only[ev,get,List.getD_eq_getElem?_getD,aa s D]
      | _=>rfl
     obtain ⟨a9,a3⟩:=X3E (P:=P) t l w (fun v w=>Y4 P ops U3 (f.filterMap (os[·]?)) (put l os[q].dst v) w)
     simp only[Y4,a9]
     rw[a3,hx]
     refine ih (c++[q]) k ck ba bv (fun q' az=>?_) (fun p hp=>ak p (by simp[hp])) _ lf w ?_ bc (fun s hs=>?_) (fun p hp=>a1 p (by simp[hp])) (fun s hs=>?_) h
     ·rw[←ab q' az];simp only[List.mem_append,List.mem_singleton]
      exact ⟨fun e=>e.resolve_right (by omega), .inl⟩
     ·cases g:os[q].dst<;>simp[put,hl]
     ·cases g:os[q].dst with
      | none=>
       refine aq s fun p hp M o i=>?_
       rcases List.mem_cons.1 hp with rfl | hp
       ·rw[A] at i;cases i;rw[g];simp
       ·exact hs p hp M o i
      | some d=>
       have ar:d<C.length:=hd d (by simp only[D2,List.mem_filterMap];exact ⟨os[q],List.getElem_mem _,g⟩)
       simp only[put]
       by_cases e:d=s
       ·subst e
        rw[List.getElem?_set_self (by rw[hl];exact ar)]
        exact (a1 q (by simp) Z os[q] d x A t g).symm
       ·rw[List.getElem?_set_ne e]
        refine aq s fun p hp M o i=>?_
        rcases List.mem_cons.1 hp with rfl | hp
        ·rw[A] at i;cases i;rw[g];simpa using e
        ·exact hs p hp M o i
     ·cases g:os[q].dst with
      | none=>exact aa s hs
      | some d=>
       have ah:(D2 os).contains d=true:=by
        rw[List.contains_iff_mem];simp only[D2,List.mem_filterMap];exact ⟨os[q],List.getElem_mem _,g⟩
       simp only[put]
       rw[List.getElem?_set_ne (by rintro rfl;rw[hs] at ah;cases ah)]
       exact aa s hs
   ·have Z:m≤q:=by omega
    have cx:q=k:=by
     have J:k≤q:=Nat.le_of_not_lt fun e=>O ((ab q Z).2 e)
     refine Nat.le_antisymm (Nat.le_of_not_lt fun e=>?_) J
     have:=hC c q f E k ((al q Z V k e).resolve_right (by omega)) (by omega)
     have:=(ab k ba).1 this
     omega
    subst cx
    rw[List.drop_eq_getElem_cons V] at h
    have b9: ∀p∈f,p<m→bit p q=true→False:=fun p hp M hb=>by
     have:=hC c q f E p hb (by omega)
     rw[E] at H
     exact (List.nodup_append.1 H).2.2 p this p (by simp[hp]) rfl
    refine Q7A (bq _ (List.getElem_mem _)) (fun s hs=>?_) (fun v w' hv=>?_) h
    ·have:l[s]? =lf[s]? :=aq s fun p hp M o i z=>by
      rcases List.mem_cons.1 hp with rfl | hp
      ·omega
      refine b9 p hp M ?_
      rcases List.mem_append.1 hs with hs | hs
      ·unfold O8 at hs
       split at hs
       ·simp at hs
       ·rename_i j b bx
        split at hs
        ·rename_i d bz
         simp only[List.mem_singleton] at hs
         subst hs
         obtain ⟨p',ap,b1,hb⟩:=hg q os[q] j b A bx
         obtain ⟨o',bu,ci⟩:=Option.bind_eq_some_iff.1 bz
         have:=Yg os hn p' p o' o s (by rw[b1,bu]) i ci z
         subst this;exact hb
        ·simp at hs
      ·exact ae p q o os[q] (by omega) i A (by simp only[T8,z,Bool.or_eq_true];left;left;simpa using hs)
     simp only[get,List.getD_eq_getElem?_getD,this]
    ·refine ih (c++[q]) (q+1) ck (by omega) (by omega) (fun q' az=>?_) (fun p hp=>ak p (by simp[hp])) _ _ w' ?_ ?_ (fun s hs=>?_) (fun p hp M o d x i a8 z=>?_) (fun s hs=>?_) hv
     ·simp only[List.mem_append,List.mem_singleton,ab q' az];omega
     ·cases g:os[q].dst<;>simp[put,hl]
     ·cases g:os[q].dst<;>simp[put,bc]
     ·have hb:l[s]? =lf[s]? ∨os[q].dst=some s:=by
       left
       refine aq s fun p hp M o i=>?_
       rcases List.mem_cons.1 hp with rfl | hp
       ·omega
       ·exact hs p hp M o i
      cases g:os[q].dst with
      | none=>
       rcases hb with hb | hb
       ·exact hb
       ·rw[g] at hb;cases hb
      | some d=>
       simp only[put]
       by_cases e:d=s
       ·subst e
        have ar:d<C.length:=hd d (by simp only[D2,List.mem_filterMap];exact ⟨os[q],List.getElem_mem _,g⟩)
        rw[List.getElem?_set_self (by rw[hl];exact ar),List.getElem?_set_self (by rw[bc];exact ar)]
       ·rw[List.getElem?_set_ne e,List.getElem?_set_ne e]
        rcases hb with hb | hb
        ·exact hb
        ·rw[g] at hb;cases hb;exact absurd rfl e
     ·have cf:=a1 p (by simp[hp]) M o d x i a8 z
      cases g:os[q].dst with
      | none=>exact cf
      | some d'=>
       have Y:d'≠d:=by
        rintro rfl
        have:=Yg os hn p q o os[q] d' i A z g
        omega
       simp only[put]
       rw[List.getElem?_set_ne Y];exact cf
     ·cases g:os[q].dst with
      | none=>exact aa s hs
      | some d=>
       have ah:(D2 os).contains d=true:=by
        rw[List.contains_iff_mem];simp only[D2,List.mem_filterMap];exact ⟨os[q],List.getElem_mem _,g⟩
       simp only[put]
       rw[List.getElem?_set_ne (by rintro rfl;rw[hs] at ah;cases ah)]
       exact aa s hs
 intro f
 induction f with
 | nil=>
  intro c E D l u iv w hI hA hB hΦ
  refine ct c [] E D ?_ l u iv w hI hA hB hΦ
  intro q hq
  rw[List.append_nil] at E
  refine Classical.byContradiction fun a5=>?_
  have J:=C7 os.length (q::c) (List.nodup_cons.2 ⟨a5,E▸H⟩) (fun k hk=>by
   rcases List.mem_cons.1 hk with rfl | hk
   ·omega
   ·exact ac k (by rw[E];exact hk))
  simp at J
  rw[E] at bs;omega
 | cons q f ih=>
  intro c E D l u iv w hI hA hB hΦ
  have O:q∉c:=by
   rw[E] at H
   intro h
   exact (List.nodup_append.1 H).2.2 q h q (by simp) rfl
  have V:=ac q (by rw[E];simp)
  by_cases Z:m≤q
  ·-- the tail begins
   have am: ∀p,p<m→p∉c→Ml os p=true:=fun p hp bp=>by
    rcases al q Z V p (by omega) with h | h
    ·exact absurd (hC c q f E p h (by omega)) bp
    ·exact h.2
   have bg: ∀p,Ml os p=true→ ∀o,os[p]? =some o→ ∃x,mv o=some x∧ ∀s,x= .tmp s→(D2 os).contains s=false:=by
    intro p hp o i
    unfold Ml at hp
    rw[i] at hp
    simp only at hp
    cases N:mv o with
    | none=>rw[N] at hp;cases hp
    | some x=>
     refine ⟨x,rfl,fun s hs=>?_⟩
     subst hs
     rw[N] at hp;simpa using hp
   obtain ⟨g1,g2⟩:=Rz hn a7 m hm
   have bi: ∀s,(D2 os).contains s=false→ ∀(p:Nat) o,os[p]? =some o→o.dst≠some s:=by
    intro s hs p o i z
    have:(D2 os).contains s=true:=by
     rw[List.contains_iff_mem];simp only[D2,List.mem_filterMap]
     exact ⟨o,List.mem_of_getElem? i,z⟩
    rw[hs] at this;cases this
   refine cb (q::f) c m E (Nat.le_refl _) hm (fun q' az=>⟨fun e=>D q' e,fun e=>absurd az (by omega)⟩) (fun p hp M=>am p M fun e=>by
    rw[E] at H
    exact (List.nodup_append.1 H).2.2 p e p hp rfl) l (K3 u (L7 (C.map .val) 0 (os.take m))) w hA.len (by simp[K3,Pi os _ m hm]) (fun s hs=>?_) (fun p hp M o d x i a8 z=>?_) (fun s hs=>?_) ?_
   ·rw[K3,List.getElem?_map]
    by_cases av: ∃p,p<m∧ ∃o,os[p]? =some o∧o.dst=some s
    ·obtain ⟨p,hp,o,i,z⟩:=av
     by_cases W:p∈c
     ·rw[hA.done p W o s i z,g1 p hp o s i z];rfl
     ·exfalso
      have ce:p∈L:=by
       refine Classical.byContradiction fun a5=>?_
       have J:=C7 os.length (p::L) (List.nodup_cons.2 ⟨a5,H⟩) (fun k hk=>by
        rcases List.mem_cons.1 hk with rfl | hk
        ·omega
        ·exact ac k hk)
       simp at J;omega
      rw[E] at ce
      rcases List.mem_append.1 ce with h | h
      ·exact W h
      ·exact hs p h hp o i z
    ·have af: ∀p,p<m→ ∀o,os[p]? =some o→o.dst≠some s:=fun p hp o i z=>av ⟨p,hp,o,i,z⟩
     rw[hA.rest s (fun p hp=>af p (D p hp)),g2 s af,List.getElem?_map]
     cases C[s]? <;>rfl
   ·have W:p∉c:=fun e=>by
     rw[E] at H
     exact (List.nodup_append.1 H).2.2 p e p hp rfl
    rw[K3,List.getElem?_map,g1 p M o d i z]
    simp only[Option.map_some,Option.some.injEq]
    have U:Qb os (C.map .val) p=entOf (L7 (C.map .val) 0 (os.take p)) x:=by simp[Qb,i,Sk,a8]
    rw[U]
    obtain ⟨x',ca,cw⟩:=bg p (am p M W) o i
    rw[a8] at ca;cases ca
    cases x with
    | tmp s=>
     have hs:=cw s rfl
     obtain ⟨_,k2⟩:=Rz (S0:=C.map .val) hn a7 p (by omega)
     simp only[entOf]
     rw[By,k2 s (fun p' _ o' bu=>bi s hs p' o' bu),List.getElem?_map]
     simp only[ev,get,List.getD_eq_getElem?_getD]
     cases C[s]? <;>rfl
    | _=>rfl
   ·exact hA.rest s fun p _ o i=>bi s hs p o i
   ·refine hW.last u iv w hI.1 hB (by simp) fun k o hk t=>?_
    have a0:k<m:=by
     have:=(List.getElem?_eq_some_iff.1 hk).1
     simp at this;omega
    rw[Nat.zero_add]
    rw[X k a0] at hk
    refine (hΦ k (Classical.byContradiction fun bp=>?_) o hk t).1
    obtain ⟨x,hx,_⟩:=bg k (am k a0 bp) o hk
    rw[t] at hx;cases hx
  ·have Z:q<m:=by omega
   have A:os[q]? =some os[q]:=List.getElem?_eq_getElem V
   obtain ⟨g1,g2⟩:=Rz (S0:=C.map .val) hn a7 q (by omega)
   -- what a slot holds that this operation reads
   have ad: ∀s,(∃p o,os[p]? =some o∧o.dst=some s∧p<q∧bit p q=true)∨s∈H5 os[q]→
    get l s=(getE (L7 (C.map .val) 0 (os.take q)) s).at u∧ ∀r,getE (L7 (C.map .val) 0 (os.take q)) s= .ref r→r∈c∧ ∃o,os[r]? =some o∧mv o=none:=by
    intro s hs
    have af:(∀p∈c,∀o,os[p]? =some o→o.dst≠some s)→(∀p,p<q→ ∀o,os[p]? =some o→o.dst≠some s)→
     get l s=(getE (L7 (C.map .val) 0 (os.take q)) s).at u∧ ∀r,getE (L7 (C.map .val) 0 (os.take q)) s= .ref r→r∈c∧ ∃o,os[r]? =some o∧mv o=none:=by
     intro J R
     rw[By,g2 s R,List.getElem?_map]
     simp only[get,List.getD_eq_getElem?_getD,hA.rest s J]
     cases C[s]? with
     | none=>exact ⟨rfl,fun r hr=>by cases hr⟩
     | some v=>exact ⟨rfl,fun r hr=>by cases hr⟩
    have bm: ∀p o,os[p]? =some o→o.dst=some s→p<q→p∈c→
     get l s=(getE (L7 (C.map .val) 0 (os.take q)) s).at u∧ ∀r,getE (L7 (C.map .val) 0 (os.take q)) s= .ref r→r∈c∧ ∃o,os[r]? =some o∧mv o=none:=by
     intro p o hp i ap W
     rw[By,g1 p ap o s hp i]
     simp only[get,List.getD_eq_getElem?_getD,hA.done p W o s hp i,Option.getD_some]
     first | exact ⟨rfl,hA.refs p W⟩ | exact ⟨trivial,hA.refs p W⟩
    rcases hs with ⟨p,o,hp,i,ap,hb⟩ | hs
    ·exact bm p o hp i ap (hC c q f E p hb (by omega))
    ·by_cases av: ∃(p:Nat) (o:Oper),os[p]? =some o∧o.dst=some s
     ·obtain ⟨p,o,hp,i⟩:=av
      have c5:=(List.getElem?_eq_some_iff.1 hp).1
      have aa: ∀p' o',os[p']? =some o'→o'.dst=some s→p'=p:=fun p' o' J R=>Yg os hn p' p o' o s J hp R i
      rcases Nat.lt_trichotomy p q with h | h | h
      ·have hb:=ae p q o os[q] h hp A (by simp only[T8,i,Bool.or_eq_true];left;left;simpa using hs)
       exact bm p o hp i h (hC c q f E p hb (by omega))
      ·subst h
       exact af (fun p' aj o' J R=>by rw[aa p' o' J R] at aj;exact O aj) (fun p' aj o' J R=>by rw[aa p' o' J R] at aj;omega)
      ·refine af (fun p' aj o' J R=>?_) (fun p' aj o' J R=>by rw[aa p' o' J R] at aj;omega)
       have e:=aa p' o' J R
       subst e
       have hb:=ae q p' os[q] o' h A J (by simp only[T8,R,Bool.or_eq_true];right;left;simpa using hs)
       obtain ⟨p1,p2,W⟩:=List.append_of_mem aj
       have:=hC p1 p' (p2++q::f) (by rw[E,W];simp) q hb V
       exact O (by rw[W];exact List.mem_append_left _ this)
     ·exact af (fun p _ o J R=>av ⟨p,o,J,R⟩) (fun p _ o J R=>av ⟨p,o,J,R⟩)
   have b0: ∀s∈O8 ops os[q]++H5 os[q],(∃p o,os[p]? =some o∧o.dst=some s∧p<q∧bit p q=true)∨s∈H5 os[q]:=by
    intro s hs
    rcases List.mem_append.1 hs with hs | hs
    ·left
     unfold O8 at hs
     split at hs
     ·simp at hs
     ·rename_i j b bx
      split at hs
      ·rename_i d bz
       simp only[List.mem_singleton] at hs
       subst hs
       obtain ⟨p,ap,b1,hb⟩:=hg q os[q] j b A bx
       obtain ⟨o,i,z⟩:=Option.bind_eq_some_iff.1 bz
       exact ⟨p,o,by rw[b1,i],z,ap,hb⟩
      ·simp at hs
    ·exact .inr hs
   have ax:=X q Z
   rw[A] at ax
   rw[List.filterMap_cons,A]
   simp only
   -- the state behind it
   have step: ∀(v:Value) (u':Nat→Value) (bd:Nat→Iv) (w':World),Cj r0 bd w'→(∀p∈c,(Qb os (C.map .val) p).at u'=(Qb os (C.map .val) p).at u)→v=(Qb os (C.map .val) q).at u'→
    (∀r,Qb os (C.map .val) q= .ref r→r∈q::c∧ ∃o,os[r]? =some o∧mv o=none)→B w'→(∀r∈q::c,∀o,os[r]? =some o→mv o=none→Φ r u' (bd r) w'∧ ∀j∈refs ops (L7 (C.map .val) 0 (os.take r)) o,j∈q::c)→
    Y4 P ops U3 (f.filterMap (os[·]?)) (put l os[q].dst v) w':=by
    intro v u' bd w' cz hu hv hr cu b6
    have Q: ∀x,x∈c++[q]↔x∈q::c:=by intro x;simp[or_comm]
    refine ih (c++[q]) (by rw[E];simp) (fun x hx=>by rcases List.mem_cons.1 ((Q x).1 hx) with rfl | hx;exact Z;exact D x hx) _ u' bd w' cz ?_ cu (fun r hr o i N=>⟨(b6 r ((Q r).1 hr) o i N).1,fun j hj=>(Q j).2 ((b6 r ((Q r).1 hr) o i N).2 j hj)⟩)
    have ay: ∀p∈c++[q],∀r,Qb os (C.map .val) p= .ref r→r∈c++[q]∧ ∃o,os[r]? =some o∧mv o=none:=by
     intro p hp r bw
     rcases List.mem_cons.1 ((Q p).1 hp) with rfl | hp
     ·exact ⟨(Q r).2 (hr r bw).1,(hr r bw).2⟩
     ·obtain ⟨J,R⟩:=hA.refs p hp r bw
      exact ⟨List.mem_append_left _ J,R⟩
    cases g:os[q].dst with
    | none=>
     refine ⟨hA.len,?_,?_,ay⟩
     ·intro p hp o d i z
      rcases List.mem_cons.1 ((Q p).1 hp) with rfl | hp
      ·rw[A] at i;cases i;rw[g] at z;cases z
      ·rw[hu p hp];exact hA.done p hp o d i z
     ·intro s hs;exact hA.rest s fun p hp=>hs p (List.mem_append_left _ hp)
    | some d0=>
     have ar:d0<C.length:=hd d0 (by simp only[D2,List.mem_filterMap];exact ⟨os[q],List.getElem_mem _,g⟩)
     refine ⟨by simp[put,hA.len],?_,?_,ay⟩
     ·intro p hp o d i z
      rcases List.mem_cons.1 ((Q p).1 hp) with rfl | hp2
      ·rw[A] at i;cases i
       rw[g] at z;cases z
       simp only[put]
       rw[List.getElem?_set_self (by rw[hA.len];exact ar),hv]
      ·have Y:d0≠d:=by
        rintro rfl
        have:=Yg os hn p q o os[q] d0 i A z g
        subst this;exact O hp2
       simp only[put]
       rw[List.getElem?_set_ne Y,hu p hp2]
       exact hA.done p hp2 o d i z
     ·intro s hs
      have Y:d0≠s:=fun e=>hs q (by simp) os[q] A (by rw[g,e])
      simp only[put]
      rw[List.getElem?_set_ne Y]
      exact hA.rest s fun p hp=>hs p (List.mem_append_left _ hp)
   cases t:mv os[q] with
   | some x=>
    have U:Qb os (C.map .val) q=entOf (L7 (C.map .val) 0 (os.take q)) x:=by simp[Qb,A,Sk,t]
    -- a move: what the operand holds
    have hx:ev l x=(entOf (L7 (C.map .val) 0 (os.take q)) x).at u∧ ∀r,entOf (L7 (C.map .val) 0 (os.take q)) x= .ref r→r∈c∧ ∃o,os[r]? =some o∧mv o=none:=by
     cases x with
     | tmp s=>
      have hs:s∈H5 os[q]:=by
       unfold mv at t
       split at t
       ·cases t
       ·simp only[H5,List.mem_filterMap]
        split at t
        ·rename_i y hy;cases t;exact ⟨.tmp s,by rw[hy];simp[Op.operands],rfl⟩
        ·rename_i y hy;cases t;exact ⟨.tmp s,by rw[hy];simp[Op.operands],rfl⟩
        ·cases t
      exact ad s (.inr hs)
     | _=>exact ⟨rfl,fun r hr=>by cases hr⟩
    have a9:os[q].guard=none:=by
     unfold mv at t
     split at t
     ·cases t
     ·assumption
    simp only[Y4,a9]
    have a3:V8 P l os[q] w (fun v w=>Y4 P ops U3 (f.filterMap (os[·]?)) (put l os[q].dst v) w)=Y4 P ops U3 (f.filterMap (os[·]?)) (put l os[q].dst (ev l x)) w:=by
     unfold mv at t
     rw[a9] at t
     simp only at t
     split at t
     ·rename_i y hy;cases t;simp only[V8,hy]
     ·rename_i y hy;cases t;simp only[V8,hy]
     ·cases t
    rw[a3]
    refine step _ u iv w hI (fun _ _=>rfl) (by rw[U];exact hx.1) (fun r hr=>by
     rw[U] at hr
     obtain ⟨J,R⟩:=hx.2 r hr
     exact ⟨List.mem_cons_of_mem _ J,R⟩) hB (fun r hr o i N=>by
     rcases List.mem_cons.1 hr with rfl | hr
     ·rw[A] at i;cases i;rw[t] at N;cases N
     ·exact ⟨(hΦ r hr o i N).1,fun j hj=>List.mem_cons_of_mem _ ((hΦ r hr o i N).2 j hj)⟩)
   | none=>
    have U:Qb os (C.map .val) q= .ref q:=by simp[Qb,A,Sk,t]
    have bl:=hW.run q os[q] ax t (bq _ (List.getElem_mem _)) u iv w hI.1 hB
    rw[a4 q (by omega),Nat.zero_add] at bl
    have c1:=hW.stable
    have br:=bl (fun j hj=>by
     obtain ⟨s,hs,he⟩:=Cm (Cv hj)
     obtain ⟨J,o,R,h3⟩:=(ad s (b0 s hs)).2 j he
     exact (hΦ j J o R h3).1)
    have ch: ∀j∈refs ops (L7 (C.map .val) 0 (os.take q)) os[q],j∈c:=fun j hj=>by
     obtain ⟨s,hs,he⟩:=Cm (Cv hj)
     exact ((ad s (b0 s hs)).2 j he).1
    refine Q2I ?_
    rw[Q1Z (bq _ (List.getElem_mem _)) (l':=K3 u (L7 (C.map .val) 0 (os.take q))) (fun s hs=>by rw[Ks];exact (ad s (b0 s hs)).1)]
    refine Q3a ?_ br
    intro v w' ⟨b2,hφ⟩
    have Y: ∀r∈c,r≠q:=fun r hr e=>O (e▸hr)
    refine step v (fun n=>if n=q then v else u n) (fun n=>if n=q then (Oe r0 w,Oe r0 w') else iv n) w' (hI.step (hM w w' b2) q) ?_ (by rw[U];simp[Ent.at]) (fun r hr=>by rw[U] at hr;cases hr;exact ⟨by simp,os[q],A,t⟩) (hT w w' hB b2) ?_
    ·intro p hp
     cases he:Qb os (C.map .val) p with
     | val x=>rfl
     | ref r=>
      have:=Y r (hA.refs p hp r he).1
      simp[Ent.at,this]
    ·intro r hr o i N
     rcases List.mem_cons.1 hr with rfl | hr
     ·rw[A] at i;cases i
      refine ⟨?_,fun j hj=>List.mem_cons_of_mem _ (ch j hj)⟩
      simp only[if_true]
      exact hφ _ (fun x hx=>by simp[Y x (ch x hx)]) (by simp)
     ·obtain ⟨f1,f2⟩:=hΦ r hr o i N
      have cd:=D r hr
      have bh:=Y r hr
      have hl:=hW.loc r o (by rw[X r cd];exact i) N (fun n=>if n=q then v else u n) u (fun x hx=>by
       rw[a4 r (by omega),Nat.zero_add] at hx
       have:x≠q:=by
        rcases List.mem_cons.1 hx with rfl | hx
        ·exact bh
        ·exact Y x (f2 x hx)
       simp[this])
      have hs:=c1 r o (by rw[X r cd];exact i) N
      rw[Nat.zero_add] at hs hl
      refine ⟨?_,fun j hj=>List.mem_cons_of_mem _ (f2 j hj)⟩
      simp only[if_neg bh]
      rw[hl]
      exact hs _ _ _ _ f1 b2
def X3y:Op→Bool
 | .move _ | .assign _ | .fieldAddr .. | .indexAddr .. | .field .. | .index .. | .binOp .. | .unOp .. | .extract .. | .pick .. | .makeFunc .. | .nilCheck _ | .slice .. =>true
 | _=>false
def ready (ops:List Oper) (a:List Nat) (j:Nat):Bool:=(P0 ops j).all (a.contains ·)
def X3j (ops:List Oper) (j:Nat):Bool:=match ops[j]? with | some o=>X3y o.op | none=>false
def Q95 (ops:List Oper):Nat→List Nat→List Nat→List Nat
 | 0,_,a=>a.reverse
 | n+1,b,a=>
  match b.find? (fun j=>X3j ops j&&ready ops a j) with
  | some j=>Q95 ops n (b.erase j) (j::a)
  | none=>match b.find? (ready ops a) with
   | some j=>Q95 ops n (b.erase j) (j::a)
   | none=>a.reverse
def M3 (ops:List Oper):List Nat:=Q95 ops ops.length (List.range ops.length) []
def C1 (ops:List Oper) (a:List Nat) (p q:Nat):Bool:=((Ie ops []).getD (a.getD q 0) 0).testBit (a.getD p 0)
def Y8 (ops:List Oper) (a:List Nat):List Oper:=a.map fun i=>ops.getD i default
def cutA (ops:List Oper) (a:List Nat):Nat→Nat
 | 0=>0
 | j+1=>if (List.range j).all (fun i=>C1 ops a i j||Ml (Y8 ops a) i) then cutA ops a j else j+1
def X4N (ops:List Oper) (a:List Nat) (c n:Nat):Bool:=(List.range n).all fun q=>(List.range q).all fun p=>decide (p<c)||C1 ops a p q
def My (ops:List Oper) (a:List Nat) (n:Nat):Nat:=if X4N ops a (cutA ops a n) n then cutA ops a n else n
theorem Q4u (ops:List Oper) (a:List Nat): ∀n,cutA ops a n≤n∧ ∀q,cutA ops a n≤q→q<n→ ∀p,p<q→C1 ops a p q=true∨Ml (Y8 ops a) p=true
 | 0=>⟨Nat.le_refl _,fun q _ h=>by omega⟩
 | j+1=>by
  obtain ⟨g,f⟩:=Q4u ops a j
  simp only[cutA]
  split
  ·rename_i h
   refine ⟨by omega,fun q d b p c=>?_⟩
   by_cases e:q=j
   ·subst e
    simpa using List.all_eq_true.1 h p (by simpa using c)
   ·exact f q d (by omega) p c
  ·exact ⟨Nat.le_refl _,fun q d b=>by omega⟩
theorem Q8V (ops:List Oper) (a:List Nat) (n:Nat):My ops a n≤n∧ ∀q,My ops a n≤q→q<n→ ∀p,p<q→C1 ops a p q=true∨(p<My ops a n∧Ml (Y8 ops a) p=true):=by
 obtain ⟨i,f⟩:=Q4u ops a n
 unfold My
 split
 ·rename_i g
  refine ⟨i,fun q e b p d=>?_⟩
  by_cases c:p<cutA ops a n
  ·exact (f q e b p d).imp id fun h=>⟨c,h⟩
  ·left
   have:=List.all_eq_true.1 (List.all_eq_true.1 g q (by simpa using b)) p (by simpa using d)
   simpa [c] using this
 ·exact ⟨Nat.le_refl _,fun q e b=>by omega⟩
def Q5g (ops:List Oper) (a:List Nat):Bool:=
 a.length==ops.length&&(List.range ops.length).all (a.contains ·)&&Xh a&&a.all (fun i=>decide (i<ops.length))&&
  (List.range ops.length).all fun q=>(List.range q).all fun p=> !C1 ops a q p
def Uw (ops:List Oper) (n:Nat):Bool:=
 Ju ops&&Q42 (Ie ops []) ops&&Xh (D2 (Y8 ops (M3 ops)))&&(D2 (Y8 ops (M3 ops))).all (fun d=>decide (d<n))&&
  (K6 .any ops (List.range ops.length)&&K6 .text ops (List.range ops.length)&&K6 .gc ops (X1c .gc ops ops.length (List.range ops.length) []))&&Q5g ops (M3 ops)
theorem Av: ∀{l:List Nat},Xh l=true→l.Nodup
 | [],_=>List.nodup_nil
 | x::l,h=>by
  simp only[Xh,Bool.and_eq_true,Bool.not_eq_true'] at h
  exact List.nodup_cons.2 ⟨by simpa using h.1,Av h.2⟩
theorem Q5u {ops:List Oper}: ∀(b:List Oper) (a:List Nat),a.length+b.length=ops.length→(∀k,a.length≤k→ops[k]? =b[k-a.length]?)→
 (∀j k,j<a.length→k∈P0 ops j→(a.getD j 0).testBit k=true)→ ∀j k,j<ops.length→k∈P0 ops j→((Ie b a).getD j 0).testBit k=true
 | [],a,i,_,c=>fun j k p d=>c j k (by simp at i;omega) d
 | o::b,a,i,f,c=>by
  have u:ops[a.length]? =some o:=by rw[f _ (Nat.le_refl _)];simp
  refine Q5u b _ (by simp at i⊢;omega) ?_ ?_
  ·intro k d
   simp only[List.length_append,List.length_cons,List.length_nil] at d⊢
   rw[f k (by omega)]
   obtain ⟨m,t⟩: ∃m,k-a.length=m+1:=⟨k-a.length-1,by omega⟩
   rw[t,List.getElem?_cons_succ]
   congr 1;omega
  ·intro j k p d
   simp only[List.length_append,List.length_cons,List.length_nil] at p
   by_cases g:j<a.length
   ·simp only[List.getD_eq_getElem?_getD,List.getElem?_append_left g]
    simpa only[List.getD_eq_getElem?_getD] using c j k g d
   ·have n:j=a.length:=by omega
    subst n
    simp only[List.getD_eq_getElem?_getD,List.getElem?_append_right (Nat.le_refl _),Nat.sub_self,List.getElem?_cons_zero,Option.getD_some]
    unfold P0 at d
    rw[u] at d
    simp only[Option.map_some,Option.getD_some,List.mem_map] at d
    obtain ⟨e,q,rfl⟩:=d
    have key: ∀(l:List Edge) (s:Nat),(e∈l∨s.testBit e.on=true)→(l.foldl (fun s e=>s ||| 2 ^ e.on ||| (a[e.on]?).getD 0) s).testBit e.on=true:=by
     intro l
     induction l with
     | nil=>intro s h;simpa using h
     | cons x l r=>
      intro s h
      refine r _ ?_
      rcases h with h | h
      ·rcases List.mem_cons.1 h with rfl | h
       ·right;simp
       ·exact .inl h
      ·right;simp[h]
    exact key _ _ (.inl q)
theorem Rl {α β:Type} {f g:α→Option β}: ∀{l:List α},(∀x∈l,f x=g x)→l.filterMap f=l.filterMap g
 | [],_=>rfl
 | x::l,h=>by
  rw[List.filterMap_cons,List.filterMap_cons,h x (by simp),Rl fun y a=>h y (by simp[a])]
structure Arr (ops : List Oper) (ord : List Nat) (L : List Nat) : Prop where
  hpl : ∀ o ∈ Y8 ops ord, Qx o.op = true
  hclash : ∀ p q a b, p < q → (Y8 ops ord)[p]? = some a → (Y8 ops ord)[q]? = some b → (T8 a b || T8 b a) = true → C1 ops ord p q = true
  hg : ∀ q o j b, (Y8 ops ord)[q]? = some o → o.guard = some (j, b) → ∃ p, p < q ∧ (Y8 ops ord)[p]? = ops[j]? ∧ C1 ops ord p q = true
  hn : L.Nodup
  hlt : ∀ q ∈ L, q < (Y8 ops ord).length
  hC : ∀ pre q post, L = pre ++ q :: post → ∀ p, C1 ops ord p q = true → p < (Y8 ops ord).length → p ∈ pre
  hLl : L.length = (Y8 ops ord).length
theorem Kq {ops:Array Oper} {c:List Nat} (X:Ju ops.toList=true) (hc:Q42 (Ie ops.toList []) ops.toList=true) (ba:K6 .any ops.toList (List.range ops.toList.length)=true) (bb:K6 .text ops.toList (List.range ops.toList.length)=true) (bc:K6 .gc ops.toList (X1c .gc ops.toList ops.toList.length (List.range ops.toList.length) [])=true) (N:Q5g ops.toList c=true) (b:Bool) (t:Nat):
 (Region.schedule b ops t).filterMap (ops[·]?)=((Region.schedule b ops t).map (c.idxOf ·)).filterMap ((Y8 ops.toList c)[·]?)∧Arr ops.toList c ((Region.schedule b ops t).map (c.idxOf ·))∧(Y8 ops.toList c).length=ops.toList.length∧(Region.schedule b ops t).Nodup∧ ∀i∈Region.schedule b ops t,i<ops.toList.length∧c.getD (c.idxOf i) 0=i:=by
 simp only[Q5g,Bool.and_eq_true,beq_iff_eq] at N
 obtain ⟨⟨⟨⟨ae,R⟩,a2⟩,O⟩,H⟩:=N
 have aa:=Av a2
 have Z:(Y8 ops.toList c).length=ops.toList.length:=by simp[Y8,ae]
 have g: ∀p,p<ops.toList.length→c.getD p 0<ops.toList.length:=by
  intro p W
  simp only[List.getD_eq_getElem?_getD]
  rw[List.getElem?_eq_getElem (by omega)]
  have:=List.all_eq_true.1 O c[p] (List.getElem_mem _)
  simpa using this
 have d: ∀p,p<ops.toList.length→(Y8 ops.toList c)[p]? =ops.toList[c.getD p 0]? :=by
  intro p W
  have n:=g p W
  simp only[List.getD_eq_getElem?_getD] at n
  rw[List.getElem?_eq_getElem (by omega:p<c.length)] at n
  simp only[Option.getD_some] at n
  simp only[Y8,List.getElem?_map,List.getD_eq_getElem?_getD]
  rw[List.getElem?_eq_getElem (by omega:p<c.length)]
  simp only[Option.map_some,Option.getD_some]
  rw[List.getElem?_eq_getElem n]
  simp
 obtain ⟨V,L,A⟩:=Q4T b ops t X (fun m=>by cases m<;>exact ⟨_,by assumption⟩)
 have f:=Q1R b ops t
 generalize Region.schedule b ops t=L0 at V L A f⊢
 have w: ∀i,i<ops.toList.length→i∈c:=fun i s=>by simpa using List.all_eq_true.1 R i (by simpa using s)
 have l: ∀i,i<ops.toList.length→c.idxOf i<ops.toList.length∧c.getD (c.idxOf i) 0=i:=by
  intro i s
  have n:=List.idxOf_lt_length_of_mem (w i s)
  refine ⟨by omega,?_⟩
  simp only[List.getD_eq_getElem?_getD]
  rw[List.getElem?_eq_getElem n]
  simp
 have r: ∀p,p<ops.toList.length→c.idxOf (c.getD p 0)=p:=by
  intro p W
  simp only[List.getD_eq_getElem?_getD]
  rw[List.getElem?_eq_getElem (by omega:p<c.length)]
  simp only[Option.getD_some]
  exact List.Nodup.idxOf_getElem aa p (by omega)
 have af: ∀p q,p<q→q<ops.toList.length→C1 ops.toList c q p=false:=by
  intro p q Q u
  have:=List.all_eq_true.1 (List.all_eq_true.1 H q (by simpa using u)) p (by simpa using Q)
  simpa using this
 have az:L0.filterMap (ops[·]?)=(L0.map (c.idxOf ·)).filterMap ((Y8 ops.toList c)[·]?):=by
  rw[List.filterMap_map]
  refine Rl fun i s=>?_
  have:=f i s
  have n:=l i (by simpa using this)
  simp only[Function.comp]
  rw[d _ n.1,n.2]
  simp
 refine ⟨az,⟨?_,?_,?_,?_,?_,?_,by simp[L,ae,Y8]⟩,Z,V,fun i s=>⟨by simpa using f i s,(l i (by simpa using f i s)).2⟩⟩
 ·intro o ho
  simp only[Y8,List.mem_map] at ho
  obtain ⟨i,s,rfl⟩:=ho
  have v:i<ops.toList.length:=by simpa using List.all_eq_true.1 O i s
  simp only[Ju,List.all_eq_true,Bool.and_eq_true] at X
  have:=(X (ops.toList[i],i) (by rw[List.mem_zipIdx_iff_getElem?];simpa using v)).1.1
  rw[List.getD_eq_getElem?_getD,List.getElem?_eq_getElem v]
  exact this
 ·intro p q a b' Q ha C D
  have W:p<ops.toList.length:=by have:=(List.getElem?_eq_some_iff.1 ha).1;omega
  have u:q<ops.toList.length:=by have:=(List.getElem?_eq_some_iff.1 C).1;omega
  rw[d p W] at ha
  rw[d q u] at C
  have ac: ∀i Y x x',i<Y→ops.toList[i]? =some x→ops.toList[Y]? =some x'→(T8 x x'||T8 x' x)=true→((Ie ops.toList []).getD Y 0).testBit i=true:=by
   intro i Y x x' a3 hx ax D
   simp only[Q42,List.all_eq_true] at hc
   have:=hc (x',Y) (by rw[List.mem_zipIdx_iff_getElem?];simpa using ax) (x,i) (by rw[List.mem_zipIdx_iff_getElem?];simpa using hx)
   simp only[a3,D,decide_true,Bool.not_true,Bool.false_or,Bool.or_self] at this
   exact this
  have ah:c.getD p 0≠c.getD q 0:=by
   intro e
   have:=r p W
   rw[e,r q u] at this
   omega
  rcases Nat.lt_or_gt_of_ne ah with h | h
  ·exact ac _ _ a b' h ha C D
  ·have n:=ac _ _ b' a h C ha (by rw[Bool.or_comm];exact D)
   have z:=af p q Q u
   unfold C1 at z
   rw[n] at z;cases z
 ·intro q o j b' u ap
  have E:q<ops.toList.length:=by have:=(List.getElem?_eq_some_iff.1 u).1;omega
  rw[d q E] at u
  have M:j∈P0 ops.toList (c.getD q 0):=by
   have ad:=X
   simp only[Ju,List.all_eq_true,Bool.and_eq_true] at ad
   have:=(ad (o,c.getD q 0) (by rw[List.mem_zipIdx_iff_getElem?];simpa using u)).2
   rw[ap] at this
   simp only[List.any_eq_true] at this
   obtain ⟨e,aw,an⟩:=this
   unfold P0
   rw[u]
   simp only[Option.map_some,Option.getD_some,List.mem_map]
   exact ⟨e,aw,by simpa using an⟩
  have am:=Ig X _ (g q E) j M
  have hj:j<ops.toList.length:=by have:=g q E;omega
  have C:=Q5u (ops:=ops.toList) ops.toList [] (by simp) (by simp) (by intro j k hj;simp at hj) _ j (g q E) M
  obtain ⟨n,z⟩:=l j hj
  have J:C1 ops.toList c (c.idxOf j) q=true:=by unfold C1;rw[z];exact C
  refine ⟨c.idxOf j,?_,by rw[d _ n,z],J⟩
  rcases Nat.lt_trichotomy (c.idxOf j) q with h | h | h
  ·exact h
  ·rw[←h,z] at am;omega
  ·have:=af q _ h n
   rw[J] at this;cases this
 ·refine List.pairwise_map.2 (V.imp_of_mem ?_)
  intro x y hx hy a1 aq
  have n:=(l x (by simpa using f x hx)).2
  have z:=(l y (by simpa using f y hy)).2
  exact a1 (by rw[←n,←z,aq])
 ·intro q u
  simp only[List.mem_map] at u
  obtain ⟨i,s,rfl⟩:=u
  have:=(l i (by simpa using f i s)).1
  omega
 ·intro bd q a4 hL p C W
  rw[List.map_eq_append_iff] at hL
  obtain ⟨aj,ao,ag,ab,B⟩:=hL
  rw[List.map_eq_cons_iff] at B
  obtain ⟨i,U,hr,s,av⟩:=B
  subst hr s ab
  have v:i<ops.toList.length:=by simpa using f i (by rw[ag];simp)
  obtain ⟨n,z⟩:=l i v
  unfold C1 at C
  rw[z] at C
  have ar:p<ops.toList.length:=by omega
  have:=Q5z X A i v (c.getD p 0) aj U ag C
  rw[List.mem_map]
  exact ⟨c.getD p 0,this,r p ar⟩
theorem Q4j {ops:Array Oper} {n:Nat} (c:Uw ops.toList n=true) (b:Bool) (t:Nat): ∃L,(Region.schedule b ops t).filterMap (ops[·]?)=L.filterMap ((Y8 ops.toList (M3 ops.toList))[·]?)∧Arr ops.toList (M3 ops.toList) L∧(Y8 ops.toList (M3 ops.toList)).length=ops.toList.length:=by
 simp only[Uw,Bool.and_eq_true] at c
 obtain ⟨⟨⟨⟨⟨i,j⟩,l⟩,m⟩,⟨e,f⟩,d⟩,a⟩:=c
 obtain ⟨k,h,g,_⟩:=Kq i j e f d a b t
 exact ⟨_,k,h,g⟩
theorem Q86 (P:Program) (r:Bool) (ops:Array Oper) (T:World→World→Prop) (B:World→Prop) (U3:List Value→World→Prop) (i:List Value) (g:Uw ops.toList i.length=true)
 (N: ∀w w',B w→T w w'→B w') (E: ∀w w',T w w'→Oe r w≤Oe r w')
 (h:chain P r ops.toList T B U3 ((Y8 ops.toList (M3 ops.toList)).drop (My ops.toList (M3 ops.toList) ops.toList.length)) 0
  ((Y8 ops.toList (M3 ops.toList)).take (My ops.toList (M3 ops.toList) ops.toList.length)) (i.map .val) [] [])
 (b:Bool) (t:Nat) (w:World) (y:B w):Y4 P ops.toList U3 ((Region.schedule b ops t).filterMap (ops[·]?)) i w:=by
 obtain ⟨L,l,f,o⟩:=Q4j g b t
 simp only[Uw,Bool.and_eq_true] at g
 obtain ⟨⟨⟨⟨⟨k,U⟩,M⟩,O⟩,⟨u,A⟩,H⟩,s⟩:=g
 generalize M3 ops.toList=a at*
 obtain ⟨Φ,_,D⟩:=Au P r ops.toList T B U3 _ _ 0 (i.map .val) [] [] (by intro e k j z;simp only[List.mem_map] at k;obtain ⟨v,_,rfl⟩:=k;cases z) (by simp) (by simp[Ue]) h
 rw[l]
 obtain ⟨n,c⟩:=Q8V ops.toList a ops.toList.length
 exact X4J (os:=Y8 ops.toList a) (m:=My ops.toList a ops.toList.length) (T:=T) (B:=B) (Φ:=Φ) (C1 ops.toList a) f.hpl M (fun d C=>by simpa using List.all_eq_true.1 O d C) f.hclash f.hg (by omega)
  (fun q R J p Q=>c q R (by omega) p Q) N E D L f.hn f.hLl f.hlt f.hC _ [] rfl (by simp) i (fun _=>undef) (fun _=>(0,0)) w .init
  ⟨rfl,by simp,fun _ _=>rfl,by simp⟩ y (by simp)
def Zd {α:Type} (P:Program) (s:Sem α):Prop:= ∀w v w',s.run P w= .ok v w'→w'=w
section
variable {P : Program} {α β : Type}
theorem Ua (a:α):Zd P (Pure.pure a:Sem α):=fun w v w' h=>by simp at h;exact h.2.symm
theorem Q7x (m:String):Zd P (stuck m:Sem α):=fun w v w' h=>by simp at h
theorem T4 {s:Sem α} {f:α→Sem β} (c:Zd P s) (d: ∀a,Zd P (f a)):Zd P (s>>=f):=fun w v w' h=>by
 rw[Sem.run_bind] at h
 cases b:s.run P w with
 | halt x w1=>rw[b] at h;simp[Result.andThen] at h
 | ok a w1=>
  rw[b] at h
  have:=c _ _ _ b
  subst this
  exact d a _ _ _ h
theorem Q2U (a:Addr) (m:Mode):Zd P (load a m):=fun w v w' h=>by
 unfold load at h
 simp only[Sem.run] at h
 split at h
 ·cases h;rfl
 ·split at h
  ·cases h;rfl
  ·cases h
theorem Fx (t:TypeId):Zd P (typeInfo t):=fun w v w' h=>by
 unfold typeInfo at h
 simp only[Sem.run_bind,run_program,Result.andThen_ok] at h
 split at h<;>simp at h
 exact h.2.symm
theorem Q2p (t:TypeId):Zd P (underlying t):=fun w v w' h=>by
 unfold underlying at h
 simp only[Sem.run_bind,run_program,Result.andThen_ok] at h
 split at h<;>simp at h
 exact h.2.symm
theorem Q6Y (t:TypeId):Zd P (isAgg t):=by
 unfold isAgg
 refine T4 (Q2p t) fun d=>?_
 split<;>exact Ua _
theorem Q5K (t:TypeId):Zd P (sizeOf t):=T4 (Fx t) fun _=>Ua _
theorem Q1J (a:Addr): ∀(n i:Nat) (b:Array Value),Zd P (loadCellsFrom a i n b)
 | 0,i,b=>Ua _
 | n+1,i,b=>T4 (Q2U _ _) fun v=>Q1J a n (i+1) _
theorem Q4Z (t:TypeId) (a:Addr):Zd P (loadVar t a):=by
 unfold loadVar
 refine T4 (Q6Y t) fun b=>?_
 split
 ·exact T4 (Q5K t) fun n=>T4 (Q1J a n 0 #[]) fun cs=>Ua _
 ·exact Q2U _ _
theorem Q6t (t:TypeId) (v:Value):Zd P (Instr.loadAt t v):=by
 unfold Instr.loadAt
 refine T4 ?_ fun a=>Q4Z t a
 unfold Instr.sureAddr
 split
 ·exact Ua _
 ·exact Q7x _
def Zi (P:Program) (s:Sem α):Prop:= ∀w v w1,s.run P w= .ok v w1→w1=w∧ ∀w',s.run P w'= .ok v w'
theorem Zm (a:α):Zi P (Pure.pure a:Sem α):=fun w v w' h=>by simp at h⊢;exact ⟨h.2.symm,h.1⟩
theorem Lf (m:String):Zi P (stuck m:Sem α):=fun w v w' h=>by simp at h
theorem T0 {s:Sem α} {f:α→Sem β} (d:Zi P s) (g: ∀a,Zi P (f a)):Zi P (s>>=f):=fun w v w' h=>by
 rw[Sem.run_bind] at h
 cases b:s.run P w with
 | halt x w1=>rw[b] at h;simp[Result.andThen] at h
 | ok a w1=>
  rw[b] at h
  obtain ⟨rfl,i⟩:=d _ _ _ b
  obtain ⟨e,j⟩:=g a _ _ _ h
  refine ⟨e,fun c=>?_⟩
  rw[Sem.run_bind,i c]
  exact j c
theorem Pt (t:TypeId):Zi P (typeInfo t):=fun w v w' h=>by
 unfold typeInfo at h⊢
 simp only[Sem.run_bind,run_program,Result.andThen_ok] at h⊢
 split at h<;>simp at h
 rename_i i a
 refine ⟨h.2.symm,fun w'=>?_⟩
 simp[a,h.1]
theorem Ww (t:TypeId):Zi P (underlying t):=fun w v w' h=>by
 unfold underlying at h⊢
 simp only[Sem.run_bind,run_program,Result.andThen_ok] at h⊢
 split at h<;>simp at h
 rename_i i a
 refine ⟨h.2.symm,fun w'=>?_⟩
 simp[a,h.1]
theorem Rk (v:Value) (i:Nat):Zi P (Instr.extract v i):=by
 unfold Instr.extract
 split
 ·split
  ·exact Zm _
  ·exact Lf _
 ·exact Lf _
theorem X06 (v:Value):Zi P (Instr.sureAddr v):=by
 unfold Instr.sureAddr
 split
 ·exact Zm _
 ·exact Lf _
theorem Q40 {s:Sem α} (h: ∀w v w',s.run P w≠ .ok v w'):Zi P s:=fun w v w' e=>absurd e (h w v w')
theorem Q3Z {s:Sem α} {f:α→Sem β} (c: ∀a w v w',(f a).run P w≠ .ok v w'): ∀w v w',(s>>=f).run P w≠ .ok v w':=fun w v w' h=>by
 rw[Sem.run_bind] at h
 cases b:s.run P w with
 | halt x w1=>rw[b] at h;simp[Result.andThen] at h
 | ok a w1=>rw[b] at h;exact c a _ _ _ h
theorem Q38 (e:Int×Int×Bool×BoundsCode): ∀w v w',(runtimePanic (.bounds e.1 e.2.1 e.2.2.1 e.2.2.2):Sem α).run P w≠ .ok v w':=by
 unfold runtimePanic
 exact Q3Z fun p=>fun w v w' h=>by cases h
theorem Q1K (k:IntKind) (x y:Int) (c:BoundsCode):Zi P (boundsPanic k x y c:Sem α):=Q40 (by
 unfold boundsPanic
 dsimp only
 split
 ·exact Q3Z fun b=>Q38 (_,_,_,_)
 ·exact Q3Z fun b=>Q38 (_,_,_,_))
theorem Rj (t:TypeId) (x i:Value):Zi P (Instr.indexAt t x i):=by
 unfold Instr.indexAt
 refine T0 ?_ fun q=>?_
 ·unfold asIntOf
  split
  ·exact Zm _
  ·exact Q40 fun w v w' h=>by cases h
  ·exact Lf _
 refine T0 (Ww t) fun d=>?_
 dsimp only
 have key: ∀(z:Option Addr×Nat×TypeId),Zi P (match z with
  | (base,b,elem)=>do
   let __do_lift←underlying t
   have c:Bool:=decide (b≤1)&&match __do_lift with
    | TypeDesc.array b elem=>true
    | x=>false
   match base with
    | some a=>
     if 0≤q.snd∧q.snd< ↑b then do
      let __do_lift←sizeOf elem
      pure (Value.pointer (some (a.add (q.snd.toNat*__do_lift))))
     else
      if c=true then unsupported (Unsupported.noEntry "op/indexAddr.an index out of range at an array of length 0 or 1 (ledger 616)")
      else boundsPanic q.fst q.snd (↑b) BoundsCode.index
    | none=>boundsPanic q.fst q.snd 0 BoundsCode.index):=by
  rintro ⟨base,b,elem⟩
  dsimp only
  refine T0 (Ww t) fun g=>?_
  cases base with
  | none=>exact Q1K _ _ _ _
  | some a=>
   dsimp only
   by_cases f:0≤q.snd∧q.snd< ↑b
   ·rw[if_pos f]
    exact T0 (T0 (Pt _) fun _=>Zm _) fun n=>Zm _
   ·rw[if_neg f]
    by_cases e:(decide (b≤1)&&match g with
     | TypeDesc.array b elem=>true
     | x=>false)=true
    ·rw[if_pos e]
     exact Q40 fun w v w' h=>by cases h
    ·rw[if_neg e]
     exact Q1K _ _ _ _
 split
 ·exact T0 (X06 _) fun a=>T0 (Zm _) key
 ·exact T0 (Zm _) key
 ·exact T0 (Lf _) key
def Q0Q (o:Oper):Bool:=match o.op with | .move _ | .assign _ | .load .. | .extract .. | .indexAddr .. =>true | _=>false
def Q3p (o:Oper):Bool:=match o.op with | .move _ | .assign _ | .extract .. | .indexAddr .. =>true | _=>false
theorem Hb {s:Sem Value} {w:World} {K:Value→World→Prop} (h:op P (sv s) w K): ∃v w',s.run P w= .ok v w'∧K v w':=by
 rw[Qu] at h
 unfold T5 sv at h
 rw[Sem.run_bind] at h
 cases a:s.run P w with
 | halt x w1=>rw[a] at h;exact h.elim
 | ok v w1=>rw[a] at h;exact ⟨v,w1,rfl,h⟩
theorem Hq {s:Sem Value} {v:Value} {w w':World} {K:Value→World→Prop} (h:s.run P w= .ok v w') (k:K v w'):op P (sv s) w K:=by
 rw[Qu]
 unfold T5 sv
 rw[Sem.run_bind,h]
 exact k
theorem Q9O {p:Program} {w w':World} {a k:Addr} {u:TypeId} {b:Bool} {r} (h: ∀(i:Nat) o,w.heap[i]? =some o→w'.heap[i]? =some o) (c:w.seen p a u k b= .ok r):w'.seen p a u k b= .ok r:=by
 cases e:w.heap[a.block]? with
 | some o=>
  have d:=h _ _ e
  unfold World.seen at*
  rw[d]
  rw[e] at c
  exact c
 | none=>
  exfalso
  unfold World.seen at c
  simp only[e,bind,Except.bind,throw,throwThe,MonadExceptOf.throw,pure,Except.pure] at c
  repeat (first | cases c | split at c)
theorem X1d {p:Program} {w w':World} {a:Addr} {b:Bool} {r} (h: ∀(i:Nat) o,w.heap[i]? =some o→w'.heap[i]? =some o) (c:w.farLoad p a b= .ok r):w'.farLoad p a b= .ok r:=by
 unfold World.farLoad at*
 cases e:w.heap[a.block]? with
 | none=>rw[e] at c;cases c
 | some o=>
  rw[e] at c
  rw[h _ _ e]
  cases o with
  | view d u=>
   simp only at c⊢
   cases f:w.viewLoad p d u a b with
   | error s=>rw[f] at c;cases c
   | ok q=>
    rw[f] at c
    have:w'.viewLoad p d u a b= .ok q:=by
     unfold World.viewLoad at*
     cases g:w.seen p d u a b with
     | error s=>rw[g] at f;cases f
     | ok z=>rw[Q9O h g];rw[g] at f;exact f
    rw[this]
    exact c
  | _=>simp only at c;cases c
def Dd {α:Type} (P:Program) (s:Sem α):Prop:= ∀w v w1,s.run P w= .ok v w1→w1=w∧ ∀w':World,(∀(i:Nat) o,w.heap[i]? =some o→w'.heap[i]? =some o)→s.run P w'= .ok v w'
section
variable {P : Program} {α β : Type}
theorem Du (a:α):Dd P (Pure.pure a:Sem α):=fun w v w' h=>by simp at h⊢;exact ⟨h.2.symm,fun _ _=>h.1⟩
theorem Q9k (m:String):Dd P (stuck m:Sem α):=fun w v w' h=>by simp at h
theorem Ji {s:Sem α} {f:α→Sem β} (e:Dd P s) (i: ∀a,Dd P (f a)):Dd P (s>>=f):=fun w v w' h=>by
 rw[Sem.run_bind] at h
 cases b:s.run P w with
 | halt x w1=>rw[b] at h;simp[Result.andThen] at h
 | ok a w1=>
  rw[b] at h
  obtain ⟨rfl,j⟩:=e _ _ _ b
  obtain ⟨g,k⟩:=i a _ _ _ h
  refine ⟨g,fun c d=>?_⟩
  rw[Sem.run_bind,j c d]
  exact k c d
theorem Q49 (a:Addr) (m:Mode):Dd P (load a m):=fun w v w1 h=>by
 unfold load at h⊢
 simp only[Sem.run] at h⊢
 cases e:w.cell? a with
 | some x=>
  rw[e] at h
  cases h
  refine ⟨rfl,fun w' d=>?_⟩
  have:w'.cell? a=some v:=by
   unfold World.cell? at*
   cases c:w.heap[a.block]? with
   | none=>rw[c] at e;cases e
   | some o=>rw[c] at e;rw[d _ _ c];exact e
  rw[this]
 | none=>
  rw[e] at h
  simp only at h
  cases b:w.farLoad P a (m== .atomic) with
  | error s=>rw[b] at h;cases h
  | ok q=>
   rw[b] at h
   cases h
   refine ⟨rfl,fun w' d=>?_⟩
   have g:=X1d d b
   cases f:w'.cell? a with
   | none=>simp only[g]
   | some x=>
    exfalso
    unfold World.farLoad at b
    unfold World.cell? at f
    cases c:w.heap[a.block]? with
    | none=>rw[c] at b;cases b
    | some o=>
     rw[d _ _ c] at f
     rw[c] at b
     cases o<;>first | cases f | (simp only at b;cases b)
theorem Q4F {s:Sem α} (h:Zi P s):Dd P s:=fun w v w1 e=>⟨(h w v w1 e).1,fun w' _=>(h w v w1 e).2 w'⟩
theorem Q9j (t:TypeId):Dd P (isAgg t):=by
 unfold isAgg
 refine Ji (Q4F (Ww t)) fun d=>?_
 split<;>exact Du _
theorem Q2X (a:Addr): ∀(n i:Nat) (b:Array Value),Dd P (loadCellsFrom a i n b)
 | 0,i,b=>Du _
 | n+1,i,b=>Ji (Q49 _ _) fun v=>Q2X a n (i+1) _
theorem Q72 (t:TypeId) (v:Value):Dd P (Instr.loadAt t v):=by
 unfold Instr.loadAt
 refine Ji ?_ fun a=>?_
 ·unfold Instr.sureAddr
  split
  ·exact Du _
  ·exact Q9k _
 ·unfold loadVar
  refine Ji (Q9j t) fun b=>?_
  split
  ·exact Ji (Ji (Q4F (Pt t)) fun _=>Du _) fun n=>Ji (Q2X a n 0 #[]) fun cs=>Du _
  ·exact Q49 _ _
def Rr (o:Oper):Bool:=match o.op with | .alloc .. =>true | _=>false
theorem X00 {l:List Value} {o:Oper} {w:World} {K:Value→World→Prop} (h:Q0Q o=true) (c:V8 P l o w K): ∃v,K v w∧ ∀(w':World) b,(∀(i:Nat) o,w.heap[i]? =some o→w'.heap[i]? =some o)→b v w'→V8 P l o w' b:=by
 obtain ⟨d,p,m,pos,n,g⟩:=o
 cases p<;>(first | (simp[Q0Q] at h;done) | skip)<;>simp only[V8] at c⊢
 ·exact ⟨_,c,fun w' b _ a=>a⟩
 ·exact ⟨_,c,fun w' b _ a=>a⟩
 ·obtain ⟨v,w',j,f⟩:=Hb c
  obtain ⟨rfl,e⟩:=Q72 _ _ _ _ _ j
  exact ⟨v,f,fun w' b k a=>Hq (e w' k) a⟩
 ·obtain ⟨v,w',j,f⟩:=Hb c
  obtain ⟨rfl,e⟩:=Rj _ _ _ _ _ _ j
  exact ⟨v,f,fun w' b k a=>Hq (e w') a⟩
 ·obtain ⟨v,w',j,f⟩:=Hb c
  obtain ⟨rfl,e⟩:=Rk _ _ _ _ _ j
  exact ⟨v,f,fun w' b k a=>Hq (e w') a⟩
theorem Q3u {γ δ:Type} {s:Sem γ} {f:γ→Sem δ} {w w':World} {v:δ} (h:(s>>=f).run P w= .ok v w'): ∃a w1,s.run P w= .ok a w1∧(f a).run P w1= .ok v w':=by
 rw[Sem.run_bind] at h
 cases b:s.run P w with
 | halt x w1=>rw[b] at h;simp[Result.andThen] at h
 | ok a w1=>rw[b] at h;exact ⟨a,w1,rfl,h⟩
theorem X0V {γ:Type} {r:Unsupported}:Zd P (unsupported r:Sem γ):=fun w v w' h=>by simp[unsupported] at h
theorem Q68 {l:List Value} {o:Oper} {w:World} {K:Value→World→Prop} (h:Rr o=true) (q:V8 P l o w K): ∃v w',(∀(i:Nat) o,w.heap[i]? =some o→w'.heap[i]? =some o)∧K v w'∧ ∀b:Value→World→Prop,b v w'→V8 P l o w b:=by
 obtain ⟨d,p,B,pos,E,g⟩:=o
 cases p<;>(first | (simp[Rr] at h;done) | skip)
 simp only[V8] at q⊢
 obtain ⟨v,w',n,u⟩:=Hb q
 refine ⟨v,w',?_,u,fun b t=>Hq n t⟩
 have a:=n
 unfold Instr.alloc zeroValue at a
 obtain ⟨z,w1,y,j⟩:=Q3u a
 have s:w1=w:=T4 (Fx _) (fun i=>by split;exact Ua _;exact X0V) _ _ _ y
 subst s
 simp only at j
 obtain ⟨c,D,k,m⟩:=Q3u j
 simp only[Sem.run_pure,Result.ok.injEq] at m
 obtain ⟨_,rfl⟩:=m
 unfold newVar newRow at k
 obtain ⟨H,C,e,r⟩:=Q3u k
 simp only[Sem.run_pure,Result.ok.injEq] at r
 obtain ⟨_,rfl⟩:=r
 unfold newObj at e
 simp only[Sem.run,Result.ok.injEq] at e
 obtain ⟨_,rfl⟩:=e
 intro i o f
 have A:=(Array.getElem?_eq_some_iff.1 f).1
 simp only[Array.getElem?_push]
 rw[if_neg (by omega)]
 exact f
end
theorem Q5j {l:List Value} {o:Oper} {w:World} {K:Value→World→Prop} (h:Q0Q o=true) (e:V8 P l o w K): ∃v,K v w∧ ∀c,c v w→V8 P l o w c:=by
 obtain ⟨d,p,i,pos,j,g⟩:=o
 cases p<;>(first | (simp[Q0Q] at h;done) | skip)<;>simp only[V8] at e⊢
 ·exact ⟨_,e,fun c a=>a⟩
 ·exact ⟨_,e,fun c a=>a⟩
 ·obtain ⟨v,w',b,f⟩:=Hb e
  have:=Q6t _ _ _ _ _ b
  subst this
  exact ⟨v,f,fun c a=>Hq b a⟩
 ·obtain ⟨v,w',b,f⟩:=Hb e
  have:=(Rj _ _ _ _ _ _ b).1
  subst this
  exact ⟨v,f,fun c a=>Hq b a⟩
 ·obtain ⟨v,w',b,f⟩:=Hb e
  have:=(Rk _ _ _ _ _ b).1
  subst this
  exact ⟨v,f,fun c a=>Hq b a⟩
theorem Q2c {l:List Value} {o:Oper} {w:World} {K:Value→World→Prop} (h:Q3p o=true) (c:V8 P l o w K): ∃v,K v w∧ ∀w' b,b v w'→V8 P l o w' b:=by
 obtain ⟨d,p,j,pos,k,g⟩:=o
 cases p<;>(first | (simp[Q3p] at h;done) | skip)<;>simp only[V8] at c⊢
 ·exact ⟨_,c,fun w' b a=>a⟩
 ·exact ⟨_,c,fun w' b a=>a⟩
 ·obtain ⟨v,w',i,f⟩:=Hb c
  obtain ⟨rfl,e⟩:=Rj _ _ _ _ _ _ i
  exact ⟨v,f,fun w' b a=>Hq (e w') a⟩
 ·obtain ⟨v,w',i,f⟩:=Hb c
  obtain ⟨rfl,e⟩:=Rk _ _ _ _ _ i
  exact ⟨v,f,fun w' b a=>Hq (e w') a⟩
end
structure Swap (ops : List Oper) (a b : Oper) : Prop where
  pa : Qx a.op = true
  pb : Qx b.op = true
  ga : a.guard = none
  ab : ∀ d, a.dst = some d → d ∉ O8 ops b ++ H5 b
  ba : ∀ d, b.dst = some d → d ∉ O8 ops a ++ H5 a
  dd : ∀ d, a.dst = some d → b.dst ≠ some d
  gb : ∀ j c, b.guard = some (j, c) → ((ops[j]?).bind (·.dst)).isSome = true
  rd : (Q0Q a = true ∧ (Q0Q b = true ∨ Rr b = true) ∧ b.guard = none ∨ Rr a = true ∧ Q3p b = true ∧ b.guard = none) ∨ Q3p a = true
section
variable {P : Program} {ops : List Oper} {U3 : List Value → World → Prop}
theorem Q2i {l:List Value} {d:Option Nat} {v:Value} {s:Nat} (h: ∀e,d=some e→e≠s):get (put l d v) s=get l s:=by
 cases d with
 | none=>rfl
 | some e=>simp only[put,get,List.getD_eq_getElem?_getD,List.getElem?_set_ne (h e rfl)]
theorem X0q {l:List Value} {d e:Option Nat} {v u:Value} (h: ∀x,d=some x→e≠some x):put (put l d v) e u=put (put l e u) d v:=by
 cases d with
 | none=>rfl
 | some d=>cases e with
  | none=>rfl
  | some e=>simp only[put];exact List.set_comm _ _ (by intro a;subst a;exact h d rfl rfl)
theorem Q4z {o:Oper} {s:Nat} (a:Operand.tmp s∈o.op.operands):s∈H5 o:=by
 simp only[H5,List.mem_filterMap]
 exact ⟨.tmp s,by simpa using a,rfl⟩
theorem Q73 {a b:Oper} {R:List Oper} {l:List Value} {w:World} (Y:Swap ops a b) (h:Y4 P ops U3 (a::b::R) l w):Y4 P ops U3 (b::a::R) l w:=by
 obtain ⟨pa,pb,O,L,U,Q,Z,N⟩:=Y
 have t: ∀v,V8 P (put l a.dst v) b=V8 P l b:=fun v=>Dc pb fun x D=>by
  cases x with
  | tmp s=>exact Q2i fun e o g=>L e o (List.mem_append_right _ (g▸Q4z D))
  | _=>rfl
 have n: ∀v,V8 P (put l b.dst v) a=V8 P l a:=fun v=>Dc pa fun x D=>by
  cases x with
  | tmp s=>exact Q2i fun e o g=>U e o (List.mem_append_right _ (g▸Q4z D))
  | _=>rfl
 have m: ∀v u,put (put l b.dst u) a.dst v=put (put l a.dst v) b.dst u:=fun v u=>(X0q Q).symm
 simp only[Y4,O] at h⊢
 cases k:b.guard with
 | none=>
  simp only[k] at h⊢
  rcases N with (⟨B,rb | rb,_⟩ | ⟨B,X,_⟩) | fa
  ·obtain ⟨A,f,i⟩:=Q5j B h
   rw[t] at f
   obtain ⟨z,p,y⟩:=Q5j rb f
   refine y _ ?_
   rw[n]
   exact i _ (by rw[m];exact p)
  ·obtain ⟨A,f,i⟩:=X00 B h
   rw[t] at f
   obtain ⟨z,W,k,p,y⟩:=Q68 rb f
   refine y _ ?_
   rw[n]
   exact i W _ k (by rw[m];exact p)
  ·obtain ⟨A,wa,k,f,i⟩:=Q68 B h
   rw[t] at f
   obtain ⟨z,p,y⟩:=Q2c X f
   refine y w _ ?_
   rw[n]
   exact i _ (by rw[m];exact p)
  ·obtain ⟨A,f,i⟩:=Q2c fa h
   rw[t] at f
   refine G2 (fun z w' E=>?_) f
   rw[n]
   exact i w' _ (by rw[m];exact E)
 | some q=>
  obtain ⟨j,c⟩:=q
  rcases N with (⟨_,_,r⟩ | ⟨_,_,r⟩) | fa
  ·rw[k] at r;cases r
  ·rw[k] at r;cases r
  obtain ⟨d,M⟩:=Option.isSome_iff_exists.1 (Z j c k)
  have C:d∈O8 ops b:=by simp[O8,k,M]
  have V: ∀v,get (put l a.dst v) d=get l d:=fun v=>Q2i fun e o g=>L e o (List.mem_append_left _ (g▸C))
  simp only[k,M] at h⊢
  obtain ⟨A,f,i⟩:=Q2c fa h
  rw[t,V] at f
  refine Q0a ((Vr f).imp (fun ⟨H,J⟩=>⟨H,G2 (fun z w' E=>?_) J⟩) (fun ⟨H,J⟩=>⟨H,?_⟩))
  ·rw[n];exact i w' _ (by rw[m];exact E)
  ·rw[n];exact i w _ (by rw[m];exact J)
theorem Q1P {a:Oper} {R k:List Oper} {l:List Value} {w:World} (b: ∀l w,Y4 P ops U3 R l w→Y4 P ops U3 k l w) (h:Y4 P ops U3 (a::R) l w):Y4 P ops U3 (a::k) l w:=by
 simp only[Y4] at h⊢
 cases i:a.guard with
 | none=>simp only[i] at h⊢;exact G2 (fun v w e=>b _ _ e) h
 | some q=>
  obtain ⟨j,c⟩:=q
  simp only[i] at h⊢
  cases m:(ops[j]?).bind (·.dst) with
  | none=>simp only[m] at h⊢;exact b _ _ h
  | some d=>
   simp only[m] at h⊢
   exact Q0a ((Vr h).imp (fun ⟨f,g⟩=>⟨f,G2 (fun n w' e=>b _ _ e) g⟩) (fun ⟨f,g⟩=>⟨f,b _ _ g⟩))
theorem Q0N {q:Oper} {R:List Oper}: ∀(A:List Oper) {l:List Value} {w:World},(∀a∈A,Swap ops a q)→Y4 P ops U3 (A++q::R) l w→Y4 P ops U3 (q::(A++R)) l w
 | [],_,_,_,h=>h
 | a::A,l,w,c,h=>Q73 (c a (by simp)) (Q1P (R:=A++q::R) (fun _ _ h=>Q0N A (fun b d=>c b (by simp[d])) h) h)
theorem Nc: ∀(A:List Oper) {B:List Oper} {l:List Value} {w:World},Y4 P ops U3 (A++B) l w=Y4 P ops (fun l w=>Y4 P ops U3 B l w) A l w
 | [],B,l,w=>rfl
 | a::A,B,l,w=>by
  simp only[List.cons_append,Y4]
  split
  ·congr 1;funext v w;exact Nc A
  ·split
   ·congr 1;funext v w;exact Nc A
   ·exact Nc A
theorem Q8l {A B b:List Oper} {l:List Value} {w:World} (c: ∀l w,Y4 P ops U3 B l w→Y4 P ops U3 b l w): ∀{l:List Value} {w:World},Y4 P ops U3 (A++B) l w→Y4 P ops U3 (A++b) l w:=by
 induction A with
 | nil=>exact fun h=>c _ _ h
 | cons a A d=>exact fun h=>Q1P (fun _ _ h=>d h) h
theorem Q7I (os:List Oper) (bit:Nat→Nat→Bool) (i: ∀p q a b,p<q→os[p]? =some a→os[q]? =some b→bit p q=false→Swap ops a b):
 ∀(n:Nat) (U3:List Value→World→Prop) (L:List Nat) (l:List Value) (w:World),L.Nodup→L.length=n→(∀q∈L,q<n)→n≤os.length→L.Pairwise (fun q p=>p<q→bit p q=false)→
  Y4 P ops U3 (os.take n) l w→Y4 P ops U3 (L.filterMap (os[·]?)) l w
 | 0,U3,L,l,w,u,C,g,D,E,h=>by
  have:L=[]:=List.eq_nil_of_length_eq_zero C
  subst this;exact h
 | n+1,U3,L,l,w,u,C,g,D,E,h=>by
  have O:n∈L:=Classical.byContradiction fun r=>by
   have Q:=C7 n L u fun k J=>by
    have o:=g k J
    have H:k≠n:=fun e=>r (e▸J)
    omega
   omega
  obtain ⟨A,B,rfl⟩:=List.append_of_mem O
  have d:n<os.length:=by omega
  have f:os[n]? =some os[n]:=List.getElem?_eq_getElem d
  have t:=List.nodup_append.1 u
  have y:n∉B:=(List.nodup_cons.1 t.2.1).1
  have v:n∉A:=fun e=>t.2.2 n e n (by simp) rfl
  have N:os.take (n+1)=os.take n++[os[n]]:=(List.take_append_getElem d).symm
  rw[N,Nc] at h
  have s: ∀q∈A++B,q<n:=fun q M=>by
   have Q:q<n+1:=g q (by rcases List.mem_append.1 M with h | h<;>simp[h])
   have o:q≠n:=fun e=>by
    subst e
    rcases List.mem_append.1 M with h | h
    ·exact v h
    ·exact y h
   omega
  have c:(A++B).Sublist (A++n::B):=List.Sublist.append (List.Sublist.refl A) (List.sublist_cons_self n B)
  have o:=Q7I os bit i n _ (A++B) l w (u.sublist c) (by simp at C⊢;omega) s (by omega) (E.sublist c) h
  rw[←Nc] at o
  rw[List.filterMap_append,List.append_assoc] at o
  rw[List.filterMap_append,List.filterMap_cons,f]
  refine Q8l (l:=l) (w:=w) (fun l w H=>?_) o
  have:=Q0N (R:=[]) (B.filterMap (os[·]?)) (fun a U=>?_) H
  ·rwa [List.append_nil] at this
  ·obtain ⟨p,j,z⟩:=List.mem_filterMap.1 U
   have m:=s p (List.mem_append_right _ j)
   refine i p n a _ m z f ?_
   have V:=(List.pairwise_append.1 E).2.1
   exact (List.pairwise_cons.1 V).1 p j m
end
def Q34 (ops:List Oper) (a b:Oper):Bool:=
 (match a.guard with | none=>true | some _=>false)&&(match b.guard with | none=>true | some (j,_)=>match (ops[j]?).bind (·.dst) with | some _=>true | none=>false)&&
  (((Q0Q a&&(Q0Q b||Rr b)||Rr a&&Q3p b)&&(match b.guard with | none=>true | some _=>false))||Q3p a)
def Q8Q (ops:List Oper) (a:List Nat):Bool:=
 ops.any Q5R&&ops.any Q0D&&(List.range ops.length).all fun q=>(List.range q).all fun p=>C1 ops a p q||Q34 ops (ops.getD (a.getD p 0) default) (ops.getD (a.getD q 0) default)
theorem Ox {α:Type} {R:α→α→Prop}: ∀(a b:List α) {L:List α},L=b++a→(∀b q a,L=b++q::a→ ∀p∈a,R q p)→a.Pairwise R
 | [],_,_,_,_=>List.Pairwise.nil
 | q::a,b,L,c,h=>List.pairwise_cons.2 ⟨h b q a c,Ox a (b++[q]) (by rw[c];simp) h⟩
theorem Q3O {P:Program} {ops:Array Oper} {U3:List Value→World→Prop} {l0:List Value} {ord L:List Nat} {bit:Nat→Nat→Bool} (ha:Arr ops.toList ord L) (hosl:(Y8 ops.toList ord).length=ops.toList.length) (hn:Xh (D2 (Y8 ops.toList ord))=true) (hbit: ∀p q,C1 ops.toList ord p q=true→bit p q=true)
 (hsq: ∀p q,p<q→q<ops.toList.length→(bit p q||Q34 ops.toList (ops.toList.getD (ord.getD p 0) default) (ops.toList.getD (ord.getD q 0) default))=true) (hpair:L.Pairwise fun q p=>p<q→bit p q=false) (w:World)
 (h:Y4 P ops.toList U3 (Y8 ops.toList ord) l0 w):Y4 P ops.toList U3 (L.filterMap ((Y8 ops.toList ord)[·]?)) l0 w:=by
 refine Q7I (Y8 ops.toList ord) bit (fun p q a b' hpq hpa hqb hb=>?_) _ U3 L l0 w ha.hn rfl (fun q hq=>by rw[ha.hLl];exact ha.hlt q hq) (by rw[ha.hLl];exact Nat.le_refl _) hpair (by rw[ha.hLl,List.take_length];exact h)
 have hql:q<ops.toList.length:=by have:=(List.getElem?_eq_some_iff.1 hqb).1;omega
 have hpl:p<ops.toList.length:=by omega
 have hget: ∀i o,(Y8 ops.toList ord)[i]? =some o→ops.toList.getD (ord.getD i 0) default=o:=by
  intro i o hi
  unfold Y8 at hi
  rw[List.getElem?_map] at hi
  cases ho:ord[i]? with
  | none=>rw[ho] at hi;cases hi
  | some x=>
   rw[ho] at hi
   simp only[Option.map_some,Option.some.injEq] at hi
   rw[List.getD_eq_getElem?_getD (l:=ord),ho];exact hi
 have hnc:(T8 a b'||T8 b' a)=false:=by
  cases hx:T8 a b'||T8 b' a with
  | false=>rfl
  | true=>rw[hbit p q (ha.hclash p q a b' hpq hpa hqb hx)] at hb;cases hb
 rw[Bool.or_eq_false_iff] at hnc
 have hs:=hsq p q hpq hql
 rw[hb,Bool.false_or,hget p a hpa,hget q b' hqb] at hs
 simp only[Q34,Bool.and_eq_true,Bool.or_eq_true] at hs
 obtain ⟨⟨g1,g2⟩,g3⟩:=hs
 have hga:a.guard=none:=by
  cases hx:a.guard with
  | none=>rfl
  | some _=>rw[hx] at g1;cases g1
 have c1: ∀d,a.dst=some d→d∉H5 b'∧b'.dst≠some d:=fun d hd=>by
  have:=hnc.1
  unfold T8 at this
  rw[hd] at this
  simp only[Bool.or_eq_false_iff] at this
  exact ⟨fun hm=>by simp[hm] at this,fun hm=>by simp[hm] at this⟩
 have c2: ∀d,b'.dst=some d→d∉H5 a:=fun d hd=>by
  have:=hnc.2
  unfold T8 at this
  rw[hd] at this
  simp only[Bool.or_eq_false_iff] at this
  exact fun hm=>by simp[hm] at this
 refine ⟨ha.hpl a (List.mem_of_getElem? hpa),ha.hpl b' (List.mem_of_getElem? hqb),hga,fun d hd'=>?_,fun d hd'=>?_,fun d hd'=>(c1 d hd').2,fun j c hbg=>?_,?_⟩
 ·rw[List.mem_append,not_or]
  refine ⟨fun hm=>?_,(c1 d hd').1⟩
  unfold O8 at hm
  cases hbg:b'.guard with
  | none=>rw[hbg] at hm;simp at hm
  | some q0=>
   obtain ⟨j,c⟩:=q0
   obtain ⟨p',hp',hpj,hbt⟩:=ha.hg q b' j c hqb hbg
   rw[hbg] at hm
   simp only at hm
   cases hjd:ops.toList[j]?.map (·.dst) with
   | none=>
    cases hj:ops.toList[j]? with
    | none=>rw[hj] at hm;simp at hm
    | some oj=>rw[hj] at hjd;cases hjd
   | some dj=>
    cases hj:ops.toList[j]? with
    | none=>rw[hj] at hjd;cases hjd
    | some oj=>
     rw[hj] at hm hpj
     simp only[Option.bind_some] at hm
     cases hdj:oj.dst with
     | none=>rw[hdj] at hm;simp at hm
     | some d2=>
      rw[hdj] at hm
      simp only[List.mem_singleton] at hm
      subst hm
      have:=Yg (Y8 ops.toList ord) hn p' p oj a d hpj hpa hdj hd'
      subst this
      rw[hbit _ _ hbt] at hb;cases hb
 ·rw[List.mem_append,not_or]
  exact ⟨fun hm=>by simp[O8,hga] at hm,c2 d hd'⟩
 ·rw[hbg] at g2
  simp only at g2
  cases hx:(ops.toList[j]?).bind (·.dst) with
  | none=>rw[hx] at g2;cases g2
  | some _=>rfl
 ·rcases g3 with ⟨g3,g5⟩ | g3
  ·have hn:b'.guard=none:=by
    cases hx:b'.guard with
    | none=>rfl
    | some _=>rw[hx] at g5;cases g5
   exact .inl (g3.imp (fun g=>⟨g.1,g.2,hn⟩) fun g=>⟨g.1,g.2,hn⟩)
  ·exact .inr g3
theorem X3w (P:Program) (ops:Array Oper) (U3:List Value→World→Prop) (l:List Value) (a:Uw ops.toList l.length=true) (e:Q8Q ops.toList (M3 ops.toList)=true)
 (b:Bool) (t:Nat) (w:World) (h:Y4 P ops.toList U3 (Y8 ops.toList (M3 ops.toList)) l w):Y4 P ops.toList U3 ((Region.schedule b ops t).filterMap (ops[·]?)) l w:=by
 obtain ⟨L,k,i,c⟩:=Q4j a b t
 simp only[Uw,Bool.and_eq_true] at a
 obtain ⟨⟨⟨⟨⟨C,E⟩,A⟩,D⟩,⟨u,v⟩,z⟩,r⟩:=a
 generalize M3 ops.toList=g at*
 rw[k]
 refine Q3O i c A (bit:=C1 ops.toList g) (fun _ _ h=>h) (fun p q f m=>?_) ?_ w h
 ·simp only[Q8Q,Bool.and_eq_true] at e
  exact List.all_eq_true.1 (List.all_eq_true.1 e.2 q (by simpa using m)) p (by simpa using f)
 ·refine Ox L [] (L:=L) rfl fun n q d j p s f=>?_
  cases B:C1 ops.toList g p q with
  | false=>rfl
  | true=>
   have y:=i.hC n q d j p B (i.hlt p (by rw[j];simp[s]))
   have o:=i.hn
   rw[j] at o
   exact absurd rfl ((List.nodup_append.1 o).2.2 p y p (by simp[s]))
def X3i (b:List Nat) (a c:Nat):List Nat:=((b.erase a).takeWhile (· !=c))++a::((b.erase a).dropWhile (· !=c))
def Q6m (ops:List Oper) (d b:List Nat) (a c:Nat):Bool:=
 Q5g ops b&&Xh (D2 (Y8 ops b))&&
  ((List.range ops.length).all fun q=>(List.range q).all fun p=>(C1 ops d p q||(d.getD p 0==c&&d.getD q 0==a))||Q34 ops (ops.getD (d.getD p 0) default) (ops.getD (d.getD q 0) default))&&
  ((List.range ops.length).all fun q=>(List.range q).all fun p=>(C1 ops b p q||(b.getD p 0==a&&b.getD q 0==c))||Q34 ops (ops.getD (b.getD p 0) default) (ops.getD (b.getD q 0) default))
def Q9c (ops:List Oper):Option (List Nat):=
 match ops.any Q5R&&ops.any Q0D&&ops.any Rr with
 | true=>match ops.findIdx Rr !=ops.findIdx Q0D&&Q6m ops (M3 ops) (X3i (M3 ops) (ops.findIdx Rr) (ops.findIdx Q0D)) (ops.findIdx Rr) (ops.findIdx Q0D) with
  | true=>some (X3i (M3 ops) (ops.findIdx Rr) (ops.findIdx Q0D))
  | false=>none
 | false=>none
theorem X1X {ops:Array Oper} {a g:List Nat} {x y:Nat} (U:g.Nodup) (z: ∀i∈g,i<ops.toList.length∧a.getD (a.idxOf i) 0=i) (u:Arr ops.toList a (g.map (a.idxOf ·))) (n: ∀e o b,g≠e++y::(o++x::b)):
 (g.map (a.idxOf ·)).Pairwise fun q p=>p<q→(C1 ops.toList a p q||(a.getD p 0==x&&a.getD q 0==y))=false:=by
 refine Ox _ [] (L:=g.map (a.idxOf ·)) rfl fun e q b c p l H=>?_
 rw[Bool.or_eq_false_iff]
 constructor
 ·cases N:C1 ops.toList a p q with
  | false=>rfl
  | true=>
   have h:=u.hC e q b c p N (u.hlt p (by rw[c];simp[l]))
   have f:=u.hn
   rw[c] at f
   exact absurd rfl ((List.nodup_append.1 f).2.2 p h p (by simp[l]))
 ·rw[Bool.and_eq_false_iff]
  refine Classical.byContradiction fun d=>?_
  rw[not_or] at d
  obtain ⟨h,f⟩:=d
  have h:a.getD p 0=x:=by simpa using h
  have f:a.getD q 0=y:=by simpa using f
  rw[List.map_eq_append_iff] at c
  obtain ⟨j,s,R,_,A⟩:=c
  rw[List.map_eq_cons_iff] at A
  obtain ⟨i,r,E,M,m⟩:=A
  rw[←m,List.mem_map] at l
  obtain ⟨k,J,t⟩:=l
  obtain ⟨C,B,D⟩:=List.append_of_mem J
  subst E R D
  have v:=(z i (by simp)).2
  have w:=(z k (by simp)).2
  rw[M] at v
  rw[t] at w
  have O:i=y:=by rw[←v];exact f
  have Q:k=x:=by rw[←w];exact h
  subst O Q
  exact n j C B rfl
theorem X2n (P:Program) (ops:Array Oper) (U3:List Value→World→Prop) (D:List Value) (v:Uw ops.toList D.length=true) {d:List Nat} {a c:Nat} (Y:a≠c) (r:Q6m ops.toList (M3 ops.toList) d a c=true)
 (b:Bool) (t:Nat) (w:World) (h1:Y4 P ops.toList U3 (Y8 ops.toList (M3 ops.toList)) D w) (h2:Y4 P ops.toList U3 (Y8 ops.toList d) D w):Y4 P ops.toList U3 ((Region.schedule b ops t).filterMap (ops[·]?)) D w:=by
 simp only[Uw,Bool.and_eq_true] at v
 obtain ⟨⟨⟨⟨⟨U,W⟩,hn⟩,hd⟩,⟨o,s⟩,A⟩,u⟩:=v
 simp only[Q6m,Bool.and_eq_true] at r
 obtain ⟨⟨⟨k,Q⟩,H⟩,M⟩:=r
 by_cases z: ∃i g f,Region.schedule b ops t=i++a::(g++c::f)
 ·obtain ⟨N,B,J,n,E⟩:=Kq U W o s A k b t
  rw[N]
  refine Q3O B J Q (bit:=fun p q=>C1 ops.toList d p q||(d.getD p 0==a&&d.getD q 0==c)) (fun p q h=>by rw[h];rfl) (fun p q j l=>?_) (X1X n E B fun i g f e=>?_) w h2
  ·exact List.all_eq_true.1 (List.all_eq_true.1 M q (by simpa using l)) p (by simpa using j)
  ·obtain ⟨V,R,O,Z⟩:=z
   have C: ∀{L p m q:List Nat} {x y:Nat},L=p++x::(m++y::q)→L[p.length]? =some x∧L[p.length+1+m.length]? =some y∧p.length+1+m.length<L.length:=by
    rintro L p m q x y rfl
    refine ⟨by simp,?_,by simp;omega⟩
    rw[List.getElem?_append_right (by omega),show p.length+1+m.length-p.length=m.length+1 by omega,List.getElem?_cons_succ]
    simp
   obtain ⟨g1,g2,g3⟩:=C e
   obtain ⟨g4,X,g6⟩:=C Z
   have k1:=(List.getElem?_inj (by omega) n).1 (g1.trans X.symm)
   have k2:=(List.getElem?_inj (by omega) n).1 (g2.trans g4.symm)
   omega
 ·obtain ⟨N,B,J,n,E⟩:=Kq U W o s A u b t
  rw[N]
  refine Q3O B J hn (bit:=fun p q=>C1 ops.toList (M3 ops.toList) p q||((M3 ops.toList).getD p 0==c&&(M3 ops.toList).getD q 0==a)) (fun p q h=>by rw[h];rfl) (fun p q j l=>?_) (X1X n E B fun i g f e=>z ⟨i,g,f,e⟩) w h1
  exact List.all_eq_true.1 (List.all_eq_true.1 H q (by simpa using l)) p (by simpa using j)
theorem X3t (P:Program) (ops:Array Oper) (U3:List Value→World→Prop) (d:List Value) (f:Uw ops.toList d.length=true) {a:List Nat} (c:Q9c ops.toList=some a)
 (b:Bool) (t:Nat) (w:World) (h:Y4 P ops.toList U3 (Y8 ops.toList (M3 ops.toList)) d w∧Y4 P ops.toList U3 (Y8 ops.toList a) d w):Y4 P ops.toList U3 ((Region.schedule b ops t).filterMap (ops[·]?)) d w:=by
 unfold Q9c at c
 split at c
 ·split at c
  ·rename_i e
   cases c
   rw[Bool.and_eq_true] at e
   exact X2n P ops U3 d f (by simpa using e.1) e.2 b t w h.1 h.2
  ·cases c
 ·cases c
theorem X27: ∃f:World→(World→Prop)→Prop,f=fun w A=>A w.drew:=⟨_,rfl⟩
noncomputable def sq:World→(World→Prop)→Prop:=Classical.choose X27
theorem X1K:sq=fun w A=>A w.drew:=Classical.choose_spec X27
def Q5b:List Ent→Nat→Ent→(List Ent→Prop)→Prop
 | [],_,_,k=>k []
 | _::l,0,e,k=>k (e::l)
 | x::l,n+1,e,k=>Q5b l n e (fun l'=>k (x::l'))
def Q3b (S:List Ent) (d:Option Nat) (e:Ent) (k:List Ent→Prop):Prop:=
 match d with
 | some d=>Q5b S d e k
 | none=>k S
def Q8J:List Ent→Nat→(Ent→Prop)→Prop
 | [],_,k=>k (.val undef)
 | x::_,0,k=>k x
 | _::l,n+1,k=>Q8J l n k
def X09 (S:List Ent) (x:Operand) (k:Ent→Prop):Prop:=
 match x with
 | .tmp t=>Q8J S t k
 | .const v=>k (.val v)
 | .global g=>k (.val (.pointer (some ⟨g,0,none⟩)))
 | .func f=>k (.val (.func (.func f) #[] #[]))
def Q1o (u:Nat→Value):List Ent→(List Value→Prop)→Prop
 | [],k=>k []
 | .val v::S,k=>Q1o u S (fun l=>k (v::l))
 | .ref j::S,k=>Q1o u S (fun l=>k (u j::l))
def Q6x:List Value→(List Ent→Prop)→Prop
 | [],k=>k []
 | v::l,k=>Q6x l (fun S=>k (.val v::S))
theorem Q6s: ∀(S:List Ent) (n:Nat) (e:Ent) (k:List Ent→Prop),Q5b S n e k=k (Q2w S n e)
 | [],_,_,_=>rfl
 | _::_,0,_,_=>rfl
 | _::l,n+1,e,k=>by simp only[Q5b,Q2w,Q6s l n e]
theorem Q2k (S:List Ent) (d:Option Nat) (e:Ent) (k:List Ent→Prop):Q3b S d e k=k (putE S d e):=by
 cases d with
 | none=>rfl
 | some d=>exact Q6s S d e k
theorem Q5k: ∀(S:List Ent) (n:Nat) (k:Ent→Prop),Q8J S n k=k (getE S n)
 | [],_,_=>rfl
 | _::_,0,_=>rfl
 | _::l,n+1,k=>Q5k l n k
theorem Q9o (S:List Ent) (x:Operand) (k:Ent→Prop):X09 S x k=k (entOf S x):=by
 cases x with
 | tmp t=>exact Q5k S t k
 | _=>rfl
theorem Q2r (u:Nat→Value): ∀(S:List Ent) (k:List Value→Prop),Q1o u S k=k (K3 u S)
 | [],_=>rfl
 | .val v::S,k=>by simp only[Q1o,Q2r u S];rfl
 | .ref j::S,k=>by simp only[Q1o,Q2r u S];rfl
theorem Q3s: ∀(l:List Value) (k:List Ent→Prop),Q6x l k=k (l.map .val)
 | [],_=>rfl
 | v::l,k=>by simp only[Q6x,Q3s l];rfl
noncomputable def Lm (P:Program) (r:Bool) (ops:List Oper) (T:World→World→Prop) (B:World→Prop) (U3:List Value→World→Prop) (tail:List Oper):Nat→List Oper→List Ent→Si→List Nat→Prop
 | _,[],S,b,done=>Sd done (fun _=>undef) fun u=>Bt r fun c=> ∀w,B w→Q19 b u c w (Q1o u S fun l=>I1 P ops U3 tail l w) done
 | i,o::a,S,b,done=>
  match mv o with
  | some x=>X09 S x fun e=>Q3b S o.dst e fun S=>Lm P r ops T B U3 tail (i+1) a S b done
  | none=>match Q5R o with
   | true=>Q2t T (fun φ=>Sd (refs ops S o) (fun _=>undef) fun u=>Bt r fun c=> ∀w,B w→Sn b u c w (runOp P ops (K3 u S) o w (dk T (φ ((refs ops S o).map u)) w)) (refs ops S o))
    (fun φ=>Q3b S o.dst (.ref i) fun d=>Lm P r ops T B U3 tail (i+1) a d (b++[(i,refs ops S o,fun xs (_:Iv)=>φ xs)]) (done++[i]))
   | false=>match Q9g r o with
    | true=>Q3F T (fun φ=>Sd (refs ops S o) (fun _=>undef) fun u=>Bt r fun c=> ∀w,B w→Sn b u c w (runOp P ops (K3 u S) o w (dkR T φ w)) (refs ops S o))
     (fun φ=>Q3b S o.dst (.ref i) fun d=>Lm P r ops T B U3 tail (i+1) a d (b++[(i,[],fun (_:List Value)=>φ)]) (done++[i]))
    | false=>Q5 T (fun φ=>Sd (refs ops S o) (fun _=>undef) fun u=>Bt r fun c=> ∀w,B w→Sn b u c w (runOp P ops (K3 u S) o w (dk T φ w)) (refs ops S o))
     (fun φ=>Q3b S o.dst (.ref i) fun d=>Lm P r ops T B U3 tail (i+1) a d (b++[(i,[],fun (_:List Value) (_:Iv)=>φ)]) (done++[i]))
theorem Ec (P:Program) (r:Bool) (ops:List Oper) (T:World→World→Prop) (B:World→Prop) (U3:List Value→World→Prop) (tail:List Oper): ∀(a:List Oper) (i:Nat) (S:List Ent) (b:Si) (done:List Nat),
 Lm P r ops T B U3 tail i a S b done=chain P r ops T B U3 tail i a S b done
 | [],i,S,b,done=>by simp only[Lm,chain,Q2r]
 | o::a,i,S,b,done=>by
  simp only[Lm,chain]
  split
  ·rw[Q9o,Q2k,Ec]
  ·split
   ·congr 1
    funext φ
    rw[Q2k,Ec]
   ·split<;>
    ·congr 1
     funext φ
     rw[Q2k,Ec]
def X4F (ops:List Oper):Bool:=ops.any fun o=>(match o.op with | .build .. =>true | _=>false)&&decide (2≤((H5 o).filter fun s=>ops.any fun c=>Q0D c&&c.dst==some s).length)
noncomputable def X0E (P:Program) (ops:List Oper) (U3:List Value→World→Prop) (l:List Value) (w:World):Prop:=
 drR w fun T B=>Q6x l fun S=>Lm P true ops T B U3 ((Y8 ops (M3 ops)).drop (My ops (M3 ops) ops.length)) 0 ((Y8 ops (M3 ops)).take (My ops (M3 ops) ops.length)) S [] []
noncomputable def X21 (P:Program) (ops:List Oper) (U3:List Value→World→Prop) (l:List Value) (w:World):Prop:=
 dr w fun T B=>Q6x l fun S=>Lm P false ops T B U3 ((Y8 ops (M3 ops)).drop (My ops (M3 ops) ops.length)) 0 ((Y8 ops (M3 ops)).take (My ops (M3 ops) ops.length)) S [] []
def Q1e (a b:List Nat):Bool:=a.all (b.contains ·)&&b.all (a.contains ·)
theorem Ro {a b:List Nat} (h:Q1e a b=true) (i:Nat):a.contains i=b.contains i:=by
 simp only[Q1e,Bool.and_eq_true,List.all_eq_true] at h
 rw[Bool.eq_iff_iff]
 constructor
 ·intro c;exact h.1 i (by simpa using c)
 ·intro c;exact h.2 i (by simpa using c)
abbrev W1:=List (Option (List Nat×List Nat))
def W1.slots (a:W1):List (Option (List Nat)):=a.map (·.map (·.1))
theorem W1.slots_get (a:W1) (k:Nat):a.slots.getD k none=(a.getD k none).map (·.1):=by
 simp only[W1.slots,List.getD_eq_getElem?_getD,List.getElem?_map]
 cases a[k]? <;>rfl
noncomputable def Vl (P:Program) (a:W1) (b:List (Option (List Nat))):Nat→Code→Es→List Value→World→Prop
 | _, .skip,Q,l,w=>Q .normal l w
 | _, .label _,Q,l,w=>Q .normal l w
 | _, .exit id,Q,l,w=>Q (.exit id) l w
 | _, .ret,Q,l,w=>Q .ret l w
 | _, .region _ ops false,Q,l,w=>I1 P ops.toList (fun l w=>Q .normal l w) ops.toList l w
 | _, .region _ ops true,Q,l,w=>match Uw ops.toList l.length with
  | true=>match Q8Q ops.toList (M3 ops.toList) with
   | true=>sq w fun w=>I1 P ops.toList (fun l w=>Q .normal l w) (Y8 ops.toList (M3 ops.toList)) l w
   | false=>match Q9c ops.toList with
    | some g=>sq w fun w=>I1 P ops.toList (fun l w=>Q .normal l w) (Y8 ops.toList (M3 ops.toList)) l w∧I1 P ops.toList (fun l w=>Q .normal l w) (Y8 ops.toList g) l w
    | none=>match X4F ops.toList with
     | true=>X0E P ops.toList (fun l w=>Q .normal l w) l w
     | false=>X21 P ops.toList (fun l w=>Q .normal l w) l w
  | false=>False
 | k, .seq x y,Q,l,w=>match a.getD k none with
  | none=>Vl P a b (k+1) x (thn (fun l w=>Vl P a b (k+1+Qa x) y Q l w) Q) l w
  | some (f,h)=>match Q1e h (L6 b (k+1) x) with
   | true=>jn w (fun J w=>Vl P a b (k+1) x (thn (fun l' w'=>J (Ng l' f) w') Q) l w)
    (fun z d w=>Fl f h z d 0 l fun l=>Vl P a b (k+1+Qa x) y Q l w)
   | false=>False
 | k, .cond c x y,Q,l,w=>X1 (ev l c) (Vl P a b k x Q l w) (Vl P a b (k+Qa x) y Q l w)
 | k, .block id c,Q,l,w=>Vl P a b k c (Q2G id Q) l w
 | k, .loop c,Q,l,w=>match a.getD k none with
  | none=>False
  | some (f,h)=>match Q1e h (L6 b (k+1) c) with
   | true=>lp (Ng l f) w (fun e x d w=>Fl f h x d 0 l fun l=>Vl P a b (k+1) c (thn (fun l' w'=>e (Ng l' f) w') Q) l w)
   | false=>False
 | _,_,_,_,_=>False
theorem Q0w {next a:List Value→World→Prop} {Q b:Es} (c: ∀l w,next l w→a l w) (d: ∀e l w,Q e l w→b e l w): ∀e l w,thn next Q e l w→thn a b e l w:=by
 intro e l w h;cases e<;>first | exact c _ _ h | exact d _ _ _ h
theorem X0N (P:Program) (m:W1) (c:Code): ∀(k:Nat) (Q j:Es) (l:List Value) (w:World),(∀e l w,Q e l w→j e l w)→
 Vl P m m.slots k c Q l w→Ol P m.slots k c j l w:=by
 induction c with
 | skip=>intro k Q j l w g h;exact g _ _ _ h
 | label n=>intro k Q j l w g h;exact g _ _ _ h
 | exit id=>intro k Q j l w g h;exact g _ _ _ h
 | ret=>intro k Q j l w g h;exact g _ _ _ h
 | goto n=>intro k Q j l w g h;exact h.elim
 | refuse s=>intro k Q j l w g h;exact h.elim
 | scope c=>intro k Q j l w g h;exact h.elim
 | rangeFunc f p a b=>intro k Q j l w g h;exact h.elim
 | region id ops v=>
  intro k Q j l w g h
  cases v with
  | true=>
   simp only[Vl] at h
   split at h
   ·rename_i r
    intro t
    have C:Y4 P ops.toList (fun l w=>Q .normal l w) ((Region.schedule (P.follows .mixedOrders) ops t).filterMap (ops[·]?)) l w.drew:=by
     split at h
     ·rename_i H
      simp only[X1K,Ho] at h
      exact X3w P ops _ l r H _ t _ h
     ·split at h
      ·rename_i ab M
       simp only[X1K,Ho] at h
       exact X3t P ops _ l r M _ t _ h
      ·split at h
       ·simp only[X0E,Q9G,Q6O,Q3s,Ec] at h
        obtain ⟨T,B,X,R,hM,h⟩:=h
        exact Q86 P true ops T B _ l r R hM h (P.follows .mixedOrders) t w.drew X
       ·simp only[X21,X1L,Q8B,Q3s,Ec] at h
        obtain ⟨T,B,X,R,h⟩:=h
        exact Q86 P false ops T B _ l r R (fun _ _ _=>Nat.le_refl _) h (P.follows .mixedOrders) t w.drew X
    refine Jg P _ _ _ (D2 ops.toList) l _ _ _ ?_ (Qe.refl _ _) (fun l w U _=>g _ _ _ U) C
    intro o E d C
    simp only[List.mem_filterMap] at E
    obtain ⟨i,_,hi⟩:=E
    simp only[D2,List.contains_eq_mem,List.mem_filterMap,decide_eq_true_eq]
    exact ⟨o,by simpa using Array.mem_of_getElem? hi,C⟩
   ·exact h.elim
  | false=>
   simp only[Vl] at h
   rw[Ho] at h
   refine Jg P _ _ _ (D2 ops.toList) l _ _ _ ?_ (Qe.refl _ _) (fun l w U _=>g _ _ _ U) h
   intro o E d C
   simp only[D2,List.contains_eq_mem,List.mem_filterMap,decide_eq_true_eq]
   exact ⟨o,E,C⟩
 | seq x y q u=>
  intro k Q j l w g h
  simp only[Vl,Ol] at h⊢
  rw[W1.slots_get]
  split at h
  ·rename_i A
   simp only[A,Option.map_none]
   exact q _ _ _ _ _ (Q0w (fun l w h=>u _ _ _ _ _ g h) g) h
  ·rename_i Z wr A
   simp only[A,Option.map_some]
   split at h
   ·rename_i W
    obtain ⟨J,h1,M⟩:=Q6M h
    refine Zg J (q _ _ _ _ _ (Q0w (fun l w h=>h) g) h1) fun z d w hz=>?_
    have Y:=M z d w hz
    rw[Q4D,Ch _ _ _ (Ro W)] at Y
    exact u _ _ _ _ _ g Y
   ·exact h.elim
 | cond c x y q u=>
  intro k Q j l w g h
  exact Q48 (q k _ _ _ _ g) (u _ _ _ _ _ g) h
 | block id c L=>
  intro k Q j l w g h
  refine L k _ _ _ _ ?_ h
  intro e l' w' D
  cases e with
  | exit af=>simp only[Q2G] at D⊢;split<;>rename_i O<;>simp only[O,if_true,if_false] at D<;>exact g _ _ _ D
  | _=>exact g _ _ _ D
 | loop c L=>
  intro k Q j l w g h
  simp only[Vl,Ol] at h⊢
  split at h
  ·exact h.elim
  ·rename_i Z wr A
   have N:(m.slots.getD k none).getD []=Z:=by rw[W1.slots_get,A];rfl
   split at h
   ·rename_i W
    subst N
    refine Q4A (fun V x d w hb=>?_) h
    rw[Q4D,Ch _ _ _ (Ro W)] at hb
    exact L _ _ _ _ _ (Q0w (fun l w h=>h) g) hb
   ·exact h.elim
def Q3f (P:Program) (t:TypeId) (a:Value) (w:World) (K:Value→Prop):Prop:= ∃v,(do loadVar t (←asAddr a):Sem Value).run P w= .ok v w∧K v
theorem Q32: ∃f:Program→TypeId→Value→World→(Value→Prop)→Prop,f=Q3f:=⟨_,rfl⟩
noncomputable def W2:Program→TypeId→Value→World→(Value→Prop)→Prop:=Classical.choose Q32
theorem Q3n:W2=Q3f:=Classical.choose_spec Q32
noncomputable def Q6L (P:Program) (l:List Value) (K:List Value→World→Prop):List ResultVar→List Value→World→Prop
 | [],b,w=>K b.reverse w
 | .tmp t::c,b,w=>Q6L P l K c (get l t::b) w
 | .cell a t::c,b,w=>W2 P t (get l a) w fun v=>Q6L P l K c (v::b) w
def Q31:List Value→Value
 | [v]=>v
 | vs=> .tuple vs.toArray
noncomputable def results (P:Program) (a:List ResultVar) (K:Value→World→Prop) (l:List Value) (w:World):Prop:=
 Q6L P l (fun vs w=>K (Q31 vs) w) a [] w
noncomputable def Q8Z (P:Program) (fn:Func) (K:Value→World→Prop):Es
 | .normal,l,w | .ret,l,w=>results P fn.results.toList K l w
 | _,_,_=>False
def X0M (K:Value→World→Prop) (e:Ending) (w:World):Prop:=match e with | .returned v=>K v w | _=>False
theorem getD_get (a:Array Value) (t:Nat):a.getD t undef=get a.toList t:=by
 simp[get,List.getD_eq_getElem?_getD]
theorem Q9r (vs:List Value):(if h:vs.toArray.size=1 then vs.toArray[0] else Value.tuple vs.toArray)=Q31 vs:=by
 match vs with
 | []=>rfl
 | [v]=>rfl
 | _::_::_=>rfl
theorem Q2q (P:Program) (l:List Value) (K:List Value→World→Prop) (f:ResultVar→Sem Value)
 (c: ∀t,f (.tmp t)=Pure.pure (get l t)) (d: ∀a t,f (.cell a t)=(do loadVar t (←asAddr (get l a)))): ∀(e:List ResultVar) (b:List Value) (w:World),Q6L P l K e b w→
 ∃vs,(e.mapM f).run P w= .ok vs w∧K (b.reverse++vs) w
 | [],b,w,h=>⟨[],by simp,by rw[List.append_nil];exact h⟩
 | .tmp t::e,b,w,h=>by
  obtain ⟨vs,i,g⟩:=Q2q P l K f c d e _ w h
  refine ⟨get l t::vs,?_,by simpa using g⟩
  rw[List.mapM_cons,c]
  simp[i]
 | .cell a t::e,b,w,h=>by
  simp only[Q6L,Q3n] at h
  obtain ⟨v,j,h⟩:=h
  obtain ⟨vs,i,g⟩:=Q2q P l K f c d e _ w h
  refine ⟨v::vs,?_,by simpa using g⟩
  rw[List.mapM_cons,d,Sem.run_bind,j]
  simp[i]
def X3l (a:Array Value):ResultVar→Sem Value
 | .tmp t=>Pure.pure (a.getD t undef)
 | .cell b t=>do loadVar t (←asAddr (a.getD b undef))
theorem Q6l (fn:Func) (a:Array Value):Go.results fn a=(do
 let vs←fn.results.mapM (X3l a)
 Pure.pure (if h:vs.size=1 then vs[0] else .tuple vs)):=by
 unfold Go.results
 congr 1
theorem Q23 (P:Program) (fn:Func) (K:Value→World→Prop) (a:Array Value) (w:World) (h:results P fn.results.toList K a.toList w):
 ∃v,(Go.results fn a).run P w= .ok v w∧K v w:=by
 rw[Q6l,Array.mapM_eq_mapM_toList]
 obtain ⟨vs,c,b⟩:=Q2q P a.toList (fun vs w=>K (Q31 vs) w) (X3l a) (fun t=>by rw[←getD_get];rfl) (fun d t=>by rw[←getD_get];rfl) fn.results.toList [] w h
 refine ⟨Q31 vs,?_,by simpa using b⟩
 rw[Sem.run_bind,Sem.run_map,c]
 simp only[Result.andThen_ok,Sem.run_pure,Q9r]
def Q0B (fn:Func) (a:List Value):List Value:=a++List.replicate (fn.ntmps-a.length) undef
theorem Q60 {P:Program} {f:FuncId} {fn:Func} {c:Code} {b:List Value} {w:World} {K:Value→World→Prop} (d:List (Option (List Nat)))
 (j:P.funcs[f]? =some fn) (k:fn.body=some c) (h:Ol P d 0 c (Q8Z P fn K) (Q0B fn b) w):Calls P f b.toArray w (X0M K):=by
 refine calls_of_wp j k (wp_mono (Q9V P d c 0 (Q8Z P fn K) _ w rfl ?_) ?_)
 ·have:(b.toArray++Array.replicate (fn.ntmps-b.toArray.size) undef).toList=Q0B fn b:=by simp[Q0B]
  simp only[this];exact h
 ·intro e a w ⟨i,g⟩
  cases e with
  | normal=>exact ⟨i,Q23 P fn K _ _ g⟩
  | ret=>exact ⟨i,Q23 P fn K _ _ g⟩
  | _=>exact g.elim
theorem Vn {P:Program} {f:FuncId} {fn:Func} {a:List Value} {w:World} {K:Value→World→Prop}
 (j:P.funcs[f]? =some fn) (d:fn.body.isSome=true) (i:(fn.name== "runtime.NumGoroutine")=false) (h:Calls P f a.toArray w (X0M K)):Q0 P f a w K:=by
 have g:(callFunc f a.toArray).run P w= .ok (.enter f a.toArray) w:=by
  unfold callFunc
  simp only[Sem.run_bind,run_program,Result.andThen_ok,j,i,Bool.false_eq_true,if_false]
  cases b:fn.body with
  | none=>rw[b] at d;cases d
  | some c=>simp
 unfold Q0
 rw[Qu]
 unfold T5
 rw[g]
 refine h.mono fun e w' k=>?_
 cases e<;>exact k
theorem Q3E {P:Program} {f:FuncId} {fn:Func} {a:List Value} {w:World} {K:Value→World→Prop}
 (j:P.funcs[f]? =some fn) (d:fn.body.isSome=true) (i:(fn.name== "runtime.NumGoroutine")=false) (h:Q0 P f a w K):Calls P f a.toArray w (X0M K):=by
 have g:(callFunc f a.toArray).run P w= .ok (.enter f a.toArray) w:=by
  unfold callFunc
  simp only[Sem.run_bind,run_program,Result.andThen_ok,j,i,Bool.false_eq_true,if_false]
  cases b:fn.body with
  | none=>rw[b] at d;cases d
  | some c=>simp
 unfold Q0 at h
 rw[Qu] at h
 unfold T5 at h
 rw[g] at h
 refine Calls.mono h fun e w' k=>?_
 cases e<;>exact k
theorem X2R {P:Program} {f:FuncId} {fn:Func} {b:List Value} {w:World} {K:Value→World→Prop} (a:W1)
 (d:P.funcs[f]? =some fn) (e:fn.body.isSome=true) (i:(fn.name== "runtime.NumGoroutine")=false)
 (h:Vl P a a.slots 0 (fn.body.getD .skip) (Q8Z P fn K) (Q0B fn b) w):Q0 P f b w K:=by
 refine Vn d e i ?_
 obtain ⟨c,g⟩:=Option.isSome_iff_exists.1 e
 rw[g] at h
 exact Q60 a.slots d g (X0N P a c 0 _ _ _ _ (fun _ _ _ h=>h) h)
theorem Q8 {P:Program} {f:FuncId} {fn:Func} {a:List Value} {w:World} {K:Value→World→Prop} {g:Prop} (b:W1)
 (d:P.funcs[f]? =some fn) (e:fn.body.isSome=true) (c:(fn.name== "runtime.NumGoroutine")=false)
 (i:g=Vl P b b.slots 0 (fn.body.getD .skip) (Q8Z P fn K) (Q0B fn a) w) (h:g):Q0 P f a w K:=
 X2R b d e c (i▸h)
theorem X8 {P:Program} {f:FuncId} {first caps:List Value} {a:List Value} {w:World} {K:Value→World→Prop} (h:Q0 P f (first++a++caps) w K):Z3 P (.func (.func f) first.toArray caps.toArray) a w K:=by
 simpa [Z3,Q0,Deferred.ofValue,invoke,pure_bind,List.append_toArray] using h
end Go.Emb

namespace Go.Proofs.YtfppjenblllfaaaGreatDoor
noncomputable abbrev P : Program := Tryz.prog
namespace F
abbrev bS : Nat := 5
abbrev aC : Nat := 10
abbrev ah : Nat := 11
abbrev b1 : Nat := 12
abbrev cE : Nat := 13
abbrev aM : Nat := 15
abbrev cL : Nat := 16
abbrev aG : Nat := 18
abbrev ce : Nat := 19
abbrev r : Nat := 20
abbrev cP : Nat := 25
abbrev aA : Nat := 26
abbrev bT : Nat := 27
abbrev c7 : Nat := 28
abbrev aN : Nat := 29
abbrev aO : Nat := 31
abbrev a6 : Nat := 32
abbrev bo : Nat := 34
abbrev b : Nat := 35
abbrev cF : Nat := 36
abbrev c : Nat := 37
abbrev bL : Nat := 38
abbrev z : Nat := 39
abbrev ad : Nat := 40
abbrev n : Nat := 41
abbrev cG : Nat := 44
abbrev cw : Nat := 45
abbrev cx : Nat := 46
abbrev bp : Nat := 47
abbrev s : Nat := 48
abbrev bw : Nat := 49
abbrev bx : Nat := 50
abbrev be : Nat := 51
abbrev bz : Nat := 52
abbrev bA : Nat := 53
abbrev d : Nat := 54
abbrev bq : Nat := 55
abbrev aH : Nat := 56
abbrev b2 : Nat := 57
abbrev bf : Nat := 58
abbrev ae : Nat := 59
abbrev h : Nat := 60
abbrev bM : Nat := 61
abbrev ai : Nat := 62
abbrev bU : Nat := 63
abbrev bd : Nat := 64
abbrev b3 : Nat := 65
abbrev aP : Nat := 66
abbrev bg : Nat := 67
abbrev b4 : Nat := 68
abbrev bV : Nat := 69
abbrev i : Nat := 70
abbrev a7 : Nat := 71
abbrev aD : Nat := 72
abbrev b5 : Nat := 73
abbrev bW : Nat := 74
abbrev aI : Nat := 75
abbrev bh : Nat := 76
abbrev b6 : Nat := 77
abbrev b7 : Nat := 78
abbrev aQ : Nat := 79
abbrev bs : Nat := 80
abbrev bi : Nat := 81
abbrev bt : Nat := 82
abbrev b8 : Nat := 83
abbrev b9 : Nat := 84
abbrev aR : Nat := 85
abbrev bB : Nat := 86
abbrev cT : Nat := 87
abbrev cg : Nat := 88
abbrev al : Nat := 89
abbrev cQ : Nat := 90
abbrev cu : Nat := 91
abbrev aj : Nat := 92
abbrev cH : Nat := 94
abbrev cy : Nat := 95
abbrev aa : Nat := 96
abbrev c8 : Nat := 97
abbrev bj : Nat := 98
abbrev y : Nat := 99
abbrev c9 : Nat := 100
abbrev e : Nat := 101
abbrev a0 : Nat := 102
abbrev aF : Nat := 103
abbrev aJ : Nat := 104
abbrev am : Nat := 105
abbrev an : Nat := 106
abbrev b0 : Nat := 107
abbrev a : Nat := 108
abbrev aK : Nat := 109
abbrev ch : Nat := 110
abbrev aE : Nat := 111
abbrev bN : Nat := 112
abbrev bC : Nat := 113
abbrev bD : Nat := 114
abbrev bE : Nat := 115
abbrev aS : Nat := 116
abbrev br : Nat := 117
abbrev c5 : Nat := 118
abbrev bF : Nat := 119
abbrev l : Nat := 120
abbrev aT : Nat := 121
abbrev cz : Nat := 122
abbrev g : Nat := 123
abbrev aU : Nat := 124
abbrev cv : Nat := 125
abbrev m : Nat := 126
abbrev ba : Nat := 127
abbrev bk : Nat := 128
abbrev aV : Nat := 129
abbrev bl : Nat := 130
abbrev ap : Nat := 131
abbrev a1 : Nat := 132
abbrev bm : Nat := 133
abbrev ak : Nat := 134
abbrev az : Nat := 135
abbrev bO : Nat := 138
abbrev bG : Nat := 139
abbrev c6 : Nat := 140
abbrev ci : Nat := 141
abbrev ag : Nat := 142
abbrev cn : Nat := 143
abbrev co : Nat := 144
abbrev a8 : Nat := 145
abbrev aW : Nat := 146
abbrev cp : Nat := 147
abbrev aB : Nat := 148
abbrev cq : Nat := 149
abbrev ar : Nat := 150
abbrev cr : Nat := 151
abbrev au : Nat := 152
abbrev bK : Nat := 153
abbrev bX : Nat := 154
abbrev ao : Nat := 155
abbrev bn : Nat := 156
abbrev ab : Nat := 157
abbrev ac : Nat := 158
abbrev x : Nat := 159
abbrev ca : Nat := 160
abbrev o : Nat := 161
abbrev af : Nat := 162
abbrev cj : Nat := 163
abbrev k : Nat := 164
abbrev cR : Nat := 165
abbrev aX : Nat := 166
abbrev t : Nat := 167
abbrev cB : Nat := 168
abbrev aY : Nat := 169
abbrev f : Nat := 170
abbrev w : Nat := 171
abbrev a2 : Nat := 172
abbrev a3 : Nat := 173
abbrev bb : Nat := 174
abbrev aL : Nat := 175
abbrev bP : Nat := 176
abbrev aq : Nat := 177
abbrev cA : Nat := 178
abbrev ck : Nat := 179
abbrev a9 : Nat := 183
abbrev cb : Nat := 184
abbrev cC : Nat := 185
abbrev cc : Nat := 186
abbrev av : Nat := 187
abbrev cl : Nat := 188
abbrev cs : Nat := 189
abbrev j : Nat := 190
abbrev cd : Nat := 191
abbrev c0 : Nat := 192
abbrev c1 : Nat := 193
abbrev bY : Nat := 194
abbrev bu : Nat := 195
abbrev aw : Nat := 196
abbrev bv : Nat := 197
abbrev cI : Nat := 198
abbrev ax : Nat := 199
abbrev cU : Nat := 203
abbrev aZ : Nat := 204
abbrev bc : Nat := 205
abbrev cf : Nat := 206
abbrev cJ : Nat := 207
abbrev cV : Nat := 211
abbrev ct : Nat := 212
abbrev p : Nat := 213
abbrev c2 : Nat := 214
abbrev cm : Nat := 215
abbrev cM : Nat := 216
abbrev q : Nat := 217
abbrev c3 : Nat := 218
abbrev bH : Nat := 221
abbrev bQ : Nat := 222
abbrev ay : Nat := 223
abbrev a4 : Nat := 224
abbrev cN : Nat := 225
abbrev bZ : Nat := 226
abbrev cD : Nat := 227
abbrev cO : Nat := 228
abbrev a5 : Nat := 229
abbrev bI : Nat := 232
abbrev bJ : Nat := 233
abbrev cK : Nat := 234
abbrev c4 : Nat := 235
abbrev v : Nat := 236
abbrev cS : Nat := 237
abbrev bR : Nat := 240
abbrev u : Nat := 242
end F
namespace T
abbrev x : Nat := 0
abbrev ad : Nat := 2
abbrev e : Nat := 3
abbrev o : Nat := 4
abbrev y : Nat := 5
abbrev a : Nat := 9
abbrev ao : Nat := 12
abbrev ah : Nat := 21
abbrev c : Nat := 22
abbrev f : Nat := 24
abbrev r : Nat := 25
abbrev h : Nat := 26
abbrev s : Nat := 31
abbrev n : Nat := 37
abbrev q : Nat := 38
abbrev d : Nat := 40
abbrev k : Nat := 42
abbrev v : Nat := 43
abbrev z : Nat := 48
abbrev a0 : Nat := 51
abbrev m : Nat := 68
abbrev j : Nat := 71
abbrev w : Nat := 76
abbrev u : Nat := 78
abbrev i : Nat := 79
abbrev g : Nat := 80
abbrev b : Nat := 82
abbrev l : Nat := 89
abbrev a2 : Nat := 92
abbrev a1 : Nat := 94
abbrev aj : Nat := 104
abbrev a5 : Nat := 107
abbrev ai : Nat := 116
abbrev ak : Nat := 121
abbrev t : Nat := 124
abbrev a3 : Nat := 127
abbrev a8 : Nat := 128
abbrev a6 : Nat := 133
abbrev a4 : Nat := 152
abbrev aa : Nat := 155
abbrev p : Nat := 159
abbrev ab : Nat := 180
abbrev ac : Nat := 183
abbrev am : Nat := 186
abbrev af : Nat := 188
abbrev ap : Nat := 199
abbrev an : Nat := 200
abbrev ae : Nat := 202
abbrev ag : Nat := 203
abbrev a7 : Nat := 206
abbrev a9 : Nat := 207
abbrev al : Nat := 214
abbrev aq : Nat := 217
abbrev ar : Nat := 220
end T
namespace G
abbrev b : Nat := 0
abbrev e : Nat := 1
abbrev d : Nat := 2
abbrev c : Nat := 3
abbrev a : Nat := 4
end G
end Go.Proofs.YtfppjenblllfaaaGreatDoor

set_option maxRecDepth 100000
namespace Go.Proofs.YtfppjenblllfaaaGreatDoor
open Go.Emb
def Zr (h g:Value) (w:World) (K:Value→World→Prop):Prop:= nilCheck P h w fun f w=>fieldAddr P T.u f 1 w fun c w=>Q2 P T.w c w fun b w=>lookup P T.w b g true w fun a w=>ext P a 0 w fun e w=>ext P a 1 w fun d w=>K d w
theorem Eb {b a:Value} {w:World} {K:Value→World→Prop} (h:Zr b a w K):Q0 P F.n [b,a] w K:=Q8 (List.replicate 3 none) Tryz.func41 rfl (by decide) (by kernel_rfl) h
def Q5l:W1:=[none,none,none,none,some ([1,10],[1,3,10,11,12,13,14,15,16,17,18]),none,none,none,none,none]
def Q0e (w:World) (K:Value→World→Prop):Prop:= D7 P T.b [(0,(.string ⟨#[79,98,106,101,99,116]⟩))] w fun n w=>D7 P T.l [(0,(.string ⟨#[119,104,97,116]⟩)),(1,(.string ⟨#[116,101,120,116]⟩))] w fun k w=>buildSlice P T.i 1 [(0,k)] w fun i w=>D7 P T.b [(0,(.string ⟨#[70,97,117,108,116]⟩)),(1,(.string ⟨#[79,98,106,101,99,116]⟩)),(6,i)] w fun j w=>buildSlice P T.h 2 [(0,n),(1,j)] w fun m w=>Q2 P T.ai (.pointer (some ⟨G.b,0,none⟩)) w fun l w=>lp (α:=Value×Value) (m,(.int .i64 0)) w fun a b o w=>Q3 P .lss T.e (.tmp 10) (.const (.int .i64 6)) b.2 (.int .i64 6) w fun c w=>X1 c (H2 P T.ai l b.2 w fun f w=>D7 P T.b [(0,f),(1,(.string ⟨#[70,97,117,108,116]⟩)),(5,(.bool true))] w fun h w=>buildSlice P T.h 1 [(0,h)] w fun d w=>X5 P .append [T.h,T.h] T.h [false,false] [b.1,d] w fun e w=>Q3 P .add T.e (.tmp 10) (.const (.int .i64 1)) b.2 (.int .i64 1) w fun g w=>a (e,g) w) (K b.1 w)
theorem Q5v {w:World} {K:Value→World→Prop} (h:Q0e w K):Q0 P F.cG [] w K:=Q8 Q5l Tryz.func44 rfl (by decide) (by kernel_rfl) h
def Q5y:W1:=[none,none,none,some ([8],[2,4,8,9,10,11,12,13,14,15,16,17,18,19,20,21,22,23,24,25,26,27,28,29,30,31,32,33]),none,none,none,none,none,none,none]
def Q0q (X:Value) (w:World) (K:Value→World→Prop):Prop:= box P T.b X w fun b w=>fieldAddr P T.b b 7 w fun Z w=>Q2 P T.g Z w fun W w=>X5 P .len [T.g] T.e [false] [W] w fun Y w=>lp (α:=Value) (.int .i64 0) w fun h i d_ w=>Q3 P .lss T.e (.tmp 8) (.tmp 7) i Y w fun t9 w=>X1 t9 (indexAddr P T.g W i w fun y w=>Q2 P T.d y w fun q w=>L3 P T.d w fun a w=>Z6 P T.d a q w fun _u w=>fieldAddr P T.d a 1 w fun n w=>Q2 P T.c n w fun l w=>X5 P .len [T.c] T.e [false] [l] w fun N w=>Q3 P .gtr T.e (.tmp 14) (.const (.int .i64 32)) N (.int .i64 32) w fun e w=>Q1 e false w (fieldAddr P T.d a 6) fun V w=>Q1 e false w (Q2 P T.q V) fun D w=>Q1 e false w (X5 P .len [T.q] T.e [false] [D]) fun L w=>Q1 e false w (Q3 P .gtr T.e (.tmp 19) (.const (.int .i64 32)) L (.int .i64 32)) fun r w=>pick P e (.bool true) r w fun d w=>Q1 d false w (fieldAddr P T.d a 5) fun m w=>Q1 d false w (Q2 P T.n m) fun v w=>Q1 d false w (X5 P .len [T.n] T.e [false] [v]) fun k w=>Q1 d false w (Q3 P .gtr T.e (.tmp 25) (.const (.int .i64 200)) k (.int .i64 200)) fun p w=>pick P d (.bool true) p w fun g w=>Q1 g false w (fieldAddr P T.d a 4) fun s w=>Q1 g false w (Q2 P T.e s) fun B w=>Q1 g false w (Q3 P .gtr T.e (.tmp 30) (.const (.int .i64 64)) B (.int .i64 64)) fun J w=>pick P g (.bool true) J w fun t w=>X1 t (K (.bool true) w) (Q3 P .add T.e (.tmp 8) (.const (.int .i64 1)) i (.int .i64 1) w fun A w=>h A w)) (fieldAddr P T.b b 2 w fun z w=>Q2 P T.c z w fun o w=>X5 P .len [T.c] T.e [false] [o] w fun O w=>Q3 P .gtr T.e (.tmp 36) (.const (.int .i64 32)) O (.int .i64 32) w fun f w=>Q1 f false w (fieldAddr P T.b b 6) fun Q w=>Q1 f false w (Q2 P T.i Q) fun M w=>Q1 f false w (X5 P .len [T.i] T.e [false] [M]) fun U w=>Q1 f false w (Q3 P .gtr T.e (.tmp 41) (.const (.int .i64 32)) U (.int .i64 32)) fun j w=>pick P f (.bool true) j w fun c w=>Q1 c false w (fieldAddr P T.b b 7) fun C w=>Q1 c false w (Q2 P T.g C) fun E w=>Q1 c false w (X5 P .len [T.g] T.e [false] [E]) fun H w=>Q1 c false w (Q3 P .gtr T.e (.tmp 47) (.const (.int .i64 32)) H (.int .i64 32)) fun R w=>pick P c (.bool true) R w fun u w=>K u w)
theorem Q6n {a:Value} {w:World} {K:Value→World→Prop} (h:Q0q a w K):Q0 P F.cH [a] w K:=Q8 Q5y Tryz.func94 rfl (by decide) (by kernel_rfl) h
def Q8G:W1:=[none,none,none,some ([],[4,6,9,10,11,12,13,14,15]),none,none,none,none,none,none]
def Q2Q (i h:Value) (w:World) (K:Value→World→Prop):Prop:= rng P T.a i w fun g w=>lp (α:=Unit) () w fun a j k w=>U3 P g true T.x w fun f w=>ext P f 0 w fun d w=>X1 d (ext P f 2 w fun b w=>Z3 P h [b] w fun c w=>J3 P .not c w fun e w=>X1 e (K (.bool false) w) (a () w)) (K (.bool true) w)
theorem Q9m {b a:Value} {w:World} {K:Value→World→Prop} (h:Q2Q b a w K):Q0 P F.cC [b,a] w K:=Q8 Q8G Tryz.func185 rfl (by decide) (by kernel_rfl) h
def Q0X (b:Value) (w:World) (K:Value→World→Prop):Prop:= Q3 P .geq T.ah (.tmp 3) (.const (.int .i32 65)) b (.int .i32 65) w fun a w=>Q1 a true w (fun w J=>J b w) fun c w=>Q1 a true w (Q3 P .leq T.ah (.tmp 6) (.const (.int .i32 90)) c (.int .i32 90)) fun d w=>pick P a d (.bool false) w fun e w=>K e w
theorem Q5I {a:Value} {w:World} {K:Value→World→Prop} (h:Q0X a w K):Q0 P F.ci [a] w K:=Q8 (List.replicate 2 none) Tryz.func141 rfl (by decide) (by kernel_rfl) h
def Q0G (b:Value) (w:World) (K:Value→World→Prop):Prop:= Q3 P .geq T.ah (.tmp 3) (.const (.int .i32 97)) b (.int .i32 97) w fun a w=>Q1 a true w (fun w J=>J b w) fun c w=>Q1 a true w (Q3 P .leq T.ah (.tmp 6) (.const (.int .i32 122)) c (.int .i32 122)) fun d w=>pick P a d (.bool false) w fun e w=>K e w
theorem Q5U {a:Value} {w:World} {K:Value→World→Prop} (h:Q0G a w K):Q0 P F.ck [a] w K:=Q8 (List.replicate 2 none) Tryz.func179 rfl (by decide) (by kernel_rfl) h
def Pl (c:Value) (w:World) (K:Value→World→Prop):Prop:= Q0 P F.ci [c] w fun i w=>Q1 i false w (fun w J=>J c w) fun k w=>Q1 i false w (Q0 P F.ck [k]) fun l w=>pick P i (.bool true) l w fun b w=>Q1 b false w (fun w J=>J c w) fun g w=>Q1 b false w (Q3 P .geq T.ah (.tmp 10) (.const (.int .i32 48)) g (.int .i32 48)) fun d w=>Q1 b false w (fun w J=>J d w) fun a w=>Q1 a true w (fun w J=>J c w) fun h w=>Q1 a true w (Q3 P .leq T.ah (.tmp 13) (.const (.int .i32 57)) h (.int .i32 57)) fun f w=>Q1 b false w (pick P a f (.bool false)) fun j w=>pick P b (.bool true) j w fun e w=>K e w
theorem Q4Y {a:Value} {w:World} {K:Value→World→Prop} (h:Pl a w K):Q0 P F.cc [a] w K:=Q8 (List.replicate 2 none) Tryz.func186 rfl (by decide) (by kernel_rfl) h
def Q1W (c:Value) (w:World) (K:Value→World→Prop):Prop:= Q3 P .eql T.a (.tmp 3) (.const (.string ⟨#[]⟩)) c (.string ⟨#[]⟩) w fun d w=>Q1 d false w (fun w J=>J c w) fun n w=>Q1 d false w (X5 P .len [T.a] T.e [false] [n]) fun o w=>Q1 d false w (Q3 P .gtr T.e (.tmp 7) (.const (.int .i64 32)) o (.int .i64 32)) fun p w=>pick P d (.bool true) p w fun b w=>Q1 b false w (fun w J=>J c w) fun g w=>Q1 b false w (H2 P T.a g (.int .i64 0)) fun f w=>Q1 b false w (Q3 P .geq T.y (.tmp 12) (.const (.int .u8 48)) f (.int .u8 48)) fun e w=>Q1 b false w (fun w J=>J e w) fun a w=>Q1 a true w (fun w J=>J c w) fun m w=>Q1 a true w (H2 P T.a m (.int .i64 0)) fun i w=>Q1 a true w (Q3 P .leq T.y (.tmp 16) (.const (.int .u8 57)) i (.int .u8 57)) fun l w=>Q1 b false w (pick P a l (.bool false)) fun h w=>pick P b (.bool true) h w fun j w=>X1 j (K (.bool false) w) (Q0 P F.cC [c,(.func (.func F.cc) #[] #[])] w fun k w=>K k w)
theorem Q7e {a:Value} {w:World} {K:Value→World→Prop} (h:Q1W a w K):Q0 P F.c6 [a] w K:=Q8 (List.replicate 5 none) Tryz.func140 rfl (by decide) (by kernel_rfl) h
def Q02 (c:Value) (w:World) (K:Value→World→Prop):Prop:= Q0 P F.c6 [c] w fun a w=>Q1 a true w (fun w J=>J c w) fun d w=>Q1 a true w (H2 P T.a d (.int .i64 0)) fun e w=>Q1 a true w (conv P T.y T.ah e) fun g w=>Q1 a true w (Q0 P F.ci [g]) fun f w=>pick P a f (.bool false) w fun b w=>K b w
theorem Q67 {a:Value} {w:World} {K:Value→World→Prop} (h:Q02 a w K):Q0 P F.aj [a] w K:=Q8 (List.replicate 2 none) Tryz.func92 rfl (by decide) (by kernel_rfl) h
def Qz:W1:=[none,none,none,some ([8],[4,5,8,9,10,11,12,13,14,15,16,17,18]),none,none,none,none,none,none,none]
def R8 (g j:Value) (w:World) (K:Value→World→Prop):Prop:= X5 P .len [T.g] T.e [false] [g] w fun h w=>lp (α:=Value) (.int .i64 0) w fun a b k w=>Q3 P .lss T.e (.tmp 8) (.tmp 7) b h w fun i w=>X1 i (indexAddr P T.g g b w fun d w=>Q2 P T.d d w fun f w=>Z3 P j [f] w fun c w=>X1 c (K b w) (Q3 P .add T.e (.tmp 8) (.const (.int .i64 1)) b (.int .i64 1) w fun e w=>a e w)) (K (.int .i64 (-1)) w)
theorem Xc {b a:Value} {w:World} {K:Value→World→Prop} (h:R8 b a w K):Q0 P F.k [b,a] w K:=Q8 Qz Tryz.func164 rfl (by decide) (by kernel_rfl) h
def H1 (d c:Value) (w:World) (K:Value→World→Prop):Prop:= Q0 P F.k [d,c] w fun a w=>Q3 P .geq T.e (.tmp 7) (.const (.int .i64 0)) a (.int .i64 0) w fun b w=>K b w
theorem T6 {b a:Value} {w:World} {K:Value→World→Prop} (h:H1 b a w K):Q0 P F.a [b,a] w K:=Q8 (List.replicate 2 none) Tryz.func108 rfl (by decide) (by kernel_rfl) h
def Mg:W1:=[none,none,none,some ([8],[4,5,8,9,10,11,12,13,14,15,16,17,18]),none,none,none,none,none,none,none]
def Qd (g j:Value) (w:World) (K:Value→World→Prop):Prop:= X5 P .len [T.c] T.e [false] [g] w fun h w=>lp (α:=Value) (.int .i64 0) w fun a b k w=>Q3 P .lss T.e (.tmp 8) (.tmp 7) b h w fun i w=>X1 i (indexAddr P T.c g b w fun d w=>Q2 P T.a d w fun f w=>Q3 P .eql T.a (.tmp 11) (.tmp 15) j f w fun c w=>X1 c (K b w) (Q3 P .add T.e (.tmp 8) (.const (.int .i64 1)) b (.int .i64 1) w fun e w=>a e w)) (K (.int .i64 (-1)) w)
theorem Lr {b a:Value} {w:World} {K:Value→World→Prop} (h:Qd b a w K):Q0 P F.av [b,a] w K:=Q8 Mg Tryz.func187 rfl (by decide) (by kernel_rfl) h
def K5 (d c:Value) (w:World) (K:Value→World→Prop):Prop:= Q0 P F.av [d,c] w fun a w=>Q3 P .geq T.e (.tmp 7) (.const (.int .i64 0)) a (.int .i64 0) w fun b w=>K b w
theorem Vc {b a:Value} {w:World} {K:Value→World→Prop} (h:K5 b a w K):Q0 P F.ag [b,a] w K:=Q8 (List.replicate 2 none) Tryz.func142 rfl (by decide) (by kernel_rfl) h
def Ct (d:Value) (w:World) (K:Value→World→Prop):Prop:= box P T.d d w fun a w=>fieldAddr P T.d a 3 w fun b w=>Q2 P T.o b w fun c w=>K c w
theorem Q3j {a:Value} {w:World} {K:Value→World→Prop} (h:Ct a w K):Q0 P F.cn [a] w K:=Q8 (List.replicate 2 none) Tryz.func143 rfl (by decide) (by kernel_rfl) h
def Cl (e:Value) (w:World) (K:Value→World→Prop):Prop:= box P T.d e w fun a w=>fieldAddr P T.d a 3 w fun c w=>Q2 P T.o c w fun d w=>J3 P .not d w fun b w=>K b w
theorem Q2Y {a:Value} {w:World} {K:Value→World→Prop} (h:Cl a w K):Q0 P F.co [a] w K:=Q8 (List.replicate 2 none) Tryz.func144 rfl (by decide) (by kernel_rfl) h
def Uk:W1:=[none,none,none,some ([8],[4,5,8,9,10,11,12,13,14,15,16,17,18]),none,none,none,none,none,none,none]
def K1 (g j:Value) (w:World) (K:Value→World→Prop):Prop:= X5 P .len [T.c] T.e [false] [g] w fun h w=>lp (α:=Value) (.int .i64 0) w fun a b k w=>Q3 P .lss T.e (.tmp 8) (.tmp 7) b h w fun i w=>X1 i (indexAddr P T.c g b w fun d w=>Q2 P T.a d w fun f w=>Z3 P j [f] w fun c w=>X1 c (K b w) (Q3 P .add T.e (.tmp 8) (.const (.int .i64 1)) b (.int .i64 1) w fun e w=>a e w)) (K (.int .i64 (-1)) w)
theorem Um {b a:Value} {w:World} {K:Value→World→Prop} (h:K1 b a w K):Q0 P F.x [b,a] w K:=Q8 Uk Tryz.func159 rfl (by decide) (by kernel_rfl) h
def F9 (d c:Value) (w:World) (K:Value→World→Prop):Prop:= Q0 P F.x [d,c] w fun a w=>Q3 P .geq T.e (.tmp 7) (.const (.int .i64 0)) a (.int .i64 0) w fun b w=>K b w
theorem Zk {b a:Value} {w:World} {K:Value→World→Prop} (h:F9 b a w K):Q0 P F.e [b,a] w K:=Q8 (List.replicate 2 none) Tryz.func101 rfl (by decide) (by kernel_rfl) h
def Ve (e d:Value) (w:World) (K:Value→World→Prop):Prop:= Q2 P T.z d w fun c w=>Z3 P c [e] w fun a w=>J3 P .not a w fun b w=>K b w
theorem Ba {b a:Value} {w:World} {K:Value→World→Prop} (h:Ve b a w K):Q0 P F.cl [b,a] w K:=Q8 (List.replicate 2 none) Tryz.func188 rfl (by decide) (by kernel_rfl) h
def Ll (f e:Value) (w:World) (K:Value→World→Prop):Prop:= box P T.z e w fun a w=>N6 P (.func F.cl) [] [a] w fun b w=>Q0 P F.e [f,b] w fun c w=>J3 P .not c w fun d w=>K d w
theorem Gt {b a:Value} {w:World} {K:Value→World→Prop} (h:Ll b a w K):Q0 P F.a8 [b,a] w K:=Q8 (List.replicate 2 none) Tryz.func145 rfl (by decide) (by kernel_rfl) h
def Vy (o l n:Value) (w:World) (K:Value→World→Prop):Prop:= dr w fun a b=>Q5 a (fun d=> ∀w,b w→Q2 P T.a6 l w (dk a d w)) fun d=>Q5 a (fun f=> ∀c w,b w→d c w→Z3 P c [o] w (dk a f w)) fun f=>Q5 a (fun g=> ∀w,b w→Q2 P T.a6 l w (dk a g w)) fun g=>Q5 a (fun i=> ∀w,b w→Q2 P T.a n w (dk a i w)) fun i=>∀c j m k w,b w→d c w→f j w→g m w→i k w→ Z3 P m [k] w fun h w=>Q3 P .eql T.a (.tmp 7) (.tmp 10) j h w fun e w=>K e w
theorem Fm {c b a:Value} {w:World} {K:Value→World→Prop} (h:Vy c b a w K):Q0 P F.cs [c,b,a] w K:=Q8 (List.replicate 2 none) Tryz.func189 rfl (by decide) (by kernel_rfl) h
def Tv:W1:=[none,none,none,some ([9],[4,5,6,9,10,11,12,13,14,15,16,17,18,19]),none,none,none,none,none,none,none]
def Nt (l m:Value) (w:World) (K:Value→World→Prop):Prop:= box P T.a6 m w fun a w=>X5 P .len [T.c] T.e [false] [l] w fun n w=>lp (α:=Value) (.int .i64 0) w fun c d o w=>Q3 P .lss T.e (.tmp 9) (.tmp 8) d n w fun g w=>X1 g (indexAddr P T.c l d w fun i w=>Q2 P T.a i w fun j w=>L3 P T.a w fun b w=>Z6 P T.a b j w fun _u w=>R6 P T.c l none (some d) none w fun e w=>N6 P (.func F.cs) [] [a,b] w fun h w=>Q0 P F.e [e,h] w fun k w=>X1 k (K (.bool false) w) (Q3 P .add T.e (.tmp 9) (.const (.int .i64 1)) d (.int .i64 1) w fun f w=>c f w)) (K (.bool true) w)
theorem Tx {b a:Value} {w:World} {K:Value→World→Prop} (h:Nt b a w K):Q0 P F.aW [b,a] w K:=Q8 Tv Tryz.func146 rfl (by decide) (by kernel_rfl) h
def Q3c (a:Value) (w:World) (K:Value→World→Prop):Prop:= K a w
theorem Q3g {a:Value} {w:World} {K:Value→World→Prop} (h:Q3c a w K):Q0 P F.cp [a] w K:=Q8 (List.replicate 2 none) Tryz.func147 rfl (by decide) (by kernel_rfl) h
def Yf:W1:=[none,none,none,some ([8],[4,5,8,9,10,11,12,13,14,15,16,17,18]),none,none,none,none,none,none,none]
def B2 (g j:Value) (w:World) (K:Value→World→Prop):Prop:= X5 P .len [T.i] T.e [false] [g] w fun h w=>lp (α:=Value) (.int .i64 0) w fun a b k w=>Q3 P .lss T.e (.tmp 8) (.tmp 7) b h w fun i w=>X1 i (indexAddr P T.i g b w fun d w=>Q2 P T.l d w fun f w=>Z3 P j [f] w fun c w=>X1 c (K b w) (Q3 P .add T.e (.tmp 8) (.const (.int .i64 1)) b (.int .i64 1) w fun e w=>a e w)) (K (.int .i64 (-1)) w)
theorem Xz {b a:Value} {w:World} {K:Value→World→Prop} (h:B2 b a w K):Q0 P F.o [b,a] w K:=Q8 Yf Tryz.func161 rfl (by decide) (by kernel_rfl) h
def R3 (d c:Value) (w:World) (K:Value→World→Prop):Prop:= Q0 P F.o [d,c] w fun a w=>Q3 P .geq T.e (.tmp 7) (.const (.int .i64 0)) a (.int .i64 0) w fun b w=>K b w
theorem Qs {b a:Value} {w:World} {K:Value→World→Prop} (h:R3 b a w K):Q0 P F.j [b,a] w K:=Q8 (List.replicate 2 none) Tryz.func190 rfl (by decide) (by kernel_rfl) h
def Zu (r m q:Value) (w:World) (K:Value→World→Prop):Prop:= box P T.l r w fun b w=>dr w fun a c=>Q5 a (fun g=> ∀w,c w→Q2 P T.a4 m w (dk a g w)) fun g=>Q5 a (fun e=> ∀w,c w→Q2 P T.l b w (dk a e w)) fun e=>Q5 a (fun h=> ∀f d w,c w→g f w→e d w→Z3 P f [d] w (dk a h w)) fun h=>Q5 a (fun k=> ∀w,c w→Q2 P T.a4 m w (dk a k w)) fun k=>Q5 a (fun l=> ∀w,c w→Q2 P T.l q w (dk a l w)) fun l=>∀f d n p o w,c w→g f w→e d w→h n w→k p w→l o w→ Z3 P p [o] w fun j w=>Q3 P .eql T.a (.tmp 7) (.tmp 10) n j w fun i w=>K i w
theorem Sh {c b a:Value} {w:World} {K:Value→World→Prop} (h:Zu c b a w K):Q0 P F.cd [c,b,a] w K:=Q8 (List.replicate 2 none) Tryz.func191 rfl (by decide) (by kernel_rfl) h
def Bg:W1:=[none,none,none,some ([9],[4,5,6,9,10,11,12,13,14,15,16,17,18,19]),none,none,none,none,none,none,none]
def Uy (l m:Value) (w:World) (K:Value→World→Prop):Prop:= box P T.a4 m w fun a w=>X5 P .len [T.i] T.e [false] [l] w fun n w=>lp (α:=Value) (.int .i64 0) w fun c d o w=>Q3 P .lss T.e (.tmp 9) (.tmp 8) d n w fun g w=>X1 g (indexAddr P T.i l d w fun i w=>Q2 P T.l i w fun j w=>L3 P T.l w fun b w=>Z6 P T.l b j w fun _u w=>R6 P T.i l none (some d) none w fun e w=>N6 P (.func F.cd) [] [a,b] w fun h w=>Q0 P F.j [e,h] w fun k w=>X1 k (K (.bool false) w) (Q3 P .add T.e (.tmp 9) (.const (.int .i64 1)) d (.int .i64 1) w fun f w=>c f w)) (K (.bool true) w)
theorem Bk {b a:Value} {w:World} {K:Value→World→Prop} (h:Uy b a w K):Q0 P F.aB [b,a] w K:=Q8 Bg Tryz.func148 rfl (by decide) (by kernel_rfl) h
def Cq (d:Value) (w:World) (K:Value→World→Prop):Prop:= box P T.l d w fun a w=>fieldAddr P T.l a 0 w fun b w=>Q2 P T.a b w fun c w=>K c w
theorem Q2Z {a:Value} {w:World} {K:Value→World→Prop} (h:Cq a w K):Q0 P F.cq [a] w K:=Q8 (List.replicate 2 none) Tryz.func149 rfl (by decide) (by kernel_rfl) h
def Zh (r m q:Value) (w:World) (K:Value→World→Prop):Prop:= box P T.d r w fun b w=>dr w fun a c=>Q5 a (fun g=> ∀w,c w→Q2 P T.a3 m w (dk a g w)) fun g=>Q5 a (fun e=> ∀w,c w→Q2 P T.d b w (dk a e w)) fun e=>Q5 a (fun h=> ∀f d w,c w→g f w→e d w→Z3 P f [d] w (dk a h w)) fun h=>Q5 a (fun k=> ∀w,c w→Q2 P T.a3 m w (dk a k w)) fun k=>Q5 a (fun l=> ∀w,c w→Q2 P T.d q w (dk a l w)) fun l=>∀f d n p o w,c w→g f w→e d w→h n w→k p w→l o w→ Z3 P p [o] w fun j w=>Q3 P .eql T.a (.tmp 7) (.tmp 10) n j w fun i w=>K i w
theorem Hf {c b a:Value} {w:World} {K:Value→World→Prop} (h:Zh c b a w K):Q0 P F.c0 [c,b,a] w K:=Q8 (List.replicate 2 none) Tryz.func192 rfl (by decide) (by kernel_rfl) h
def Cb:W1:=[none,none,none,some ([9],[4,5,6,9,10,11,12,13,14,15,16,17,18,19]),none,none,none,none,none,none,none]
def Ug (l m:Value) (w:World) (K:Value→World→Prop):Prop:= box P T.a3 m w fun a w=>X5 P .len [T.g] T.e [false] [l] w fun n w=>lp (α:=Value) (.int .i64 0) w fun c d o w=>Q3 P .lss T.e (.tmp 9) (.tmp 8) d n w fun g w=>X1 g (indexAddr P T.g l d w fun i w=>Q2 P T.d i w fun j w=>L3 P T.d w fun b w=>Z6 P T.d b j w fun _u w=>R6 P T.g l none (some d) none w fun e w=>N6 P (.func F.c0) [] [a,b] w fun h w=>Q0 P F.a [e,h] w fun k w=>X1 k (K (.bool false) w) (Q3 P .add T.e (.tmp 9) (.const (.int .i64 1)) d (.int .i64 1) w fun f w=>c f w)) (K (.bool true) w)
theorem Sw {b a:Value} {w:World} {K:Value→World→Prop} (h:Ug b a w K):Q0 P F.ar [b,a] w K:=Q8 Cb Tryz.func150 rfl (by decide) (by kernel_rfl) h
def Cx (d:Value) (w:World) (K:Value→World→Prop):Prop:= box P T.d d w fun a w=>fieldAddr P T.d a 0 w fun b w=>Q2 P T.a b w fun c w=>K c w
theorem Q3h {a:Value} {w:World} {K:Value→World→Prop} (h:Cx a w K):Q0 P F.cr [a] w K:=Q8 (List.replicate 2 none) Tryz.func151 rfl (by decide) (by kernel_rfl) h
def Zc (g f:Value) (w:World) (K:Value→World→Prop):Prop:= box P T.l g w fun a w=>Q2 P T.aa f w fun e w=>Q2 P T.l a w fun d w=>Z3 P e [d] w fun b w=>J3 P .not b w fun c w=>K c w
theorem Hk {b a:Value} {w:World} {K:Value→World→Prop} (h:Zc b a w K):Q0 P F.c1 [b,a] w K:=Q8 (List.replicate 2 none) Tryz.func193 rfl (by decide) (by kernel_rfl) h
def Uf (f e:Value) (w:World) (K:Value→World→Prop):Prop:= box P T.aa e w fun a w=>N6 P (.func F.c1) [] [a] w fun b w=>Q0 P F.j [f,b] w fun c w=>J3 P .not c w fun d w=>K d w
theorem Sy {b a:Value} {w:World} {K:Value→World→Prop} (h:Uf b a w K):Q0 P F.au [b,a] w K:=Q8 (List.replicate 2 none) Tryz.func152 rfl (by decide) (by kernel_rfl) h
def Q0H (f:Value) (w:World) (K:Value→World→Prop):Prop:= Q3 P .eql T.a (.tmp 3) (.const (.string ⟨#[105,110,116]⟩)) f (.string ⟨#[105,110,116]⟩) w fun d w=>Q1 d false w (fun w J=>J f w) fun g w=>Q1 d false w (Q3 P .eql T.a (.tmp 6) (.const (.string ⟨#[98,111,111,108]⟩)) g (.string ⟨#[98,111,111,108]⟩)) fun h w=>pick P d (.bool true) h w fun c w=>Q1 c false w (fun w J=>J f w) fun b w=>Q1 c false w (Q3 P .eql T.a (.tmp 10) (.const (.string ⟨#[116,101,120,116]⟩)) b (.string ⟨#[116,101,120,116]⟩)) fun a w=>pick P c (.bool true) a w fun e w=>K e w
theorem Q6j {a:Value} {w:World} {K:Value→World→Prop} (h:Q0H a w K):Q0 P F.ad [a] w K:=Q8 (List.replicate 2 none) Tryz.func40 rfl (by decide) (by kernel_rfl) h
def Ui (l k:Value) (w:World) (K:Value→World→Prop):Prop:= X5 P .len [T.a] T.e [false] [l] w fun n w=>X5 P .len [T.a] T.e [false] [k] w fun o w=>Q3 P .geq T.e (.tmp 6) (.tmp 8) n o w fun a w=>Q1 a true w (fun w J=>J l w) fun c w=>Q1 a true w (fun w J=>J l w) fun h w=>Q1 a true w (X5 P .len [T.a] T.e [false] [h]) fun i w=>Q1 a true w (fun w J=>J k w) fun e w=>Q1 a true w (X5 P .len [T.a] T.e [false] [e]) fun m w=>Q1 a true w (Q3 P .sub T.e (.tmp 13) (.tmp 15) i m) fun d w=>Q1 a true w (R6 P T.a c (some d) none none) fun g w=>Q1 a true w (fun w J=>J k w) fun j w=>Q1 a true w (Q3 P .eql T.a (.tmp 17) (.tmp 18) g j) fun b w=>pick P a b (.bool false) w fun f w=>K f w
theorem Ca {b a:Value} {w:World} {K:Value→World→Prop} (h:Ui b a w K):Q0 P F.a9 [b,a] w K:=Q8 (List.replicate 2 none) Tryz.func183 rfl (by decide) (by kernel_rfl) h
def Nn (c b:Value) (w:World) (K:Value→World→Prop):Prop:= Q0 P F.a9 [c,b] w fun a w=>K a w
theorem Am {b a:Value} {w:World} {K:Value→World→Prop} (h:Nn b a w K):Q0 P F.bO [b,a] w K:=Q8 (List.replicate 2 none) Tryz.func138 rfl (by decide) (by kernel_rfl) h
def Jh (a f:Value) (w:World) (K:Value→World→Prop):Prop:= Q0 P F.a9 [a,f] w fun g w=>X1 g (X5 P .len [T.a] T.e [false] [a] w fun c w=>X5 P .len [T.a] T.e [false] [f] w fun d w=>Q3 P .sub T.e (.tmp 10) (.tmp 12) c d w fun e w=>R6 P T.a a none (some e) none w fun b w=>K b w) (K a w)
theorem Sr {b a:Value} {w:World} {K:Value→World→Prop} (h:Jh b a w K):Q0 P F.cb [b,a] w K:=Q8 (List.replicate 5 none) Tryz.func184 rfl (by decide) (by kernel_rfl) h
def Mn (c b:Value) (w:World) (K:Value→World→Prop):Prop:= Q0 P F.cb [c,b] w fun a w=>K a w
theorem Iz {b a:Value} {w:World} {K:Value→World→Prop} (h:Mn b a w K):Q0 P F.bG [b,a] w K:=Q8 (List.replicate 2 none) Tryz.func139 rfl (by decide) (by kernel_rfl) h
def Q70:W1:=[none,none,none,some ([0,4],[0,4,5,6,7,8,9,10]),none,none,none]
def Q1U (f:Value) (w:World) (K:Value→World→Prop):Prop:= lp (α:=Value×Value) (f,(.int .i64 0)) w fun a b g w=>Q0 P F.bO [b.1,(.string ⟨#[91,93]⟩)] w fun d w=>X1 d (Q0 P F.bG [b.1,(.string ⟨#[91,93]⟩)] w fun e w=>Q3 P .add T.e (.tmp 9) (.const (.int .i64 1)) b.2 (.int .i64 1) w fun c w=>a (e,c) w) (K (.tuple #[b.1,b.2]) w)
theorem Q7k {a:Value} {w:World} {K:Value→World→Prop} (h:Q1U a w K):Q0 P F.cu [a] w K:=Q8 Q70 Tryz.func91 rfl (by decide) (by kernel_rfl) h
def Q0L (l:Value) (w:World) (K:Value→World→Prop):Prop:= Q0 P F.cu [l] w fun i w=>ext P i 0 w fun j w=>ext P i 1 w fun k w=>Q3 P .leq T.e (.tmp 10) (.const (.int .i64 3)) k (.int .i64 3) w fun a w=>Q1 a true w (fun w J=>J j w) fun g w=>Q1 a true w (Q0 P F.ad [g]) fun e w=>Q1 a true w (fun w J=>J e w) fun b w=>Q1 b false w (fun w J=>J j w) fun d w=>Q1 b false w (Q0 P F.aj [d]) fun f w=>Q1 a true w (pick P b (.bool true) f) fun h w=>pick P a h (.bool false) w fun c w=>K c w
theorem Q5X {a:Value} {w:World} {K:Value→World→Prop} (h:Q0L a w K):Q0 P F.z [a] w K:=Q8 (List.replicate 3 none) Tryz.func39 rfl (by decide) (by kernel_rfl) h
def Bz (b:Value) (w:World) (K:Value→World→Prop):Prop:= Q0 P F.c6 [b] w fun a w=>Q1 a true w (fun w J=>J b w) fun c w=>Q1 a true w (Q0 P F.aj [c]) fun d w=>Q1 a true w (J3 P .not d) fun f w=>pick P a f (.bool false) w fun e w=>K e w
theorem Q3L {a:Value} {w:World} {K:Value→World→Prop} (h:Bz a w K):Q0 P F.bX [a] w K:=Q8 (List.replicate 2 none) Tryz.func154 rfl (by decide) (by kernel_rfl) h
def Cg (i:Value) (w:World) (K:Value→World→Prop):Prop:= box P T.l i w fun a w=>fieldAddr P T.l a 0 w fun e w=>Q2 P T.a e w fun h w=>Q0 P F.bX [h] w fun b w=>Q1 b true w (fieldAddr P T.l a 1) fun d w=>Q1 b true w (Q2 P T.a d) fun g w=>Q1 b true w (Q0 P F.z [g]) fun f w=>pick P b f (.bool false) w fun c w=>K c w
theorem Q2C {a:Value} {w:World} {K:Value→World→Prop} (h:Cg a w K):Q0 P F.bK [a] w K:=Q8 (List.replicate 2 none) Tryz.func153 rfl (by decide) (by kernel_rfl) h
def Ym (g f:Value) (w:World) (K:Value→World→Prop):Prop:= box P T.d g w fun a w=>Q2 P T.a8 f w fun e w=>Q2 P T.d a w fun d w=>Z3 P e [d] w fun b w=>J3 P .not b w fun c w=>K c w
theorem Er {b a:Value} {w:World} {K:Value→World→Prop} (h:Ym b a w K):Q0 P F.bY [b,a] w K:=Q8 (List.replicate 2 none) Tryz.func194 rfl (by decide) (by kernel_rfl) h
def Jl (f e:Value) (w:World) (K:Value→World→Prop):Prop:= box P T.a8 e w fun a w=>N6 P (.func F.bY) [] [a] w fun b w=>Q0 P F.a [f,b] w fun c w=>J3 P .not c w fun d w=>K d w
theorem Rt {b a:Value} {w:World} {K:Value→World→Prop} (h:Jl b a w K):Q0 P F.ao [b,a] w K:=Q8 (List.replicate 2 none) Tryz.func155 rfl (by decide) (by kernel_rfl) h
def Sq (B A:Value) (w:World) (K:Value→World→Prop):Prop:= box P T.p B w fun a w=>fieldAddr P T.p a 0 w fun E w=>Q2 P T.e E w fun C w=>Q3 P .geq T.e (.tmp 5) (.const (.int .i64 0)) C (.int .i64 0) w fun f w=>Q1 f true w (fieldAddr P T.p a 1) fun H w=>Q1 f true w (Q2 P T.e H) fun D w=>Q1 f true w (fieldAddr P T.p a 0) fun p w=>Q1 f true w (Q2 P T.e p) fun m w=>Q1 f true w (Q3 P .gtr T.e (.tmp 9) (.tmp 11) D m) fun i w=>pick P f i (.bool false) w fun b w=>Q1 b true w (fieldAddr P T.p a 1) fun y w=>Q1 b true w (Q2 P T.e y) fun t w=>Q1 b true w (Q2 P T.e A) fun v w=>Q1 b true w (Q3 P .leq T.e (.tmp 16) (.tmp 17) t v) fun s w=>pick P b s (.bool false) w fun e w=>Q1 e true w (fieldAddr P T.p a 2) fun u w=>Q1 e true w (Q2 P T.e u) fun z w=>Q1 e true w (Q3 P .geq T.e (.tmp 22) (.const (.int .i64 0)) z (.int .i64 0)) fun h w=>pick P e h (.bool false) w fun c w=>Q1 c true w (fieldAddr P T.p a 2) fun l w=>Q1 c true w (Q2 P T.e l) fun j w=>Q1 c true w (Q2 P T.e A) fun g w=>Q1 c true w (Q3 P .lss T.e (.tmp 27) (.tmp 28) j g) fun n w=>pick P c n (.bool false) w fun d w=>Q1 d true w (fieldAddr P T.p a 3) fun o w=>Q1 d true w (Q2 P T.a o) fun r w=>Q1 d true w (Q0 P F.aj [r]) fun q w=>pick P d q (.bool false) w fun k w=>K k w
theorem Q2b {b a:Value} {w:World} {K:Value→World→Prop} (h:Sq b a w K):Q0 P F.bu [b,a] w K:=Q8 (List.replicate 2 none) Tryz.func195 rfl (by decide) (by kernel_rfl) h
def Xt:W1:=[none,none,none,some ([8],[4,5,8,9,10,11,12,13,14,15,16,17,18]),none,none,none,none,none,none,none]
def C6 (g j:Value) (w:World) (K:Value→World→Prop):Prop:= X5 P .len [T.n] T.e [false] [g] w fun h w=>lp (α:=Value) (.int .i64 0) w fun a b k w=>Q3 P .lss T.e (.tmp 8) (.tmp 7) b h w fun i w=>X1 i (indexAddr P T.n g b w fun d w=>Q2 P T.k d w fun f w=>Z3 P j [f] w fun c w=>X1 c (K b w) (Q3 P .add T.e (.tmp 8) (.const (.int .i64 1)) b (.int .i64 1) w fun e w=>a e w)) (K (.int .i64 (-1)) w)
theorem Xv {b a:Value} {w:World} {K:Value→World→Prop} (h:C6 b a w K):Q0 P F.a4 [b,a] w K:=Q8 Xt Tryz.func224 rfl (by decide) (by kernel_rfl) h
def R4 (d c:Value) (w:World) (K:Value→World→Prop):Prop:= Q0 P F.a4 [d,c] w fun a w=>Q3 P .geq T.e (.tmp 7) (.const (.int .i64 0)) a (.int .i64 0) w fun b w=>K b w
theorem Qr {b a:Value} {w:World} {K:Value→World→Prop} (h:R4 b a w K):Q0 P F.p [b,a] w K:=Q8 (List.replicate 2 none) Tryz.func213 rfl (by decide) (by kernel_rfl) h
def Zj (g f:Value) (w:World) (K:Value→World→Prop):Prop:= box P T.k g w fun a w=>Q2 P T.ac f w fun e w=>Q2 P T.k a w fun d w=>Z3 P e [d] w fun b w=>J3 P .not b w fun c w=>K c w
theorem Hl {b a:Value} {w:World} {K:Value→World→Prop} (h:Zj b a w K):Q0 P F.c2 [b,a] w K:=Q8 (List.replicate 2 none) Tryz.func214 rfl (by decide) (by kernel_rfl) h
def Ud (f e:Value) (w:World) (K:Value→World→Prop):Prop:= box P T.ac e w fun a w=>N6 P (.func F.c2) [] [a] w fun b w=>Q0 P F.p [f,b] w fun c w=>J3 P .not c w fun d w=>K d w
theorem Su {b a:Value} {w:World} {K:Value→World→Prop} (h:Ud b a w K):Q0 P F.aw [b,a] w K:=Q8 (List.replicate 2 none) Tryz.func196 rfl (by decide) (by kernel_rfl) h
def Zs:W1:=[none,none,none,some ([8],[4,5,8,9,10,11,12,13,14,15,16,17,18]),none,none,none,none,none,none,none]
def G5 (g j:Value) (w:World) (K:Value→World→Prop):Prop:= X5 P .len [T.al] T.e [false] [g] w fun h w=>lp (α:=Value) (.int .i64 0) w fun a b k w=>Q3 P .lss T.e (.tmp 8) (.tmp 7) b h w fun i w=>X1 i (indexAddr P T.al g b w fun d w=>Q2 P T.a7 d w fun f w=>Z3 P j [f] w fun c w=>X1 c (K b w) (Q3 P .add T.e (.tmp 8) (.const (.int .i64 1)) b (.int .i64 1) w fun e w=>a e w)) (K (.int .i64 (-1)) w)
theorem Zo {b a:Value} {w:World} {K:Value→World→Prop} (h:G5 b a w K):Q0 P F.v [b,a] w K:=Q8 Zs Tryz.func236 rfl (by decide) (by kernel_rfl) h
def Pq (g f:Value) (w:World) (K:Value→World→Prop):Prop:= box P T.a7 g w fun a w=>fieldAddr P T.a7 a 0 w fun e w=>Q2 P T.a e w fun d w=>Q2 P T.a f w fun b w=>Q3 P .eql T.a (.tmp 5) (.tmp 6) d b w fun c w=>K c w
theorem Q4S {b a:Value} {w:World} {K:Value→World→Prop} (h:Pq b a w K):Q0 P F.cS [b,a] w K:=Q8 (List.replicate 2 none) Tryz.func237 rfl (by decide) (by kernel_rfl) h
def Q21 (e:Value) (w:World) (K:Value→World→Prop):Prop:= box P T.a e w fun a w=>R6 P T.a9 (.pointer (some ⟨G.a,0,none⟩)) none none none w fun c w=>N6 P (.func F.cS) [] [a] w fun d w=>Q0 P F.v [c,d] w fun b w=>K b w
theorem Q7s {a:Value} {w:World} {K:Value→World→Prop} (h:Q21 a w K):Q0 P F.cN [a] w K:=Q8 (List.replicate 2 none) Tryz.func225 rfl (by decide) (by kernel_rfl) h
def Q0b (p:Value) (w:World) (K:Value→World→Prop):Prop:= Q0 P F.cN [p] w fun o w=>Q3 P .lss T.e (.tmp 8) (.const (.int .i64 0)) o (.int .i64 0) w fun q w=>X1 q (K (.tuple #[(.bool false),(.bool false),(.bool false)]) w) (dr w fun a j=>Q5 a (fun c=> ∀w,j w→indexAddr P T.a9 (.pointer (some ⟨G.a,0,none⟩)) o w (dk a c w)) fun c=>Q5 a (fun i=> ∀f w,j w→c f w→fieldAddr P T.a7 f 1 w (dk a i w)) fun i=>Q5 a (fun b=> ∀w,j w→indexAddr P T.a9 (.pointer (some ⟨G.a,0,none⟩)) o w (dk a b w)) fun b=>Q5 a (fun d=> ∀h w,j w→b h w→fieldAddr P T.a7 h 2 w (dk a d w)) fun d=>Q5 a (fun k=> ∀e w,j w→i e w→Q2 P T.o e w (dk a k w)) fun k=>Q5 a (fun l=> ∀g w,j w→d g w→Q2 P T.o g w (dk a l w)) fun l=>∀f e h g m n w,j w→c f w→i e w→b h w→d g w→k m w→l n w→ K (.tuple #[m,n,(.bool true)]) w)
theorem Q6G {a:Value} {w:World} {K:Value→World→Prop} (h:Q0b a w K):Q0 P F.cm [a] w K:=Q8 (List.replicate 6 none) Tryz.func215 rfl (by decide) (by kernel_rfl) h
def Uh (c b:Value) (w:World) (K:Value→World→Prop):Prop:= Q0 P F.c4 [c,b] w fun a w=>K a w
theorem Sv {b a:Value} {w:World} {K:Value→World→Prop} (h:Uh b a w K):Q0 P F.ay [b,a] w K:=Q8 (List.replicate 2 none) Tryz.func223 rfl (by decide) (by kernel_rfl) h
def Tp:W1:=[none,none,none,none,none,none,none,none,none,none,none,none,none,none,none,none,none,some ([8,10],[4,8,10,11,12,13,57,58,59,60,61,62,63,64,65,66,67,68,69,70,71,72,73,74,75,76,77,78,79,80,81,82,83,84,85,86,87,88,89,90,91,92,93,94,95,96,97,98,99,100,101,102,103,104,105,106,107,108,109,110,111,112,113,114,115,116,117,118,119,120,121,122,123,124,125,126,127,128,129,130,131,132,133,134,135,136,137,138,139,140,141,142]),none,none,some ([8],[4,8,11,60,61,62,63,64,65,66,67,68,69,70,71,72,73,74,75,76,77]),none,none,none,none,none,none,none,none,none,none,none,none,none,none,none,none,none,none,none,none,none,none,none]
def Ny (h l:Value) (w:World) (K:Value→World→Prop):Prop:= X5 P .len [T.a] T.e [false] [l] w fun e w=>Q3 P .eql T.e (.tmp 17) (.const (.int .i64 0)) e (.int .i64 0) w fun k w=>Q1 k false w (fun w J=>J l w) fun ag w=>Q1 k false w (fun w J=>J h w) fun ao w=>Q1 k false w (Q3 P .eql T.a (.tmp 20) (.tmp 21) ag ao) fun bf w=>pick P k (.bool true) bf w fun ay w=>X1 ay (K (.int .i64 0) w) (Q3 P .eql T.e (.tmp 25) (.const (.int .i64 1)) e (.int .i64 1) w fun ac w=>X1 ac (H2 P T.a l (.int .i64 0) w fun a5 w=>Q0 P F.ay [h,a5] w fun an w=>K an w) (X5 P .len [T.a] T.e [false] [h] w fun ba w=>Q3 P .geq T.e (.tmp 32) (.tmp 34) e ba w fun az w=>X1 az (K (.int .i64 (-1)) w) (Q2 P T.e (.pointer (some ⟨G.c,0,none⟩)) w fun ab w=>Q3 P .leq T.e (.tmp 37) (.tmp 38) e ab w fun m w=>Q1 m true w (fun w J=>J h w) fun be w=>Q1 m true w (X5 P .len [T.a] T.e [false] [be]) fun aw w=>Q1 m true w (Q3 P .leq T.e (.tmp 42) (.const (.int .i64 64)) aw (.int .i64 64)) fun av w=>pick P m av (.bool false) w fun a9 w=>X1 a9 (Q0 P F.ct [h,l] w fun bb w=>K bb w) (H2 P T.a l (.int .i64 0) w fun R w=>H2 P T.a l (.int .i64 1) w fun bd w=>X5 P .len [T.a] T.e [false] [h] w fun ah w=>Q3 P .sub T.e (.tmp 53) (.tmp 54) ah e w fun a7 w=>Q3 P .add T.e (.tmp 55) (.const (.int .i64 1)) a7 (.int .i64 1) w fun p w=>lp (α:=Value×Value) ((.int .i64 0),(.int .i64 0)) w fun j g d_ w=>Q3 P .lss T.e (.tmp 57) (.tmp 58) g.1 p w fun ad w=>X1 ad (jn (α:=Value) w (fun s w=>H2 P T.a h g.1 w fun al w=>Q3 P .neq T.y (.tmp 62) (.tmp 63) al R w fun a6 w=>X1 a6 (Q3 P .add T.e (.tmp 66) (.const (.int .i64 1)) g.1 (.int .i64 1) w fun ak w=>R6 P T.a h (some ak) (some p) none w fun ax w=>Q0 P F.ay [ax,R] w fun W w=>Q3 P .lss T.e (.tmp 72) (.const (.int .i64 0)) W (.int .i64 0) w fun a3 w=>X1 a3 (K (.int .i64 (-1)) w) (Q3 P .add T.e (.tmp 75) (.const (.int .i64 1)) W (.int .i64 1) w fun bc w=>Q3 P .add T.e (.tmp 74) (.tmp 76) g.1 bc w fun aq w=>s aq w)) (s g.1 w)) fun i d_ w=>Q3 P .add T.e (.tmp 79) (.const (.int .i64 1)) i (.int .i64 1) w fun a8 w=>H2 P T.a h a8 w fun ar w=>Q3 P .eql T.y (.tmp 81) (.tmp 82) ar bd w fun b w=>Q1 b true w (fun w J=>J h w) fun ai w=>Q1 b true w (fun w J=>J i w) fun aa w=>Q1 b true w (fun w J=>J i w) fun aj w=>Q1 b true w (fun w J=>J e w) fun ap w=>Q1 b true w (Q3 P .add T.e (.tmp 87) (.tmp 88) aj ap) fun am w=>Q1 b true w (R6 P T.a ai (some aa) (some am) none) fun a2 w=>Q1 b true w (fun w J=>J l w) fun af w=>Q1 b true w (Q3 P .eql T.a (.tmp 90) (.tmp 91) a2 af) fun a4 w=>pick P b a4 (.bool false) w fun ae w=>X1 ae (K i w) (Q3 P .add T.e (.tmp 95) (.const (.int .i64 1)) i (.int .i64 1) w fun c w=>Q3 P .add T.e (.tmp 97) (.const (.int .i64 1)) g.2 (.int .i64 1) w fun q w=>Q2 P T.e (.pointer (some ⟨G.c,0,none⟩)) w fun Q w=>Q3 P .leq T.e (.tmp 99) (.tmp 100) e Q w fun d w=>Q1 d true w (fun w J=>J q w) fun C w=>Q1 d true w (fun w J=>J c w) fun X w=>Q1 d true w (Q0 P F.cV [X]) fun v w=>Q1 d true w (Q3 P .gtr T.e (.tmp 103) (.tmp 105) C v) fun E w=>pick P d E (.bool false) w fun y w=>X1 y (R6 P T.a h (some c) none none w fun H w=>Q0 P F.ct [H,l] w fun o w=>Q3 P .geq T.e (.tmp 113) (.const (.int .i64 0)) o (.int .i64 0) w fun A w=>X1 A (Q3 P .add T.e (.tmp 115) (.tmp 116) o c w fun t w=>K t w) (K (.int .i64 (-1)) w)) (Q2 P T.e (.pointer (some ⟨G.c,0,none⟩)) w fun Z w=>Q3 P .gtr T.e (.tmp 118) (.tmp 119) e Z w fun a w=>Q1 a true w (fun w J=>J q w) fun N w=>Q1 a true w (fun w J=>J c w) fun r w=>Q1 a true w (Q3 P .shr T.e (.tmp 123) (.const (.int .u64 4)) r (.int .u64 4)) fun z w=>Q1 a true w (Q3 P .add T.e (.const (.int .i64 4)) (.tmp 124) (.int .i64 4) z) fun U w=>Q1 a true w (Q3 P .geq T.e (.tmp 122) (.tmp 125) N U) fun Y w=>pick P a Y (.bool false) w fun f w=>Q1 f true w (fun w J=>J c w) fun D w=>Q1 f true w (fun w J=>J p w) fun L w=>Q1 f true w (Q3 P .lss T.e (.tmp 129) (.tmp 130) D L) fun B w=>pick P f B (.bool false) w fun M w=>X1 M (R6 P T.a h (some c) none none w fun V w=>Q0 P F.cK [V,l] w fun n w=>Q3 P .lss T.e (.tmp 138) (.const (.int .i64 0)) n (.int .i64 0) w fun O w=>X1 O (K (.int .i64 (-1)) w) (Q3 P .add T.e (.tmp 140) (.tmp 141) c n w fun u w=>K u w)) (j (c,q) w)))) (K (.int .i64 (-1)) w)))))
theorem Tq {b a:Value} {w:World} {K:Value→World→Prop} (h:Ny b a w K):Q0 P F.bQ [b,a] w K:=Q8 Tp Tryz.func222 rfl (by decide) (by kernel_rfl) h
def Ez (l n:Value) (w:World) (K:Value→World→Prop):Prop:= Q0 P F.bQ [l,n] w fun g w=>Q3 P .geq T.e (.tmp 11) (.const (.int .i64 0)) g (.int .i64 0) w fun m w=>X1 m (dr w fun e i=>Q5 e (fun f=> ∀w,i w→R6 P T.a l none (some g) none w (dk e f w)) fun f=>Q5 e (fun b=> ∀w,i w→X5 P .len [T.a] T.e [false] [n] w (dk e b w)) fun b=>Q5 e (fun d=> ∀a w,i w→b a w→Q3 P .add T.e (.tmp 17) (.tmp 19) g a w (dk e d w)) fun d=>Q5 e (fun h=> ∀c w,i w→d c w→R6 P T.a l (some c) none none w (dk e h w)) fun h=>∀k a c j w,i w→f k w→b a w→d c w→h j w→ K (.tuple #[k,j,(.bool true)]) w) (K (.tuple #[l,(.string ⟨#[]⟩),(.bool false)]) w)
theorem Q1v {b a:Value} {w:World} {K:Value→World→Prop} (h:Ez b a w K):Q0 P F.cJ [b,a] w K:=Q8 (List.replicate 6 none) Tryz.func207 rfl (by decide) (by kernel_rfl) h
def Pu (f e:Value) (w:World) (K:Value→World→Prop):Prop:= Q0 P F.cJ [f,e] w fun c w=>ext P c 0 w fun b w=>ext P c 1 w fun a w=>ext P c 2 w fun d w=>K (.tuple #[b,a,d]) w
theorem Q50 {b a:Value} {w:World} {K:Value→World→Prop} (h:Pu b a w K):Q0 P F.cA [b,a] w K:=Q8 (List.replicate 2 none) Tryz.func178 rfl (by decide) (by kernel_rfl) h
def Az (t:Value) (w:World) (K:Value→World→Prop):Prop:= Q0 P F.cA [t,(.string ⟨#[46]⟩)] w fun e w=>ext P e 0 w fun f w=>ext P e 1 w fun d w=>ext P e 2 w fun h w=>J3 P .not h w fun c w=>Q1 c false w (fun w J=>J f w) fun r w=>Q1 c false w (Q0 P F.aj [r]) fun o w=>Q1 c false w (J3 P .not o) fun q w=>pick P c (.bool true) q w fun b w=>Q1 b false w (fun w J=>J d w) fun s w=>Q1 b false w (Q0 P F.c6 [s]) fun i w=>Q1 b false w (J3 P .not i) fun m w=>pick P b (.bool true) m w fun a w=>Q1 a false w (fun w J=>J d w) fun j w=>Q1 a false w (H2 P T.a j (.int .i64 0)) fun g w=>Q1 a false w (conv P T.y T.ah g) fun k w=>Q1 a false w (Q0 P F.ck [k]) fun n w=>Q1 a false w (J3 P .not n) fun p w=>pick P a (.bool true) p w fun l w=>X1 l (K (.tuple #[(.string ⟨#[]⟩),(.string ⟨#[]⟩),(.int .i64 30)]) w) (K (.tuple #[f,d,(.int .i64 0)]) w)
theorem Q69 {a:Value} {w:World} {K:Value→World→Prop} (h:Az a w K):Q0 P F.bl [a] w K:=Q8 (List.replicate 6 none) Tryz.func130 rfl (by decide) (by kernel_rfl) h
end Go.Proofs.YtfppjenblllfaaaGreatDoor

set_option maxRecDepth 100000
namespace Go.Proofs.YtfppjenblllfaaaGreatDoor
open Go.Emb
def Q1S (d:Value) (w:World) (K:Value→World→Prop):Prop:= Q0 P F.cu [d] w fun c w=>ext P c 0 w fun f w=>ext P c 1 w fun e w=>Q0 P F.z [d] w fun a w=>J3 P .not a w fun b w=>X1 b (K (.int .i64 0) w) (K e w)
theorem Q71 {a:Value} {w:World} {K:Value→World→Prop} (h:Q1S a w K):Q0 P F.cO [a] w K:=Q8 (List.replicate 6 none) Tryz.func228 rfl (by decide) (by kernel_rfl) h
def Q7C:W1:=[none,none,none,none,none,none,none,some ([27],[27,28,29]),none,none,none,none,none,none]
def Q1G (h a:Value) (w:World) (K:Value→World→Prop):Prop:= Q3 P .eql T.a (.tmp 8) (.const (.string ⟨#[119,111,114,100]⟩)) h (.string ⟨#[119,111,114,100]⟩) w fun t w=>X1 t (X5 P .len [T.a] T.e [false] [a] w fun l w=>Q3 P .leq T.e (.tmp 12) (.const (.int .i64 64)) l (.int .i64 64) w fun e w=>Q1 e true w (fun w J=>J a w) fun E w=>Q1 e true w (Q0 P F.bZ [E]) fun z w=>pick P e z (.bool false) w fun d w=>Q1 d true w (fun w J=>J a w) fun A w=>Q1 d true w (Q0 P F.cD [A,(.string ⟨#[10]⟩)]) fun o w=>Q1 d true w (J3 P .not o) fun D w=>pick P d D (.bool false) w fun H w=>K H w) (Q3 P .eql T.a (.tmp 8) (.const (.string ⟨#[110,101,119]⟩)) h (.string ⟨#[110,101,119]⟩) w fun s w=>X1 s (Q0 P F.aj [a] w fun n w=>K n w) (jn (α:=Value) w (fun L w=>Q3 P .eql T.a (.tmp 8) (.const (.string ⟨#[105,115]⟩)) h (.string ⟨#[105,115]⟩) w fun g w=>X1 g (L g w) (Q3 P .eql T.a (.tmp 8) (.const (.string ⟨#[99,97,115,116]⟩)) h (.string ⟨#[99,97,115,116]⟩) w fun p w=>L p w)) fun O Q w=>X1 O (Q0 P F.z [a] w fun b w=>Q1 b true w (fun w J=>J a w) fun v w=>Q1 b true w (Q0 P F.ad [v]) fun u w=>Q1 b true w (J3 P .not u) fun m w=>pick P b m (.bool false) w fun B w=>K B w) (Q3 P .eql T.a (.tmp 8) (.const (.string ⟨#[97,114,114,97,121]⟩)) h (.string ⟨#[97,114,114,97,121]⟩) w fun k w=>X1 k (Q0 P F.z [a] w fun c w=>Q1 c true w (fun w J=>J a w) fun j w=>Q1 c true w (Q0 P F.cO [j]) fun i w=>Q1 c true w (Q3 P .lss T.e (.tmp 43) (.const (.int .i64 3)) i (.int .i64 3)) fun r w=>pick P c r (.bool false) w fun y w=>K y w) (Q0 P F.bl [a] w fun f w=>ext P f 0 w fun N w=>ext P f 1 w fun M w=>ext P f 2 w fun C w=>Q3 P .eql T.s (.tmp 52) (.const (.int .i64 0)) C (.int .i64 0) w fun q w=>K q w))))
theorem Q76 {b a:Value} {w:World} {K:Value→World→Prop} (h:Q1G b a w K):Q0 P F.cM [b,a] w K:=Q8 Q7C Tryz.func216 rfl (by decide) (by kernel_rfl) h
def Q5p:W1:=[none,none,none,none,none,some ([16],[16,17,18,19,20,21,22,23,24,25,26,27,28,29,30,31,32,33,34,35,36,37,38,39]),none,none,none,none]
def Q0J (B:Value) (w:World) (K:Value→World→Prop):Prop:= box P T.k B w fun a w=>fieldAddr P T.k a 0 w fun C w=>Q2 P T.a C w fun D w=>Q0 P F.cm [D] w fun o w=>ext P o 0 w fun p w=>ext P o 1 w fun b w=>ext P o 2 w fun j w=>J3 P .not j w fun v w=>X1 v (K (.int .i64 40) w) (jn (α:=Value) w (fun h w=>J3 P .not p w fun d w=>Q1 d true w (fieldAddr P T.k a 1) fun m w=>Q1 d true w (Q2 P T.ad m) fun u w=>Q1 d true w (Q3 P .neq T.ad (.tmp 21) (.const (.int .i64 0)) u (.int .i64 0)) fun z w=>pick P d z (.bool false) w fun e w=>X1 e (h e w) (J3 P .not b w fun c w=>Q1 c true w (fieldAddr P T.k a 2) fun k w=>Q1 c true w (Q2 P T.a k) fun g w=>Q1 c true w (Q3 P .neq T.a (.tmp 28) (.const (.string ⟨#[]⟩)) g (.string ⟨#[]⟩)) fun n w=>pick P c n (.bool false) w fun f w=>X1 f (h f w) (Q1 b true w (fieldAddr P T.k a 0) fun r w=>Q1 b true w (Q2 P T.a r) fun q w=>Q1 b true w (fieldAddr P T.k a 2) fun l w=>Q1 b true w (Q2 P T.a l) fun s w=>Q1 b true w (Q0 P F.cM [q,s]) fun y w=>Q1 b true w (J3 P .not y) fun i w=>pick P b i (.bool false) w fun t w=>h t w))) fun A E w=>X1 A (K (.int .i64 41) w) (K (.int .i64 0) w))
theorem Q6v {a:Value} {w:World} {K:Value→World→Prop} (h:Q0J a w K):Q0 P F.cI [a] w K:=Q8 Q5p Tryz.func198 rfl (by decide) (by kernel_rfl) h
def Rv (e:Value) (w:World) (K:Value→World→Prop):Prop:= box P T.k e w fun a w=>Q2 P T.k a w fun c w=>Q0 P F.cI [c] w fun d w=>Q3 P .eql T.s (.tmp 4) (.const (.int .i64 0)) d (.int .i64 0) w fun b w=>K b w
theorem Q2m {a:Value} {w:World} {K:Value→World→Prop} (h:Rv a w K):Q0 P F.bv [a] w K:=Q8 (List.replicate 2 none) Tryz.func197 rfl (by decide) (by kernel_rfl) h
def Xy:W1:=[none,none,none,some ([8],[4,5,8,9,10,11,12,13,14,15,16,17,18]),none,none,none,none,none,none,none]
def C8 (g j:Value) (w:World) (K:Value→World→Prop):Prop:= X5 P .len [T.q] T.e [false] [g] w fun h w=>lp (α:=Value) (.int .i64 0) w fun a b k w=>Q3 P .lss T.e (.tmp 8) (.tmp 7) b h w fun i w=>X1 i (indexAddr P T.q g b w fun d w=>Q2 P T.p d w fun f w=>Z3 P j [f] w fun c w=>X1 c (K b w) (Q3 P .add T.e (.tmp 8) (.const (.int .i64 1)) b (.int .i64 1) w fun e w=>a e w)) (K (.int .i64 (-1)) w)
theorem Ye {b a:Value} {w:World} {K:Value→World→Prop} (h:C8 b a w K):Q0 P F.a5 [b,a] w K:=Q8 Xy Tryz.func229 rfl (by decide) (by kernel_rfl) h
def R5 (d c:Value) (w:World) (K:Value→World→Prop):Prop:= Q0 P F.a5 [d,c] w fun a w=>Q3 P .geq T.e (.tmp 7) (.const (.int .i64 0)) a (.int .i64 0) w fun b w=>K b w
theorem Qq {b a:Value} {w:World} {K:Value→World→Prop} (h:R5 b a w K):Q0 P F.q [b,a] w K:=Q8 (List.replicate 2 none) Tryz.func217 rfl (by decide) (by kernel_rfl) h
def Zf (g f:Value) (w:World) (K:Value→World→Prop):Prop:= box P T.p g w fun a w=>Q2 P T.ab f w fun e w=>Q2 P T.p a w fun d w=>Z3 P e [d] w fun b w=>J3 P .not b w fun c w=>K c w
theorem Hn {b a:Value} {w:World} {K:Value→World→Prop} (h:Zf b a w K):Q0 P F.c3 [b,a] w K:=Q8 (List.replicate 2 none) Tryz.func218 rfl (by decide) (by kernel_rfl) h
def Uj (f e:Value) (w:World) (K:Value→World→Prop):Prop:= box P T.ab e w fun a w=>N6 P (.func F.c3) [] [a] w fun b w=>Q0 P F.q [f,b] w fun c w=>J3 P .not c w fun d w=>K d w
theorem Sx {b a:Value} {w:World} {K:Value→World→Prop} (h:Uj b a w K):Q0 P F.ax [b,a] w K:=Q8 (List.replicate 2 none) Tryz.func199 rfl (by decide) (by kernel_rfl) h
def Fs (a0:Value) (w:World) (K:Value→World→Prop):Prop:= box P T.d a0 w fun b w=>fieldAddr P T.d b 0 w fun t5 w=>Q2 P T.a t5 w fun t6 w=>Q0 P F.bX [t6] w fun t7 w=>J3 P .not t7 w fun i w=>Q1 i false w (fieldAddr P T.d b 1) fun V w=>Q1 i false w (Q2 P T.c V) fun B w=>Q1 i false w (Q0 P F.a8 [B,(.func (.func F.z) #[] #[])]) fun t w=>Q1 i false w (J3 P .not t) fun p w=>pick P i (.bool true) p w fun c w=>Q1 c false w (fieldAddr P T.d b 2) fun ae w=>Q1 c false w (Q2 P T.a ae) fun al w=>Q1 c false w (Q3 P .neq T.a (.tmp 17) (.const (.string ⟨#[]⟩)) al (.string ⟨#[]⟩)) fun aa w=>Q1 c false w (fun w J=>J aa w) fun f w=>Q1 f true w (fieldAddr P T.d b 2) fun C w=>Q1 f true w (Q2 P T.a C) fun aj w=>Q1 f true w (Q0 P F.z [aj]) fun am w=>Q1 f true w (J3 P .not am) fun s w=>Q1 c false w (pick P f s (.bool false)) fun U w=>pick P c (.bool true) U w fun o w=>X1 o (K (.bool false) w) (fieldAddr P T.d b 3 w fun y w=>Q2 P T.o y w fun u w=>X1 u (fieldAddr P T.d b 4 w fun j w=>Q2 P T.e j w fun E w=>Q3 P .eql T.e (.tmp 29) (.const (.int .i64 0)) E (.int .i64 0) w fun e w=>Q1 e true w (fieldAddr P T.d b 5) fun L w=>Q1 e true w (Q2 P T.n L) fun Y w=>Q1 e true w (X5 P .len [T.n] T.e [false] [Y]) fun X w=>Q1 e true w (Q3 P .eql T.e (.tmp 34) (.const (.int .i64 0)) X (.int .i64 0)) fun v w=>pick P e v (.bool false) w fun g w=>Q1 g true w (fieldAddr P T.d b 6) fun q w=>Q1 g true w (Q2 P T.q q) fun ah w=>Q1 g true w (X5 P .len [T.q] T.e [false] [ah]) fun af w=>Q1 g true w (Q3 P .eql T.e (.tmp 40) (.const (.int .i64 0)) af (.int .i64 0)) fun ak w=>pick P g ak (.bool false) w fun m w=>K m w) (fieldAddr P T.d b 5 w fun l w=>Q2 P T.n l w fun R w=>X5 P .len [T.n] T.e [false] [R] w fun Z w=>L3 P T.e w fun H w=>Z6 P T.e H Z w fun _u w=>N6 P (.func F.bu) [] [H] w fun ab w=>Q2 P T.e H w fun ac w=>Q3 P .gtr T.e (.tmp 47) (.const (.int .i64 0)) ac (.int .i64 0) w fun a w=>Q1 a true w (fieldAddr P T.d b 4) fun r w=>Q1 a true w (Q2 P T.e r) fun ai w=>Q1 a true w (fieldAddr P T.d b 1) fun n w=>Q1 a true w (Q2 P T.c n) fun M w=>Q1 a true w (X5 P .len [T.c] T.e [false] [M]) fun ad w=>Q1 a true w (Q3 P .gtr T.e (.tmp 51) (.tmp 54) ai ad) fun Q w=>pick P a Q (.bool false) w fun h w=>Q1 h true w (fieldAddr P T.d b 5) fun ag w=>Q1 h true w (Q2 P T.n ag) fun A w=>Q1 h true w (Q0 P F.aw [A,(.func (.func F.bv) #[] #[])]) fun z w=>pick P h z (.bool false) w fun d w=>Q1 d true w (fieldAddr P T.d b 6) fun D w=>Q1 d true w (Q2 P T.q D) fun O w=>Q1 d true w (fun w J=>J ab w) fun N w=>Q1 d true w (Q0 P F.ax [O,N]) fun k w=>pick P d k (.bool false) w fun W w=>K W w))
theorem Q3D {a:Value} {w:World} {K:Value→World→Prop} (h:Fs a w K):Q0 P F.bn [a] w K:=Q8 (List.replicate 10 none) Tryz.func156 rfl (by decide) (by kernel_rfl) h
def Pn (a0:Value) (w:World) (K:Value→World→Prop):Prop:= box P T.b a0 w fun b w=>fieldAddr P T.b b 0 w fun t7 w=>Q2 P T.a t7 w fun t8 w=>fieldAddr P T.b b 1 w fun t9 w=>Q2 P T.a t9 w fun a5 w=>buildSlice P T.c 2 [(0,t8),(1,a5)] w fun R w=>fieldAddr P T.b b 2 w fun M w=>Q2 P T.c M w fun H w=>X5 P .append [T.c,T.c] T.c [false,false] [R,H] w fun t w=>dr w fun o u=>Q5 o (fun l=> ∀w,u w→R6 P T.c t (some (.int .i64 1)) none none w (dk o l w)) fun l=>Q5 o (fun f=> ∀w,u w→fieldAddr P T.b b 0 w (dk o f w)) fun f=>Q5 o (fun n=> ∀k w,u w→f k w→Q2 P T.a k w (dk o n w)) fun n=>∀r k p w,u w→l r w→f k w→n p w→ Q0 P F.ag [r,p] w fun af w=>fieldAddr P T.b b 7 w fun V w=>Q2 P T.g V w fun ai w=>Q0 P F.a [ai,(.func (.func F.cn) #[] #[])] w fun bd w=>fieldAddr P T.b b 7 w fun ao w=>Q2 P T.g ao w fun a4 w=>Q0 P F.a [a4,(.func (.func F.co) #[] #[])] w fun E w=>Q0 P F.a8 [t,(.func (.func F.aj) #[] #[])] w fun y w=>J3 P .not y w fun s w=>Q1 s false w (fun w J=>J af w) fun ae w=>pick P s (.bool true) ae w fun c w=>Q1 c false w (fieldAddr P T.b b 2) fun a6 w=>Q1 c false w (Q2 P T.c a6) fun aq w=>Q1 c false w (Q0 P F.aW [aq,(.func (.func F.cp) #[] #[])]) fun ag w=>Q1 c false w (J3 P .not ag) fun bc w=>pick P c (.bool true) bc w fun L w=>X1 L (K (.bool false) w) (fieldAddr P T.b b 3 w fun ba w=>Q2 P T.o ba w fun a w=>Q1 a true w (fieldAddr P T.b b 4) fun am w=>Q1 a true w (Q2 P T.o am) fun a2 w=>Q1 a true w (J3 P .not a2) fun ac w=>Q1 a true w (fun w J=>J ac w) fun i w=>Q1 i false w (fieldAddr P T.b b 1) fun a8 w=>Q1 i false w (Q2 P T.a a8) fun ah w=>Q1 i false w (Q3 P .neq T.a (.tmp 48) (.const (.string ⟨#[79,98,106,101,99,116]⟩)) ah (.string ⟨#[79,98,106,101,99,116]⟩)) fun ay w=>Q1 a true w (pick P i (.bool true) ay) fun ap w=>Q1 a true w (fun w J=>J ap w) fun e w=>Q1 e false w (fieldAddr P T.b b 6) fun D w=>Q1 e false w (Q2 P T.i D) fun W w=>Q1 e false w (X5 P .len [T.i] T.e [false] [W]) fun a9 w=>Q1 e false w (Q3 P .gtr T.e (.tmp 54) (.const (.int .i64 0)) a9 (.int .i64 0)) fun az w=>Q1 a true w (pick P e (.bool true) az) fun ak w=>Q1 a true w (fun w J=>J ak w) fun q w=>Q1 q false w (fun w J=>J E w) fun bb w=>Q1 a true w (pick P q (.bool true) bb) fun O w=>pick P a O (.bool false) w fun ar w=>X1 ar (K (.bool false) w) (fieldAddr P T.b b 4 w fun ab w=>Q2 P T.o ab w fun m w=>Q1 m true w (fieldAddr P T.b b 5) fun X w=>Q1 m true w (Q2 P T.o X) fun z w=>pick P m z (.bool false) w fun g w=>Q1 g false w (fun w J=>J bd w) fun an w=>Q1 g false w (fun w J=>J an w) fun j w=>Q1 j true w (fieldAddr P T.b b 4) fun a3 w=>Q1 j true w (Q2 P T.o a3) fun v w=>Q1 j true w (J3 P .not v) fun av w=>Q1 g false w (pick P j av (.bool false)) fun a1 w=>pick P g (.bool true) a1 w fun aa w=>X1 aa (K (.bool false) w) (fieldAddr P T.b b 6 w fun al w=>Q2 P T.i al w fun ad w=>Q0 P F.aB [ad,(.func (.func F.cq) #[] #[])] w fun ax w=>J3 P .not ax w fun d w=>Q1 d false w (fieldAddr P T.b b 7) fun B w=>Q1 d false w (Q2 P T.g B) fun C w=>Q1 d false w (Q0 P F.ar [C,(.func (.func F.cr) #[] #[])]) fun a7 w=>Q1 d false w (J3 P .not a7) fun Y w=>pick P d (.bool true) Y w fun A w=>X1 A (K (.bool false) w) (fieldAddr P T.b b 6 w fun Z w=>Q2 P T.i Z w fun aj w=>Q0 P F.au [aj,(.func (.func F.bK) #[] #[])] w fun h w=>Q1 h true w (fieldAddr P T.b b 7) fun U w=>Q1 h true w (Q2 P T.g U) fun aw w=>Q1 h true w (Q0 P F.ao [aw,(.func (.func F.bn) #[] #[])]) fun Q w=>pick P h Q (.bool false) w fun N w=>K N w))))
theorem Q54 {a:Value} {w:World} {K:Value→World→Prop} (h:Pn a w K):Q0 P F.cy [a] w K:=Q8 (List.replicate 15 none) Tryz.func95 rfl (by decide) (by kernel_rfl) h
def Ps (g:Value) (w:World) (K:Value→World→Prop):Prop:= box P T.b g w fun a w=>Q2 P T.b a w fun f w=>Q0 P F.cH [f] w fun c w=>X1 c (K (.int .i64 51) w) (Q2 P T.b a w fun b w=>Q0 P F.cy [b] w fun e w=>J3 P .not e w fun d w=>X1 d (K (.int .i64 50) w) (K (.int .i64 0) w))
theorem Q4U {a:Value} {w:World} {K:Value→World→Prop} (h:Ps a w K):Q0 P F.cw [a] w K:=Q8 (List.replicate 7 none) Tryz.func45 rfl (by decide) (by kernel_rfl) h
def C9 (a:Value) (w:World) (K:Value→World→Prop):Prop:= Q3 P .eql T.c (.tmp 3) (.const (.slice none 0 0)) a (.slice none 0 0) w fun d w=>X1 d (K (.slice none 0 0) w) (buildSlice P T.c 0 [] w fun c w=>X5 P .append [T.c,T.c] T.c [false,false] [c,a] w fun b w=>K b w)
theorem T3 {a:Value} {w:World} {K:Value→World→Prop} (h:C9 a w K):Q0 P F.b [a] w K:=Q8 (List.replicate 5 none) Tryz.func35 rfl (by decide) (by kernel_rfl) h
def G9 (a:Value) (w:World) (K:Value→World→Prop):Prop:= Q3 P .eql T.i (.tmp 3) (.const (.slice none 0 0)) a (.slice none 0 0) w fun d w=>X1 d (K (.slice none 0 0) w) (buildSlice P T.i 0 [] w fun c w=>X5 P .append [T.i,T.i] T.i [false,false] [c,a] w fun b w=>K b w)
theorem Zz {a:Value} {w:World} {K:Value→World→Prop} (h:G9 a w K):Q0 P F.aa [a] w K:=Q8 (List.replicate 5 none) Tryz.func96 rfl (by decide) (by kernel_rfl) h
def G4 (a:Value) (w:World) (K:Value→World→Prop):Prop:= Q3 P .eql T.n (.tmp 3) (.const (.slice none 0 0)) a (.slice none 0 0) w fun d w=>X1 d (K (.slice none 0 0) w) (buildSlice P T.n 0 [] w fun c w=>X5 P .append [T.n,T.n] T.n [false,false] [c,a] w fun b w=>K b w)
theorem Jd {a:Value} {w:World} {K:Value→World→Prop} (h:G4 a w K):Q0 P F.ab [a] w K:=Q8 (List.replicate 5 none) Tryz.func157 rfl (by decide) (by kernel_rfl) h
def G8 (a:Value) (w:World) (K:Value→World→Prop):Prop:= Q3 P .eql T.q (.tmp 3) (.const (.slice none 0 0)) a (.slice none 0 0) w fun d w=>X1 d (K (.slice none 0 0) w) (buildSlice P T.q 0 [] w fun c w=>X5 P .append [T.q,T.q] T.q [false,false] [c,a] w fun b w=>K b w)
theorem Zy {a:Value} {w:World} {K:Value→World→Prop} (h:G8 a w K):Q0 P F.ac [a] w K:=Q8 (List.replicate 5 none) Tryz.func158 rfl (by decide) (by kernel_rfl) h
def Pk (D:Value) (w:World) (K:Value→World→Prop):Prop:= box P T.d D w fun a w=>L3 P T.d w fun B w=>dr w fun b c=>Q5 b (fun r=> ∀w,c w→fieldAddr P T.d a 1 w (dk b r w)) fun r=>Q5 b (fun m=> ∀w,c w→fieldAddr P T.d a 5 w (dk b m w)) fun m=>Q5 b (fun s=> ∀w,c w→fieldAddr P T.d a 6 w (dk b s w)) fun s=>Q5 b (fun l=> ∀o w,c w→r o w→Q2 P T.c o w (dk b l w)) fun l=>Q5 b (fun u=> ∀q w,c w→l q w→Q0 P F.b [q] w (dk b u w)) fun u=>Q5 b (fun k=> ∀j w,c w→m j w→Q2 P T.n j w (dk b k w)) fun k=>Q5 b (fun y=> ∀n w,c w→k n w→Q0 P F.ab [n] w (dk b y w)) fun y=>Q5 b (fun e=> ∀p w,c w→s p w→Q2 P T.q p w (dk b e w)) fun e=>Q5 b (fun g=> ∀w,c w→fieldAddr P T.d a 1 w (dk b g w)) fun g=>Q5 b (fun f=> ∀d w,c w→e d w→Q0 P F.ac [d] w (dk b f w)) fun f=>∀o j p q A n C d h i w,c w→r o w→m j w→s p w→l q w→u A w→k n w→y C w→e d w→g h w→f i w→ Z6 P T.c h A w fun _u w=>fieldAddr P T.d a 5 w fun t w=>Z6 P T.n t C w fun _u w=>fieldAddr P T.d a 6 w fun v w=>Z6 P T.q v i w fun _u w=>Q2 P T.d a w fun z w=>Z6 P T.d B z w fun _u w=>W2 P T.d B w fun E=>K E w
theorem Q4V {a:Value} {w:World} {K:Value→World→Prop} (h:Pk a w K):Q0 P F.c8 [a] w K:=Q8 (List.replicate 3 none) Tryz.func97 rfl (by decide) (by kernel_rfl) h
def Q52:W1:=[none,none,none,none,none,some ([3,17],[3,5,17,18,19,20,21,22,23,24,25,26]),none,none,none,none,none,none]
def Pm (Q:Value) (w:World) (K:Value→World→Prop):Prop:= box P T.b Q w fun a w=>L3 P T.b w fun N w=>dr w fun b g=>Q5 b (fun p=> ∀w,g w→fieldAddr P T.b a 2 w (dk b p w)) fun p=>Q5 b (fun s=> ∀w,g w→fieldAddr P T.b a 6 w (dk b s w)) fun s=>Q5 b (fun o=> ∀n w,g w→p n w→Q2 P T.c n w (dk b o w)) fun o=>Q5 b (fun L=> ∀q w,g w→o q w→Q0 P F.b [q] w (dk b L w)) fun L=>Q5 b (fun f=> ∀r w,g w→s r w→Q2 P T.i r w (dk b f w)) fun f=>Q5 b (fun i=> ∀w,g w→fieldAddr P T.b a 2 w (dk b i w)) fun i=>Q5 b (fun h=> ∀e w,g w→f e w→Q0 P F.aa [e] w (dk b h w)) fun h=>∀n r q O e j k w,g w→p n w→s r w→o q w→L O w→f e w→i j w→h k w→ Z6 P T.c j O w fun _u w=>fieldAddr P T.b a 6 w fun u w=>Z6 P T.i u k w fun _u w=>fieldAddr P T.b a 7 w fun J w=>Q2 P T.g J w fun m w=>X5 P .len [T.g] T.e [false] [m] w fun E w=>lp (α:=Value×Value) ((.slice none 0 0),(.int .i64 0)) w fun d l U w=>Q3 P .lss T.e (.tmp 17) (.tmp 16) l.2 E w fun D w=>X1 D (indexAddr P T.g m l.2 w fun H w=>Q2 P T.d H w fun A w=>L3 P T.d w fun c w=>Z6 P T.d c A w fun _u w=>Q2 P T.d c w fun M w=>Q0 P F.c8 [M] w fun y w=>buildSlice P T.g 1 [(0,y)] w fun C w=>X5 P .append [T.g,T.g] T.g [false,false] [l.1,C] w fun v w=>Q3 P .add T.e (.tmp 17) (.const (.int .i64 1)) l.2 (.int .i64 1) w fun z w=>d (v,z) w) (fieldAddr P T.b a 7 w fun t w=>Z6 P T.g t l.1 w fun _u w=>Q2 P T.b a w fun B w=>Z6 P T.b N B w fun _u w=>W2 P T.b N w fun R=>K R w)
theorem Q51 {a:Value} {w:World} {K:Value→World→Prop} (h:Pm a w K):Q0 P F.cx [a] w K:=Q8 Q52 Tryz.func46 rfl (by decide) (by kernel_rfl) h
def Ws (r u:Value) (w:World) (K:Value→World→Prop):Prop:= L3 P T.b w fun s w=>dr w fun a h=>Q5 a (fun m=> ∀w,h w→nilCheck P r w (dk a m w)) fun m=>Q5 a (fun l=> ∀k w,h w→m k w→fieldAddr P T.u k 0 w (dk a l w)) fun l=>Q5 a (fun f=> ∀w,h w→nilCheck P r w (dk a f w)) fun f=>Q5 a (fun b=> ∀e w,h w→f e w→fieldAddr P T.u e 1 w (dk a b w)) fun b=>Q5 a (fun p=> ∀n w,h w→l n w→Q2 P T.h n w (dk a p w)) fun p=>Q5 a (fun g=> ∀d w,h w→b d w→Q2 P T.w d w (dk a g w)) fun g=>Q5 a (fun i=> ∀c w,h w→g c w→lookup P T.w c u false w (dk a i w)) fun i=>∀k n e d t c j w,h w→m k w→l n w→f e w→b d w→p t w→g c w→i j w→ indexAddr P T.h t j w fun q w=>Q2 P T.b q w fun o w=>Z6 P T.b s o w fun _u w=>W2 P T.b s w fun v=>K v w
theorem Gx {b a:Value} {w:World} {K:Value→World→Prop} (h:Ws b a w K):Q0 P F.h [b,a] w K:=Q8 (List.replicate 2 none) Tryz.func60 rfl (by decide) (by kernel_rfl) h
def Fe:W1:=[none,none,none,none,none,none,some ([29],[4,6,29,30,31,32,33,34,35,36,37,38,39,40,41,42,43,44]),none,none,none,none,none,none,none]
def Vs (f O:Value) (w:World) (K:Value→World→Prop):Prop:= box P T.b O w fun a w=>fieldAddr P T.b a 1 w fun R w=>Q2 P T.a R w fun Q w=>Q0 P F.n [f,Q] w fun v w=>J3 P .not v w fun b w=>Q1 b false w (fun w J=>J f w) fun m w=>Q1 b false w (fieldAddr P T.b a 1) fun C w=>Q1 b false w (Q2 P T.a C) fun M w=>Q1 b false w (Q0 P F.h [m,M]) fun A w=>Q1 b false w (We P T.b A 3) fun L w=>pick P b (.bool true) L w fun c w=>Q1 c false w (fun w J=>J f w) fun r w=>Q1 c false w (fieldAddr P T.b a 1) fun E w=>Q1 c false w (Q2 P T.a E) fun N w=>Q1 c false w (Q0 P F.h [r,N]) fun o w=>Q1 c false w (We P T.b o 5) fun u w=>pick P c (.bool true) u w fun l w=>X1 l (K (.int .i64 61) w) (fieldAddr P T.b a 2 w fun q w=>Q2 P T.c q w fun g w=>X5 P .len [T.c] T.e [false] [g] w fun i w=>lp (α:=Value) (.int .i64 0) w fun e s U w=>Q3 P .lss T.e (.tmp 29) (.tmp 28) s i w fun y w=>X1 y (indexAddr P T.c g s w fun z w=>Q2 P T.a z w fun h w=>Q0 P F.n [f,h] w fun p w=>J3 P .not p w fun d w=>Q1 d false w (fun w J=>J f w) fun n w=>Q1 d false w (fun w J=>J h w) fun D w=>Q1 d false w (Q0 P F.h [n,D]) fun B w=>Q1 d false w (We P T.b B 3) fun H w=>Q1 d false w (J3 P .not H) fun k w=>pick P d (.bool true) k w fun j w=>X1 j (K (.int .i64 62) w) (Q3 P .add T.e (.tmp 29) (.const (.int .i64 1)) s (.int .i64 1) w fun t w=>e t w)) (K (.int .i64 0) w))
theorem Fw {b a:Value} {w:World} {K:Value→World→Prop} (h:Vs b a w K):Q0 P F.bp [b,a] w K:=Q8 Fe Tryz.func47 rfl (by decide) (by kernel_rfl) h
def Yd:W1:=[none,none,none,some ([8],[4,5,8,9,10,11,12,13,14,15,16,17,18]),none,none,none,none,none,none,none]
def C5 (g j:Value) (w:World) (K:Value→World→Prop):Prop:= X5 P .len [T.h] T.e [false] [g] w fun h w=>lp (α:=Value) (.int .i64 0) w fun a b k w=>Q3 P .lss T.e (.tmp 8) (.tmp 7) b h w fun i w=>X1 i (indexAddr P T.h g b w fun d w=>Q2 P T.b d w fun f w=>Z3 P j [f] w fun c w=>X1 c (K b w) (Q3 P .add T.e (.tmp 8) (.const (.int .i64 1)) b (.int .i64 1) w fun e w=>a e w)) (K (.int .i64 (-1)) w)
theorem Yc {b a:Value} {w:World} {K:Value→World→Prop} (h:C5 b a w K):Q0 P F.s [b,a] w K:=Q8 Yd Tryz.func48 rfl (by decide) (by kernel_rfl) h
def Ki:W1:=[none,none,none,some ([7],[6,7,9,10,11,12,16,17,18,19,20,21,22,23,24,25,26,27,28,29,30,31,32,33,34,35,36,37,38,39,40,41,42,43,44,45,46,47,48,49,50,51,52]),none,none,none,none,none,none,none,none,none,none,none,none,none]
def Mq (R W V:Value) (w:World) (K:Value→World→Prop):Prop:= buildSlice P T.c 1 [(0,W)] w fun M w=>Cn P T.w none w fun u w=>lp (α:=Value) M w fun b y X w=>X5 P .len [T.c] T.e [false] [y] w fun Q w=>Q3 P .gtr T.e (.tmp 17) (.const (.int .i64 0)) Q (.int .i64 0) w fun L w=>X1 L (indexAddr P T.c y (.int .i64 0) w fun B w=>Q2 P T.a B w fun l w=>R6 P T.c y (some (.int .i64 1)) none none w fun r w=>lookup P T.w u l true w fun q w=>ext P q 0 w fun U w=>ext P q 1 w fun d w=>Q1 d false w (fun w J=>J R w) fun C w=>Q1 d false w (fun w J=>J l w) fun H w=>Q1 d false w (Q0 P F.n [C,H]) fun E w=>Q1 d false w (J3 P .not E) fun A w=>pick P d (.bool true) A w fun N w=>X1 N (b r w) (mapUpdate P T.w u l (.int .i64 1) w fun _u w=>Q0 P F.h [R,l] w fun O w=>L3 P T.b w fun a w=>Z6 P T.b a O w fun _u w=>Q2 P T.b a w fun v w=>Z3 P V [v] w fun D w=>X1 D (K (.bool true) w) (dr w fun c n=>Q5 c (fun h=> ∀w,n w→fieldAddr P T.b a 1 w (dk c h w)) fun h=>Q5 c (fun k=> ∀w,n w→fieldAddr P T.b a 2 w (dk c k w)) fun k=>Q5 c (fun g=> ∀i w,n w→h i w→Q2 P T.a i w (dk c g w)) fun g=>Q5 c (fun f=> ∀j w,n w→g j w→buildSlice P T.c 1 [(0,j)] w (dk c f w)) fun f=>Q5 c (fun o=> ∀m w,n w→f m w→X5 P .append [T.c,T.c] T.c [false,false] [r,m] w (dk c o w)) fun o=>Q5 c (fun p=> ∀e w,n w→k e w→Q2 P T.c e w (dk c p w)) fun p=>∀i e j m s t w,n w→h i w→k e w→g j w→f m w→o s w→p t w→ X5 P .append [T.c,T.c] T.c [false,false] [s,t] w fun z w=>b z w))) (K (.bool false) w)
theorem Ku {c b a:Value} {w:World} {K:Value→World→Prop} (h:Mq c b a w K):Q0 P F.y [c,b,a] w K:=Q8 Ki Tryz.func99 rfl (by decide) (by kernel_rfl) h
def Zn (h g:Value) (w:World) (K:Value→World→Prop):Prop:= box P T.b h w fun a w=>fieldAddr P T.b a 0 w fun f w=>Q2 P T.a f w fun d w=>fieldAddr P T.b g 0 w fun b w=>Q2 P T.a b w fun c w=>Q3 P .eql T.a (.tmp 5) (.tmp 7) d c w fun e w=>K e w
theorem Rq {b a:Value} {w:World} {K:Value→World→Prop} (h:Zn b a w K):Q0 P F.c9 [b,a] w K:=Q8 (List.replicate 2 none) Tryz.func100 rfl (by decide) (by kernel_rfl) h
def Vd (f e b:Value) (w:World) (K:Value→World→Prop):Prop:= Q2 P T.r e w fun c w=>N6 P (.func F.c9) [] [b] w fun a w=>Q0 P F.y [c,f,a] w fun d w=>K d w
theorem Be {c b a:Value} {w:World} {K:Value→World→Prop} (h:Vd c b a w K):Q0 P F.bj [c,b,a] w K:=Q8 (List.replicate 2 none) Tryz.func98 rfl (by decide) (by kernel_rfl) h
def La (m l:Value) (w:World) (K:Value→World→Prop):Prop:= box P T.r m w fun c w=>box P T.b l w fun a w=>N6 P (.func F.bj) [] [c,a] w fun i w=>fieldAddr P T.b a 1 w fun k w=>Q2 P T.a k w fun j w=>Z3 P i [j] w fun b w=>Q1 b false w (fieldAddr P T.b a 2) fun f w=>Q1 b false w (Q2 P T.c f) fun g w=>Q1 b false w (fun w J=>J i w) fun e w=>Q1 b false w (Q0 P F.e [g,e]) fun h w=>pick P b (.bool true) h w fun d w=>K d w
theorem Km {b a:Value} {w:World} {K:Value→World→Prop} (h:La b a w K):Q0 P F.bw [b,a] w K:=Q8 (List.replicate 3 none) Tryz.func49 rfl (by decide) (by kernel_rfl) h
def Rb:W1:=[none,none,none,some ([8],[4,5,8,9,10,11,12,13,14,15,16,17,18]),none,none,none,none,none,none,none]
def Zp (g j:Value) (w:World) (K:Value→World→Prop):Prop:= X5 P .len [T.a0] T.e [false] [g] w fun h w=>lp (α:=Value) (.int .i64 0) w fun a b k w=>Q3 P .lss T.e (.tmp 8) (.tmp 7) b h w fun i w=>X1 i (indexAddr P T.a0 g b w fun d w=>Q2 P T.e d w fun f w=>Q3 P .eql T.e (.tmp 11) (.tmp 15) j f w fun c w=>X1 c (K b w) (Q3 P .add T.e (.tmp 8) (.const (.int .i64 1)) b (.int .i64 1) w fun e w=>a e w)) (K (.int .i64 (-1)) w)
theorem Ru {b a:Value} {w:World} {K:Value→World→Prop} (h:Zp b a w K):Q0 P F.ca [b,a] w K:=Q8 Rb Tryz.func160 rfl (by decide) (by kernel_rfl) h
def Xr (d c:Value) (w:World) (K:Value→World→Prop):Prop:= Q0 P F.ca [d,c] w fun a w=>Q3 P .geq T.e (.tmp 7) (.const (.int .i64 0)) a (.int .i64 0) w fun b w=>K b w
theorem Di {b a:Value} {w:World} {K:Value→World→Prop} (h:Xr b a w K):Q0 P F.aF [b,a] w K:=Q8 (List.replicate 2 none) Tryz.func103 rfl (by decide) (by kernel_rfl) h
def Bs:W1:=[none,none,none,none,some ([35],[7,35,36,37,38,39,40,41,42,43,44,45,46,47]),none,none,none,none]
def Qk (a0 a1 a2 a3 a4:Value) (w:World) (K:Value→World→Prop):Prop:= Q2 P T.e a1 w fun t9 w=>Q3 P .lss T.e (.tmp 8) (.tmp 9) a0 t9 w fun v w=>Q1 v false w (Q2 P T.a0 a2) fun al w=>Q1 v false w (fun w J=>J a0 w) fun ai w=>Q1 v false w (Q0 P F.aF [al,ai]) fun aq w=>pick P v (.bool true) aq w fun ax w=>X1 ax (K (.tuple #[]) w) (dr w fun a b=>Q5 a (fun i=> ∀w,b w→Q2 P T.r a3 w (dk a i w)) fun i=>Q5 a (fun r=> ∀H w,b w→i H w→nilCheck P H w (dk a r w)) fun r=>Q5 a (fun E=> ∀Q w,b w→r Q w→fieldAddr P T.u Q 0 w (dk a E w)) fun E=>Q5 a (fun y=> ∀C w,b w→E C w→Q2 P T.h C w (dk a y w)) fun y=>Q5 a (fun o=> ∀L w,b w→y L w→indexAddr P T.h L a0 w (dk a o w)) fun o=>Q5 a (fun t=> ∀N w,b w→o N w→fieldAddr P T.b N 1 w (dk a t w)) fun t=>Q5 a (fun A=> ∀V w,b w→t V w→Q2 P T.a V w (dk a A w)) fun A=>Q5 a (fun W=> ∀j w,b w→A j w→buildSlice P T.c 1 [(0,j)] w (dk a W w)) fun W=>Q5 a (fun B=> ∀w,b w→Q2 P T.r a3 w (dk a B w)) fun B=>Q5 a (fun s=> ∀h w,b w→B h w→nilCheck P h w (dk a s w)) fun s=>Q5 a (fun U=> ∀k w,b w→s k w→fieldAddr P T.u k 0 w (dk a U w)) fun U=>Q5 a (fun g=> ∀l w,b w→U l w→Q2 P T.h l w (dk a g w)) fun g=>Q5 a (fun p=> ∀c w,b w→g c w→indexAddr P T.h c a0 w (dk a p w)) fun p=>Q5 a (fun u=> ∀z w,b w→p z w→fieldAddr P T.b z 2 w (dk a u w)) fun u=>Q5 a (fun Y=> ∀D w,b w→u D w→Q2 P T.c D w (dk a Y w)) fun Y=>∀H Q C L N V j ac h k l c z D ab w,b w→i H w→r Q w→E C w→y L w→o N w→t V w→A j w→W ac w→B h w→s k w→U l w→g c w→p z w→u D w→Y ab w→ X5 P .append [T.c,T.c] T.c [false,false] [ac,ab] w fun ad w=>X5 P .len [T.c] T.e [false] [ad] w fun an w=>lp (α:=Value) (.int .i64 0) w fun q x4 d_ w=>Q3 P .lss T.e (.tmp 35) (.tmp 34) x4 an w fun ar w=>X1 ar (indexAddr P T.c ad x4 w fun am w=>Q2 P T.a am w fun aj w=>dr w fun a b=>Q5 a (fun X=> ∀w,b w→Q2 P T.ak a4 w (dk a X w)) fun X=>Q5 a (fun n=> ∀w,b w→Q2 P T.r a3 w (dk a n w)) fun n=>Q5 a (fun m=> ∀M w,b w→n M w→nilCheck P M w (dk a m w)) fun m=>Q5 a (fun R=> ∀O w,b w→m O w→fieldAddr P T.u O 1 w (dk a R w)) fun R=>Q5 a (fun d=> ∀f w,b w→R f w→Q2 P T.w f w (dk a d w)) fun d=>Q5 a (fun Z=> ∀e w,b w→d e w→lookup P T.w e aj false w (dk a Z w)) fun Z=>∀af M O f e ae w,b w→X af w→n M w→m O w→R f w→d e w→Z ae w→ Z3 P af [ae] w fun a6 w=>Q3 P .add T.e (.tmp 35) (.const (.int .i64 1)) x4 (.int .i64 1) w fun ap w=>q ap w) (Q2 P T.a0 a2 w fun aw w=>buildSlice P T.a0 1 [(0,a0)] w fun ak w=>X5 P .append [T.a0,T.a0] T.a0 [false,false] [aw,ak] w fun av w=>Z6 P T.a0 a2 av w fun _u w=>K (.tuple #[]) w))
theorem Uz {e d c a b:Value} {w:World} {K:Value→World→Prop} (h:Qk e d c a b w K):Q0 P F.a0 [e,d,c,a,b] w K:=Q8 Bs Tryz.func102 rfl (by decide) (by kernel_rfl) h
def Kx:W1:=[none,none,none,none,none,none,some ([7],[7,10,11,12,13,14,15,16,17,18,19,20,21]),none,none,none,none]
def Lz (q p:Value) (w:World) (K:Value→World→Prop):Prop:= box P T.r q w fun d w=>box P T.e p w fun b w=>L3 P T.a0 w fun c w=>L3 P T.ak w fun a w=>N6 P (.func F.a0) [] [b,c,d,a] w fun t w=>Z6 P T.ak a t w fun _u w=>Q2 P T.e b w fun r w=>lp (α:=Value) r w fun e i u w=>Q2 P T.r d w fun h w=>nilCheck P h w fun g w=>fieldAddr P T.u g 0 w fun f w=>Q2 P T.h f w fun m w=>X5 P .len [T.h] T.e [false] [m] w fun n w=>Q3 P .lss T.e (.tmp 10) (.tmp 15) i n w fun k w=>X1 k (Q2 P T.ak a w fun l w=>Z3 P l [i] w fun s w=>Q3 P .add T.e (.tmp 17) (.const (.int .i64 1)) i (.int .i64 1) w fun j w=>e j w) (Q2 P T.a0 c w fun o w=>K o w)
theorem Ix {b a:Value} {w:World} {K:Value→World→Prop} (h:Lz b a w K):Q0 P F.bx [b,a] w K:=Q8 Kx Tryz.func50 rfl (by decide) (by kernel_rfl) h
def Yw:W1:=[none,some ([2,3],[2,3,7,8,9,10,11,12,13,14,15,16,17,18,19,20,21,22,23,24,25,26,27]),none,none,none]
def F4 (l:Value) (w:World) (K:Value→World→Prop):Prop:= X5 P .len [T.h] T.e [false] [l] w fun s w=>Q3 P .sub T.e (.tmp 5) (.const (.int .i64 1)) s (.int .i64 1) w fun r w=>lp (α:=Value×Value) ((.int .i64 0),r) w fun e g u w=>Q3 P .lss T.e (.tmp 7) (.tmp 8) g.1 g.2 w fun t w=>X1 t (dr w fun f j=>Q5 f (fun a=> ∀w,j w→indexAddr P T.h l g.2 w (dk f a w)) fun a=>Q5 f (fun c=> ∀w,j w→indexAddr P T.h l g.1 w (dk f c w)) fun c=>Q5 f (fun h=> ∀b w,j w→a b w→Q2 P T.b b w (dk f h w)) fun h=>Q5 f (fun i=> ∀d w,j w→c d w→Q2 P T.b d w (dk f i w)) fun i=>∀b d m k w,j w→a b w→c d w→h m w→i k w→ indexAddr P T.h l g.1 w fun p w=>Z6 P T.b p m w fun _u w=>indexAddr P T.h l g.2 w fun o w=>Z6 P T.b o k w fun _u w=>Q3 P .add T.e (.tmp 10) (.const (.int .i64 1)) g.1 (.int .i64 1) w fun q w=>Q3 P .sub T.e (.tmp 12) (.const (.int .i64 1)) g.2 (.int .i64 1) w fun n w=>e (q,n) w) (K (.tuple #[]) w)
theorem Yx {a:Value} {w:World} {K:Value→World→Prop} (h:F4 a w K):Q0 P F.t [a] w K:=Q8 Yw Tryz.func167 rfl (by decide) (by kernel_rfl) h
def An:W1:=[none,none,none,none,some ([5,6],[5,6,8,9,10,11,12,13,14,15,16,17,18,19,20]),none,none,none,none,none]
def Nw (i j:Value) (w:World) (K:Value→World→Prop):Prop:= lp (α:=Value×Value) ((.slice none 0 0),j) w fun a b l w=>Q0 P F.n [i,b.2] w fun f w=>X1 f (Q0 P F.h [i,b.2] w fun c w=>buildSlice P T.h 1 [(0,c)] w fun d w=>X5 P .append [T.h,T.h] T.h [false,false] [b.1,d] w fun g w=>Q0 P F.h [i,b.2] w fun h w=>We P T.b h 1 w fun e w=>a (g,e) w) (Q0 P F.t [b.1] w fun k w=>K b.1 w)
theorem Tu {b a:Value} {w:World} {K:Value→World→Prop} (h:Nw b a w K):Q0 P F.aX [b,a] w K:=Q8 An Tryz.func166 rfl (by decide) (by kernel_rfl) h
def Ga:W1:=[none,none,none,none,some ([5,12],[5,7,12,13,14,15,16,17,18,19,20]),none,none,none,none,none]
def Wj (n m:Value) (w:World) (K:Value→World→Prop):Prop:= Q0 P F.aX [n,m] w fun c w=>X5 P .len [T.h] T.e [false] [c] w fun e w=>lp (α:=Value×Value) ((.slice none 0 0),(.int .i64 0)) w fun b d o w=>Q3 P .lss T.e (.tmp 12) (.tmp 11) d.2 e w fun j w=>X1 j (indexAddr P T.h c d.2 w fun g w=>Q2 P T.b g w fun l w=>L3 P T.b w fun a w=>Z6 P T.b a l w fun _u w=>fieldAddr P T.b a 6 w fun i w=>Q2 P T.i i w fun k w=>X5 P .append [T.i,T.i] T.i [false,false] [d.1,k] w fun f w=>Q3 P .add T.e (.tmp 12) (.const (.int .i64 1)) d.2 (.int .i64 1) w fun h w=>b (f,h) w) (K d.1 w)
theorem Fu {b a:Value} {w:World} {K:Value→World→Prop} (h:Wj b a w K):Q0 P F.af [b,a] w K:=Q8 Ga Tryz.func162 rfl (by decide) (by kernel_rfl) h
def Ux (g f:Value) (w:World) (K:Value→World→Prop):Prop:= box P T.l g w fun a w=>fieldAddr P T.l a 0 w fun e w=>Q2 P T.a e w fun d w=>Q2 P T.a f w fun b w=>Q3 P .eql T.a (.tmp 5) (.tmp 6) d b w fun c w=>K c w
theorem Bm {b a:Value} {w:World} {K:Value→World→Prop} (h:Ux b a w K):Q0 P F.cj [b,a] w K:=Q8 (List.replicate 2 none) Tryz.func163 rfl (by decide) (by kernel_rfl) h
def Ma (g f d:Value) (w:World) (K:Value→World→Prop):Prop:= box P T.a d w fun a w=>Q0 P F.af [g,f] w fun e w=>N6 P (.func F.cj) [] [a] w fun c w=>Q0 P F.o [e,c] w fun b w=>K b w
theorem Iq {c b a:Value} {w:World} {K:Value→World→Prop} (h:Ma c b a w K):Q0 P F.aJ [c,b,a] w K:=Q8 (List.replicate 2 none) Tryz.func104 rfl (by decide) (by kernel_rfl) h
def Qo (e d:Value) (w:World) (K:Value→World→Prop):Prop:= nilCheck P e w fun a w=>indexAddr P T.a5 a d w fun c w=>Q2 P T.o c w fun b w=>K b w
theorem Nd {b a:Value} {w:World} {K:Value→World→Prop} (h:Qo b a w K):Q0 P F.az [b,a] w K:=Q8 (List.replicate 2 none) Tryz.func135 rfl (by decide) (by kernel_rfl) h
def Rw:W1:=[none,some ([0],[0,5,6,7,8,9,10,11,12,13,14,15,16,17,18,19,20]),some ([0],[0,5,6,7,8,9,10,11,12,13,14,15,16,17,18,19,20]),none,none,none,none,none]
def Ja (o n:Value) (w:World) (K:Value→World→Prop):Prop:= jn (α:=Value) w (fun k w=>lp (α:=Value) o w fun a b m w=>X5 P .len [T.a] T.e [false] [b] w fun l w=>Q3 P .gtr T.e (.tmp 6) (.const (.int .i64 0)) l (.int .i64 0) w fun p w=>X1 p (X5 P .len [T.a] T.e [false] [b] w fun e w=>Q3 P .sub T.e (.tmp 11) (.const (.int .i64 1)) e (.int .i64 1) w fun d w=>H2 P T.a b d w fun c w=>Q0 P F.az [n,c] w fun i w=>J3 P .not i w fun j w=>X1 j (k b w) (X5 P .len [T.a] T.e [false] [b] w fun g w=>Q3 P .sub T.e (.tmp 18) (.const (.int .i64 1)) g (.int .i64 1) w fun h w=>R6 P T.a b none (some h) none w fun f w=>a f w)) (k b w)) fun q m w=>K q w
theorem Ra {b a:Value} {w:World} {K:Value→World→Prop} (h:Ja b a w K):Q0 P F.al [b,a] w K:=Q8 Rw Tryz.func89 rfl (by decide) (by kernel_rfl) h
end Go.Proofs.YtfppjenblllfaaaGreatDoor
