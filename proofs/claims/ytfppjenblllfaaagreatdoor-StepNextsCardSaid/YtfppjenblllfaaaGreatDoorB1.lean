/- Parts of a proof about the given program: its functions as texts of their own, what each computes, plain laws of that. The conditions of each stand in its statement. -/
import Derived.WalkKit
import Derived.Test.YtfppjenblllfaaaGreatDoorProg
import Derived.KernelRfl
set_option linter.unnecessarySimpa false
set_option linter.defProp false
set_option linter.unusedSectionVars false
set_option linter.unusedVariables false
set_option linter.unusedSimpArgs false
namespace Go.Emb
def Qf (P:Program) (s:Sem Next) (w:World) (K:Value→World→Prop):Prop:=
 match s.run P w with
 | .ok (.value v) w'=>K v w'
 | .ok .skip w'=>K undef w'
 | .ok (.enter f a) w'=>Calls P f a w' fun e b=>match e with | .returned v=>K v b | _=>False
 | .ok (.row row a) w'=>Rows P row a w' K
 | _=>False
theorem X0g: ∃f:Program→Sem Next→World→(Value→World→Prop)→Prop,f=Qf:=⟨_,rfl⟩
noncomputable def op:Program→Sem Next→World→(Value→World→Prop)→Prop:=Classical.choose X0g
theorem Xb:op=Qf:=Classical.choose_spec X0g
theorem X2i {P:Program} {o:Oper} {a:Act} {w:World} {next:Act→World→Prop} {Q:Exit→Act→World→Prop}
 (h:op P (execOp a.eval o) w (fun v w=>next (a.put o.dst v) w)):o.wp P a w next Q:=by
 unfold Oper.wp
 rw[Xb] at h
 unfold Qf at h
 cases c:(execOp a.eval o).run P w with
 | halt x w'=>rw[c] at h;exact h.elim
 | ok n w'=>
  rw[c] at h
  cases n<;>simp only at h<;>try exact h.elim
  ·exact h
  ·exact h
  ·refine Calls.mono h fun e d b=>?_
   cases e<;>first | exact b | exact b.elim
  ·exact h
theorem Dy {P:Program} {s:Sem Next} {K c:Value→World→Prop} {w:World} (a: ∀v w,K v w→c v w) (h:op P s w K):op P s w c:=by
 rw[Xb] at*
 unfold Qf at*
 cases d:s.run P w with
 | halt x w'=>rw[d] at h;exact h.elim
 | ok n w'=>
  rw[d] at h
  cases n<;>simp only at h⊢ <;>try exact h.elim
  ·exact a _ _ h
  ·exact a _ _ h
  ·refine Calls.mono h fun e f b=>?_
   cases e<;>first | exact a _ _ b | exact b.elim
  ·exact h.mono a
def sv (s:Sem Value):Sem Next:=do Pure.pure (.value (←s))
def su (s:Sem Unit):Sem Next:=do s;Pure.pure .skip
section
variable (P : Program)
noncomputable def pick (c a b:Value) (w:World) (K:Value→World→Prop):Prop:=op P (do Pure.pure (.value (if←asBool c then a else b))) w K
noncomputable def W7 (e:TypeId) (w:World) (K:Value→World→Prop):Prop:=op P (sv (Instr.alloc e true (.tuple #[]))) w K
noncomputable def box (e:TypeId) (x:Value) (w:World) (K:Value→World→Prop):Prop:=op P (sv (Instr.box e x)) w K
noncomputable def O7 (t:TypeId) (a:List (Nat×Value)) (w:World) (K:Value→World→Prop):Prop:=op P (sv (Instr.build t a.toArray)) w K
noncomputable def buildSlice (t:TypeId) (n:Nat) (a:List (Nat×Value)) (w:World) (K:Value→World→Prop):Prop:=op P (sv (Instr.buildSlice t n a.toArray)) w K
noncomputable def Q2 (t:TypeId) (a:Value) (w:World) (K:Value→World→Prop):Prop:=op P (sv (Instr.loadAt t a)) w K
noncomputable def Z4 (t:TypeId) (a x:Value) (w:World) (K:Value→World→Prop):Prop:=op P (su (Instr.storeAt t a x)) w K
noncomputable def nilCheck (x:Value) (w:World) (K:Value→World→Prop):Prop:=op P (execOp (fun _=>x) {dst:=none,op:= .nilCheck (.const x),type:=0,pos:= "",after:= #[],guard:=none}) w K
noncomputable def Q3 (o:BinOp) (t:TypeId) (b a:Operand) (x y:Value) (w:World) (K:Value→World→Prop):Prop:=op P (sv (do eqGuard o t b a x y;Go.binOp o t x y)) w K
noncomputable def J5 (o:UnOp) (x:Value) (w:World) (K:Value→World→Prop):Prop:=op P (sv (Op.unary o x)) w K
noncomputable def conv (s d:TypeId) (x:Value) (w:World) (K:Value→World→Prop):Prop:=op P (sv (Go.convert s d x)) w K
noncomputable def X0E (t:TypeId) (x:Value) (w:World) (K:Value→World→Prop):Prop:=op P (sv (Instr.makeInterface t x)) w K
noncomputable def M4 (f:Fn) (first caps:List Value) (w:World) (K:Value→World→Prop):Prop:=op P (sv (Instr.makeFunc f first.toArray caps.toArray)) w K
noncomputable def Ru (t:TypeId) (r:Option Value) (w:World) (K:Value→World→Prop):Prop:=op P (sv (Instr.makeMap t r)) w K
noncomputable def Nn (t:TypeId) (n c:Value) (w:World) (K:Value→World→Prop):Prop:=op P (sv (Instr.makeSlice t n c)) w K
noncomputable def E9 (t:TypeId) (x:Value) (a c b:Option Value) (w:World) (K:Value→World→Prop):Prop:=op P (sv (Instr.sliceAt t x a c b)) w K
noncomputable def fieldAddr (t:TypeId) (x:Value) (f:Nat) (w:World) (K:Value→World→Prop):Prop:=op P (sv (Instr.fieldAt t x f)) w K
noncomputable def We (t:TypeId) (x:Value) (f:Nat) (w:World) (K:Value→World→Prop):Prop:=op P (sv (Instr.field t x f)) w K
noncomputable def indexAddr (t:TypeId) (x i:Value) (w:World) (K:Value→World→Prop):Prop:=op P (sv (Instr.indexAt t x i)) w K
noncomputable def E1 (t:TypeId) (x i:Value) (w:World) (K:Value→World→Prop):Prop:=op P (sv (Instr.index t x i)) w K
noncomputable def lookup (t:TypeId) (x i:Value) (ok:Bool) (w:World) (K:Value→World→Prop):Prop:=op P (sv (Instr.lookup t x i ok)) w K
noncomputable def mapUpdate (t:TypeId) (m k x:Value) (w:World) (K:Value→World→Prop):Prop:=op P (su (Instr.mapUpdate t m k x)) w K
noncomputable def mapEntry (t:TypeId) (m k:Value) (w:World) (K:Value→World→Prop):Prop:=op P (sv (Instr.mapEntry t m k)) w K
noncomputable def entryStore (t:TypeId) (m s x:Value) (w:World) (K:Value→World→Prop):Prop:=op P (su (Instr.entryStore t m s x)) w K
noncomputable def rng (t:TypeId) (x:Value) (w:World) (K:Value→World→Prop):Prop:=op P (sv (Instr.range t x)) w K
noncomputable def J1 (b:Value) (a:Bool) (t:TypeId) (w:World) (K:Value→World→Prop):Prop:=op P (sv (Instr.next b a t)) w K
noncomputable def Q6H (a:Value) (w:World) (K:Value→World→Prop):Prop:=op P (sv (Instr.entry a)) w K
noncomputable def pnc (x:Value) (w:World) (K:Value→World→Prop):Prop:=op P (sv (Instr.panic x)) w K
noncomputable def ext (x:Value) (i:Nat) (w:World) (K:Value→World→Prop):Prop:=op P (sv (Instr.extract x i)) w K
noncomputable def X5 (b:Builtin) (a:List TypeId) (t:TypeId) (cs:List Bool) (xs:List Value) (w:World) (K:Value→World→Prop):Prop:=op P (Go.builtin b a.toArray t cs.toArray xs.toArray) w K
noncomputable def Q1 (f:FuncId) (xs:List Value) (w:World) (K:Value→World→Prop):Prop:=op P (callFunc f xs.toArray) w K
noncomputable def Y9 (f:Value) (xs:List Value) (w:World) (K:Value→World→Prop):Prop:=op P (do let d←Deferred.ofValue f xs.toArray;invoke d.target d.args) w K
end
def get (l:List Value) (t:Nat):Value:=l.getD t undef
def ev (l:List Value):Operand→Value
 | .tmp t=>get l t
 | .const v=>v
 | .global g=> .pointer (some ⟨g,0,none⟩)
 | .func f=> .func (.func f) #[] #[]
def put (l:List Value) (d:Option Tmp) (v:Value):List Value:=
 match d with
 | some d=>l.set d v
 | none=>l
def Av (l:List Value) (xs:Array Operand):List Value:=xs.toList.map (ev l)
def evp (l:List Value) (xs:Array (Nat×Operand)):List (Nat×Value):=xs.toList.map fun p=>(p.1,ev l p.2)
def evo (l:List Value) (x:Option Operand):Option Value:=match x with | some x=>some (ev l x) | none=>none
def isC:Operand→Bool | .const _=>true | _=>false
noncomputable def Nj (P:Program) (l:List Value) (o:Oper) (c:Call) (w:World) (K:Value→World→Prop):Prop:=
 match c.callee with
 | .builtin b=>X5 P b c.argTypes.toList o.type (c.args.toList.map isC) (Av l c.args) w K
 | .value (.func f)=>Q1 P f (Av l c.args) w K
 | .value f=>Y9 P (ev l f) (Av l c.args) w K
 | _=>op P (execOp (ev l) o) w K
noncomputable def V0 (P:Program) (l:List Value) (o:Oper) (w:World) (K:Value→World→Prop):Prop:=
 match o.op with
 | .move x=>K (ev l x) w
 | .assign x=>K (ev l x) w
 | .pick c a b=>pick P (ev l c) (ev l a) (ev l b) w K
 | .alloc e=>W7 P e w K
 | .box e x=>box P e (ev l x) w K
 | .build t j=>O7 P t (evp l j) w K
 | .buildSlice t n j=>buildSlice P t n (evp l j) w K
 | .load t a=>Q2 P t (ev l a) w K
 | .store t a x=>Z4 P t (ev l a) (ev l x) w K
 | .nilCheck x=>nilCheck P (ev l x) w K
 | .binOp op t x y _=>Q3 P op t x y (ev l x) (ev l y) w K
 | .unOp op _ x=>J5 P op (ev l x) w K
 | .convert s d x=>conv P s d (ev l x) w K
 | .makeInterface t x=>X0E P t (ev l x) w K
 | .makeFunc f first caps=>M4 P f (Av l first) (Av l caps) w K
 | .makeMap t r=>Ru P t (evo l r) w K
 | .makeSlice t n c=>Nn P t (ev l n) (ev l c) w K
 | .slice t x p u q=>E9 P t (ev l x) (evo l p) (evo l u) (evo l q) w K
 | .fieldAddr t x f=>fieldAddr P t (ev l x) f w K
 | .field t x f=>We P t (ev l x) f w K
 | .indexAddr t x i=>indexAddr P t (ev l x) (ev l i) w K
 | .index t x i=>E1 P t (ev l x) (ev l i) w K
 | .lookup t x i ok=>lookup P t (ev l x) (ev l i) ok w K
 | .mapUpdate t m k x=>mapUpdate P t (ev l m) (ev l k) (ev l x) w K
 | .insert t m k x=>mapUpdate P t (ev l m) (ev l k) (ev l x) w K
 | .mapEntry t m k=>mapEntry P t (ev l m) (ev l k) w K
 | .entryStore t m s x=>entryStore P t (ev l m) (ev l s) (ev l x) w K
 | .range t x=>rng P t (ev l x) w K
 | .next g h=>J1 P (ev l g) h o.type w K
 | .extract x i=>ext P (ev l x) i w K
 | .entry g=>Q6H P (ev l g) w K
 | .panic x=>pnc P (ev l x) w K
 | .call c=>Nj P l o c w K
 | _=>op P (execOp (ev l) o) w K
theorem Q6R {α β:Type} (f:α→β) (a:Array α):a.map f=(a.toList.map f).toArray:=by rw[←Array.toList_map,Array.toArray_toList]
theorem X0M (l:List Value) (x:Option Operand):x.map (ev l)=evo l x:=by cases x<;>rfl
theorem Q4R {P:Program} {l:List Value} {o:Oper} {c:Call} {K e:Value→World→Prop} {w:World} (a: ∀v w,K v w→e v w) (h:Nj P l o c w K):Nj P l o c w e:=by
 obtain ⟨d,g,i⟩:=c
 cases d with
 | builtin b=>exact Dy a h
 | invoke r m=>exact Dy a h
 | value f=>cases f<;>(simp only[Nj,Y9,Q1] at h⊢;exact Dy a h)
theorem B9 {P:Program} {l:List Value} {o:Oper} {K b:Value→World→Prop} {w:World} (a: ∀v w,K v w→b v w) (h:V0 P l o w K):V0 P l o w b:=by
 obtain ⟨d,p,c,pos,e,g⟩:=o
 cases p<;>first | exact a _ _ h | exact Q4R a h | exact Dy a h | (simp only[V0] at h⊢;exact Dy a h)
theorem Q5Y {P:Program} {l:List Value} {o:Oper} {K:Value→World→Prop} {w:World} (h:V0 P l o w K):op P (execOp (ev l) o) w K:=by
 unfold V0 at h
 split at h<;>rename_i a
 all_goals first
  | exact h
  | (unfold execOp;rw[a];exact h)
  | (unfold execOp;rw[a];simp only[Q6R,X0M];exact h)
  | (unfold execOp;rw[a,Xb];exact h)
  | skip
 rename_i c
 unfold Nj at h
 split at h<;>rename_i b
 ·unfold execOp;rw[a];simp only[resolve,b,Q6R]
  simp only[pure_bind,invoke]
  unfold X5 at h
  simp only[Array.toArray_toList] at h
  refine (congrArg (fun z=>op P (builtin _ c.argTypes o.type (List.toArray z) _) w K) (List.map_congr_left (fun x _=>?_))).mp h
  cases x<;>rfl
 ·unfold execOp;rw[a];simp only[resolve,b,Q6R]
  simp only[ev,Deferred.ofValue,pure_bind,invoke]
  simpa [Q1,Av] using h
 ·unfold execOp;rw[a];simp only[resolve,b,Q6R]
  exact h
 ·exact h
def Lp (v:Value) (b:Bool) (w:World) (a:World→(Value→World→Prop)→Prop) (J:Value→World→Prop):Prop:=
 match v with
 | .bool c=>if c=b then a w J else J undef w
 | _=>J undef w
theorem Q8h: ∃f:Value→Bool→World→(World→(Value→World→Prop)→Prop)→(Value→World→Prop)→Prop,f=Lp:=⟨_,rfl⟩
noncomputable def Q0:Value→Bool→World→(World→(Value→World→Prop)→Prop)→(Value→World→Prop)→Prop:=Classical.choose Q8h
theorem Ot:Q0=Lp:=Classical.choose_spec Q8h
def Q1B (v:Value) (t e:Prop):Prop:=
 match v with
 | .bool true=>t
 | .bool false=>e
 | _=>False
theorem Q8O: ∃f:Value→Prop→Prop→Prop,f=Q1B:=⟨_,rfl⟩
noncomputable def X1:Value→Prop→Prop→Prop:=Classical.choose Q8O
theorem Q4w:X1=Q1B:=Classical.choose_spec Q8O
noncomputable def Y2 (P:Program) (ops:List Oper) (next:List Value→World→Prop):List Oper→List Value→World→Prop
 | [],l,w=>next l w
 | o::a,l,w=>
  match o.guard with
  | none=>V0 P l o w (fun v w=>Y2 P ops next a (put l o.dst v) w)
  | some (j,b)=>match (ops[j]?).bind (·.dst) with
   | some d=>Q0 (get l d) b w (V0 P l o) (fun v w=>Y2 P ops next a (put l o.dst v) w)
   | none=>Y2 P ops next a (put l o.dst undef) w
def Ik:Nat→Type
 | 0=>Unit
 | 1=>Value
 | n+2=>Value×Ik (n+1)
def Na (l:List Value):(a:List Nat)→Ik a.length
 | []=>()
 | [s]=>get l s
 | s::t::r=>(get l s,Na l (t::r))
def Di (i:Nat) (e:Value):(a:List Nat)→Ik a.length→Value
 | [],_=>e
 | [s],x=>if s=i then x else e
 | s::t::r,x=>if s=i then x.1 else Di i e (t::r) x.2
def N1 (a b:List Nat) (x:Ik a.length) (d:Nat→Value):Nat→List Value→List Value
 | _,[]=>[]
 | i,v::l=>Di i (if b.contains i then d i else v) a x::N1 a b x d (i+1) l
def Q9O (α:Type) (c:α) (w:World) (a:(α→World→Prop)→α→(Nat→Value)→World→Prop):Prop:=
 ∃(I:α→World→Prop) (μ:α→World→Nat),I c w∧ ∀x d w,I x w→a (fun b w'=>I b w'∧μ b w'<μ x w) x d w
theorem Q9W: ∃f:(α:Type)→α→World→((α→World→Prop)→α→(Nat→Value)→World→Prop)→Prop,f=Q9O:=⟨_,rfl⟩
noncomputable def lp {α:Type}:α→World→((α→World→Prop)→α→(Nat→Value)→World→Prop)→Prop:=Classical.choose Q9W α
theorem Q9N {α:Type} (b:α) (w:World) (a:(α→World→Prop)→α→(Nat→Value)→World→Prop):lp b w a=Q9O α b w a:=
 congrFun (congrFun (congrFun (congrFun (Classical.choose_spec Q9W) α) b) w) a
def X09 (α:Type) (w:World) (A:(α→World→Prop)→World→Prop) (B:α→(Nat→Value)→World→Prop):Prop:=
 ∃I:α→World→Prop,A I w∧ ∀x d w,I x w→B x d w
theorem Q9U: ∃f:(α:Type)→World→((α→World→Prop)→World→Prop)→(α→(Nat→Value)→World→Prop)→Prop,f=X09:=⟨_,rfl⟩
noncomputable def jn {α:Type}:World→((α→World→Prop)→World→Prop)→(α→(Nat→Value)→World→Prop)→Prop:=Classical.choose Q9U α
theorem X0c {α:Type} (w:World) (A:(α→World→Prop)→World→Prop) (B:α→(Nat→Value)→World→Prop):jn w A B=X09 α w A B:=
 congrFun (congrFun (congrFun (congrFun (Classical.choose_spec Q9U) α) w) A) B
theorem G6 {α:Type} {w:World} {A:(α→World→Prop)→World→Prop} {B:α→(Nat→Value)→World→Prop} (I:α→World→Prop) (h:A I w) (a: ∀x d w,I x w→B x d w):jn w A B:=by
 rw[X0c];exact ⟨I,h,a⟩
theorem Q4G {α:Type} {w:World} {A:(α→World→Prop)→World→Prop} {B:α→(Nat→Value)→World→Prop} (h:jn w A B): ∃I:α→World→Prop,A I w∧ ∀x d w,I x w→B x d w:=by
 rw[X0c] at h;exact h
theorem Jb {α:Type} {b:α} {w:World} {a:(α→World→Prop)→α→(Nat→Value)→World→Prop} (I:α→World→Prop) (μ:α→World→Nat) (e:I b w)
 (f: ∀x d w,I x w→a (fun c w'=>I c w'∧μ c w'<μ x w) x d w):lp b w a:=by
 rw[Q9N];exact ⟨I,μ,e,f⟩
theorem Q8v {α:Type} {b:α} {w:World} {a:(α→World→Prop)→α→(Nat→Value)→World→Prop} (h:lp b w a):
 ∃(I:α→World→Prop) (μ:α→World→Nat),I b w∧ ∀x d w,I x w→a (fun c w'=>I c w'∧μ c w'<μ x w) x d w:=by
 rw[Q9N] at h;exact h
def O5 (ops:List Oper):List Nat:=ops.filterMap (·.dst)
def K6:Code→Nat
 | .seq a b=>K6 a+K6 b+1
 | .cond _ a b=>K6 a+K6 b
 | .block _ c=>K6 c
 | .loop c=>K6 c+1
 | .scope c=>K6 c
 | _=>0
def L2 (d:List (Option (List Nat))):Nat→Code→List Nat
 | _, .region _ ops _=>O5 ops.toList
 | k, .seq a b=>(d.getD k none).getD []++(L2 d (k+1) a++L2 d (k+1+K6 a) b)
 | k, .cond _ a b=>L2 d k a++L2 d (k+K6 a) b
 | k, .block _ c=>L2 d k c
 | k, .loop c=>(d.getD k none).getD []++L2 d (k+1) c
 | k, .scope c=>L2 d k c
 | _,_=>[]
abbrev Oy:=Exit→List Value→World→Prop
def thn (next:List Value→World→Prop) (Q:Oy):Oy
 | .normal,a,w=>next a w
 | e,a,w=>Q e a w
def Q1m (id:Nat) (Q:Oy):Oy
 | .exit b,a,w=>if b=id then Q .normal a w else Q (.exit b) a w
 | e,a,w=>Q e a w
noncomputable def Ms (P:Program) (a:List (Option (List Nat))):Nat→Code→Oy→List Value→World→Prop
 | _, .skip,Q,l,w=>Q .normal l w
 | _, .label _,Q,l,w=>Q .normal l w
 | _, .exit id,Q,l,w=>Q (.exit id) l w
 | _, .ret,Q,l,w=>Q .ret l w
 | _, .region _ ops false,Q,l,w=>Y2 P ops.toList (fun l w=>Q .normal l w) ops.toList l w
 | _, .region _ ops true,Q,l,w=> ∀t,Y2 P ops.toList (fun l w=>Q .normal l w) ((Region.schedule (P.follows .mixedOrders) ops t).filterMap (ops[·]?)) l w.drew
 | k, .seq x y,Q,l,w=>match a.getD k none with
  | none=>Ms P a (k+1) x (thn (fun l w=>Ms P a (k+1+K6 x) y Q l w) Q) l w
  | some e=>jn w (fun J w=>Ms P a (k+1) x (thn (fun l' w'=>J (Na l' e) w') Q) l w)
   (fun z d w=>Ms P a (k+1+K6 x) y Q (N1 e (L2 a (k+1) x) z d 0 l) w)
 | k, .cond c x y,Q,l,w=>X1 (ev l c) (Ms P a k x Q l w) (Ms P a (k+K6 x) y Q l w)
 | k, .block id c,Q,l,w=>Ms P a k c (Q1m id Q) l w
 | k, .loop c,Q,l,w=>
  lp (Na l ((a.getD k none).getD [])) w (fun b x d w=>Ms P a (k+1) c (thn (fun l' w'=>b (Na l' ((a.getD k none).getD [])) w') Q) (N1 ((a.getD k none).getD []) (L2 a (k+1) c) x d 0 l) w)
 | _,_,_,_,_=>False
theorem Q7g {ops:List Oper} {l:List Value} {o:Oper} {j:Nat} {b:Bool} (a:o.guard=some (j,b)) {d:Nat} (e:(ops[j]?).bind (·.dst)=some d):
 Region.wanted o (yielded ops.toArray l.toArray)=true↔get l d= .bool b:=by
 unfold Region.wanted yielded
 rw[a]
 simp only[List.getElem?_toArray]
 rw[e]
 simp only[Option.bind_some,get,List.getD_eq_getElem?_getD]
 have key: ∀x:Option Value,((match x with | some (.bool c)=>some c | _=>none)==some b)=true↔x.getD undef= .bool b:=by
  intro x
  cases x with
  | none=>simp[undef]
  | some v=>cases v<;>simp
 exact key _
theorem Q5Z {ops:List Oper} {l:List Value} {o:Oper} {j:Nat} {b:Bool} (a:o.guard=some (j,b)) (c:(ops[j]?).bind (·.dst)=none):
 Region.wanted o (yielded ops.toArray l.toArray)=false:=by
 unfold Region.wanted yielded
 rw[a]
 simp only[List.getElem?_toArray]
 rw[c]
 rfl
theorem Vc {v:Value} {b:Bool} {a:World→(Value→World→Prop)→Prop} {J:Value→World→Prop} {w:World} (h:Q0 v b w a J):
 (v= .bool b∧a w J)∨(v≠ .bool b∧J undef w):=by
 rw[Ot] at h
 unfold Lp at h
 split at h
 ·split at h
  ·rename_i c;subst c;exact .inl ⟨rfl,h⟩
  ·rename_i c;exact .inr ⟨by simp[c],h⟩
 ·rename_i d;exact .inr ⟨d b,h⟩
theorem Ah {v:Value} {b:Bool} {a:World→(Value→World→Prop)→Prop} {J:Value→World→Prop} {w:World}
 (h:(v= .bool b∧a w J)∨(v≠ .bool b∧J undef w)):Q0 v b w a J:=by
 rw[Ot]
 unfold Lp
 split
 ·split
  ·rename_i c;subst c
   rcases h with h | h
   ·exact h.2
   ·exact absurd rfl h.1
  ·rename_i c
   rcases h with h | h
   ·exact absurd (Value.bool.inj h.1) c
   ·exact h.2
 ·rename_i d
  rcases h with h | h
  ·exact absurd h.1 (d b)
  ·exact h.2
theorem Q2r (a:Act):a.eval=ev a.tmps.toList:=by
 funext x
 cases x<;>simp[Act.eval,ev,get,List.getD_eq_getElem?_getD]
theorem Q6G (a:Act) (d:Option Tmp) (v:Value):(a.put d v).tmps.toList=put a.tmps.toList d v:=by
 cases d<;>simp[Act.put,put]
theorem Q6Y (a:Act) (d:Option Tmp) (v:Value):(a.put d v).defers=a.defers:=by
 cases d<;>simp[Act.put]
def lift (Q:Oy):Exit→Act→World→Prop:=fun e a w=>a.defers=[]∧Q e a.tmps.toList w
theorem Ts (P:Program) (ops:Array Oper) (Q:Exit→Act→World→Prop) (next:List Value→World→Prop)
 (t: ∀a w,a.defers=[]→next a.tmps.toList w→Q .normal a w) (is:List Nat) (s: ∀i∈is,i<ops.size):
 ∀(a:Act) (w:World),a.defers=[]→Y2 P ops.toList next (is.filterMap (ops[·]?)) a.tmps.toList w→wpOps P ops Q is a w:=by
 induction is with
 | nil=>intro a w o h;exact t a w o h
 | cons i is y=>
  intro a w o h
  have p:=s i (by simp)
  have k:ops[i]? =some ops[i]:=by simp[p]
  rw[List.filterMap_cons,k] at h
  simp only[Y2] at h
  simp only[wpOps,k]
  have q:ops.toList.toArray=ops:=by simp
  have r:a.tmps.toList.toArray=a.tmps:=by simp
  have e: ∀{v w},Y2 P ops.toList next (is.filterMap (ops[·]?)) (put a.tmps.toList ops[i].dst v) w→wpOps P ops Q is (a.put ops[i].dst v) w:=by
   intro v w f
   refine y (fun j u=>s j (by simp[u])) _ _ (by rw[Q6Y];exact o) ?_
   rw[Q6G];exact f
  have m:V0 P a.tmps.toList ops[i] w (fun v w=>Y2 P ops.toList next (is.filterMap (ops[·]?)) (put a.tmps.toList ops[i].dst v) w)→
   ops[i].wp P a w (wpOps P ops Q is) Q:=by
   intro h
   refine X2i ?_
   rw[Q2r]
   exact Dy (fun v w f=>e f) (Q5Y h)
  split at h
  ·rename_i n
   rw[if_pos (by simp[Region.wanted,n])]
   exact .inl (m h)
  ·rename_i j b n
   split at h
   ·rename_i d c
    have g:=Q7g (ops:=ops.toList) (l:=a.tmps.toList) n c
    rw[q,r] at g
    rcases Vc h with ⟨f,h⟩ | ⟨f,h⟩
    ·rw[if_pos (g.2 f)];exact .inl (m h)
    ·rw[if_neg (fun h=>f (g.1 h))];exact e h
   ·rename_i c
    have g:=Q5Z (ops:=ops.toList) (l:=a.tmps.toList) n c
    rw[q,r] at g
    rw[if_neg (by rw[g];simp)];exact e h
theorem Pe (ops:Array Oper):(List.range ops.size).filterMap (ops[·]?)=ops.toList:=by
 apply List.ext_getElem?
 intro i
 rw[←Array.length_toList]
 have: ∀l:List Oper,(List.range l.length).filterMap (l[·]?)=l:=by
  intro l
  induction l with
  | nil=>rfl
  | cons x l a=>
   rw[List.length_cons,List.range_succ_eq_map,List.filterMap_cons]
   simp only[List.getElem?_cons_zero,List.filterMap_map]
   congr 1
 have h:=this ops.toList
 simp only[Array.getElem?_toList] at h
 rw[h]
theorem Q0S (b:Bool) (ops:Array Oper) (t:Nat): ∀i∈Region.schedule b ops t,i<ops.size:=by
 have key: ∀m c t a e,(∀i∈e,i<ops.size)→ ∀i∈Region.linearise.go m ops c t a e,i<ops.size:=by
  intro m c
  induction c with
  | zero=>intro t a e h i d;simp[Region.linearise.go] at d;exact h i d
  | succ c f=>
   intro t a e h i d
   simp only[Region.linearise.go] at d
   split at d
   ·rename_i j g
    refine f _ _ _ ?_ i d
    intro k hk
    rcases List.mem_cons.1 hk with rfl | hk
    ·have:=List.mem_of_getElem? g
     simp only[List.mem_filter,List.mem_range] at this
     exact this.1
    ·exact h k hk
   ·simp at d;exact h i d
 intro i d
 unfold Region.schedule at d
 split at d
 ·exact key _ _ _ _ _ (by simp) i d
 ·exact key _ _ _ _ _ (by simp) i d
def P5 (W:List Nat) (l l':List Value):Prop:=l'.length=l.length∧ ∀i,W.contains i=false→l'[i]? =l[i]?
theorem P5.refl (W:List Nat) (l:List Value):P5 W l l:=⟨rfl,fun _ _=>rfl⟩
theorem P5.trans {W:List Nat} {a b c:List Value} (h:P5 W a b) (k:P5 W b c):P5 W a c:=
 ⟨k.1.trans h.1,fun i d=>(k.2 i d).trans (h.2 i d)⟩
theorem Ec (a c:List Nat) (x:Ik a.length) (d:Nat→Value) (l:List Value): ∀i,(N1 a c x d i l).length=l.length:=by
 induction l with
 | nil=>intro i;rfl
 | cons v l b=>intro i;simp[N1,b]
theorem Rp (a b:List Nat) (x:Ik a.length) (d:Nat→Value) (l:List Value): ∀i j,(N1 a b x d i l)[j]? =(l[j]?).map fun v=>Di (i+j) (if b.contains (i+j) then d (i+j) else v) a x:=by
 induction l with
 | nil=>intro i j;simp[N1]
 | cons v l c=>
  intro i j
  cases j with
  | zero=>simp[N1]
  | succ j=>simp only[N1,List.getElem?_cons_succ,c];rw[show i+1+j=i+(j+1) from by omega]
theorem Jy (i:Nat) (e:Value): ∀(b:List Nat) (x:Ik b.length),b.contains i=false→Di i e b x=e
 | [],_,_=>rfl
 | [s],x,h=>by
  have a: ¬s=i:=by intro a;subst a;simp at h
  exact if_neg a
 | s::t::r,x,h=>by
  simp only[Di]
  split
  ·rename_i a;subst a;simp at h
  ·refine Jy i e (t::r) x.2 ?_
   simp only[List.contains_cons,Bool.or_eq_false_iff] at h⊢
   exact h.2
theorem Q4K (l:List Value) (i:Nat) (e c:Value): ∀(b:List Nat),b.contains i=true→Di i e b (Na l b)=get l i
 | [],h=>by simp at h
 | [s],h=>by
  simp only[List.contains_cons,List.contains_nil,Bool.or_false,beq_iff_eq] at h
  subst h;simp[Di,Na]
 | s::t::r,h=>by
  simp only[Di,Na]
  split
  ·rename_i a;subst a;rfl
  ·rename_i a
   refine Q4K l i e c (t::r) ?_
   simp only[List.contains_cons,Bool.or_eq_true,beq_iff_eq] at h⊢
   rcases h with h | h
   ·exact absurd h.symm a
   ·exact h
theorem Fa (a c:List Nat) (l l':List Value) (g:l'.length=l.length)
 (h: ∀i,a.contains i=false→c.contains i=false→l'[i]? =l[i]?):l'=N1 a c (Na l' a) (get l') 0 l:=by
 apply List.ext_getElem?
 intro i
 rw[Rp]
 simp only[Nat.zero_add]
 cases f:l[i]? with
 | none=>
  have:=List.getElem?_eq_none_iff.1 f
  simp only[Option.map_none]
  exact List.getElem?_eq_none (by omega)
 | some v=>
  have m:i<l.length:=(List.getElem?_eq_some_iff.1 f).1
  have k:l'[i]? =some (get l' i):=by
   simp only[get,List.getD_eq_getElem?_getD]
   rw[List.getElem?_eq_getElem (by omega)];rfl
  rw[k]
  simp only[Option.map_some,Option.some.injEq]
  by_cases j:a.contains i=true
  ·rw[Q4K l' i _ undef a j]
  ·have b:a.contains i=false:=by simpa using j
   rw[Jy _ _ _ _ b]
   by_cases d:c.contains i=true
   ·rw[if_pos d]
   ·have e:c.contains i=false:=by simpa using d
    rw[if_neg d]
    have:=h i b e
    rw[k,f] at this
    exact Option.some.inj this
theorem Q3f {v:Value} {t e a b:Prop} (d:t→a) (c:e→b) (h:X1 v t e):X1 v a b:=by
 rw[Q4w] at*
 unfold Q1B at*
 split at h
 ·exact d h
 ·exact c h
 ·exact h.elim
theorem Zu (P:Program) (c:List Oper) (next a:List Value→World→Prop) (W:List Nat) (k:List Value): ∀(ops:List Oper) (l:List Value) (w:World),
 (∀o∈ops,∀d,o.dst=some d→W.contains d=true)→P5 W k l→(∀l w,next l w→P5 W k l→a l w)→Y2 P c next ops l w→Y2 P c a ops l w
 | [],l,w,_,j,m,h=>m l w h j
 | o::f,l,w,q,j,m,h=>by
  have g: ∀v,P5 W k (put l o.dst v):=by
   intro v
   cases s:o.dst with
   | none=>exact j
   | some d=>
    have u:=q o (by simp) d s
    refine j.trans ⟨by simp[put],fun i r=>?_⟩
    have:d≠i:=by intro e;subst e;rw[u] at r;cases r
    simp[put,this]
  have b: ∀v w,Y2 P c next f (put l o.dst v) w→Y2 P c a f (put l o.dst v) w:=fun v w y=>
   Zu P c next a W k f _ w (fun o t=>q o (by simp[t])) (g v) m y
  simp only[Y2] at h⊢
  split at h
  ·exact B9 b h
  ·split at h
   ·refine Ah ((Vc h).imp (fun ⟨n,p⟩=>⟨n,B9 b p⟩) (fun ⟨n,p⟩=>⟨n,b _ _ p⟩))
   ·exact b _ _ h
theorem Q3g {α:Type} {e:α} {c b:(α→World→Prop)→α→(Nat→Value)→World→Prop} {w:World}
 (i: ∀a x d w,c a x d w→b a x d w) (h:lp e w c):lp e w b:=by
 obtain ⟨I,μ,g,j⟩:=Q8v h
 exact Jb I μ g fun x d w f=>i _ _ _ _ (j x d w f)
theorem G8 {a b:List Nat} {i:Nat} (h:a.contains i=true):(a++b).contains i=true:=by simp at h⊢;exact .inl h
theorem O9 {a b:List Nat} {i:Nat} (h:b.contains i=true):(a++b).contains i=true:=by simp at h⊢;exact .inr h
theorem Q3q (P:Program) (q:List (Option (List Nat))) (c:Code): ∀(k:Nat) (Q A:Oy) (W:List Nat) (m l:List Value) (w:World),
 (∀i,(L2 q k c).contains i=true→W.contains i=true)→P5 W m l→
 (∀e l w,Q e l w→P5 W m l→A e l w)→Ms P q k c Q l w→Ms P q k c A l w:=by
 induction c with
 | skip=>intro k Q A W m l w _ g j h;exact j _ _ _ h g
 | label n=>intro k Q A W m l w _ g j h;exact j _ _ _ h g
 | exit id=>intro k Q A W m l w _ g j h;exact j _ _ _ h g
 | ret=>intro k Q A W m l w _ g j h;exact j _ _ _ h g
 | goto n=>intro k Q A W m l w _ g j h;exact h.elim
 | refuse s=>intro k Q A W m l w _ g j h;exact h.elim
 | scope c=>intro k Q A W m l w _ g j h;exact h.elim
 | rangeFunc f p a b=>intro k Q A W m l w _ g j h;exact h.elim
 | region id ops M=>
  intro k Q A W m l w B g j h
  have L: ∀o∈ops.toList,∀d,o.dst=some d→W.contains d=true:=by
   intro o R d hd
   refine B d ?_
   simp only[L2,O5,List.contains_eq_mem,List.mem_filterMap,decide_eq_true_eq]
   exact ⟨o,R,hd⟩
  cases M with
  | false=>exact Zu P _ _ _ W m _ _ _ L g (fun l w U g=>j _ _ _ U g) h
  | true=>
   intro t
   refine Zu P _ _ _ W m _ _ _ ?_ g (fun l w U g=>j _ _ _ U g) (h t)
   intro o R
   simp only[List.mem_filterMap] at R
   obtain ⟨i,_,r⟩:=R
   exact L o (by simpa using Array.mem_of_getElem? r)
 | seq x y E D=>
  intro k Q A W m l w B g j h
  have hx: ∀i,(L2 q (k+1) x).contains i=true→W.contains i=true:=fun i r=>B i (O9 (G8 r))
  have hy: ∀i,(L2 q (k+1+K6 x) y).contains i=true→W.contains i=true:=fun i r=>B i (O9 (O9 r))
  simp only[Ms] at h⊢
  split at h
  ·refine E _ _ _ W m l w hx g ?_ h
   intro e l' w' C u
   cases e with
   | normal=>exact D _ _ _ W m l' w' hy u j C
   | _=>exact j _ _ _ C u
  ·rename_i sl X
   obtain ⟨J,N,O⟩:=Q4G h
   refine G6 J (E _ _ _ W m l w hx g ?_ N) fun z d w hz=>?_
   ·intro e l' w' C u
    cases e with
    | normal=>exact C
    | _=>exact j _ _ _ C u
   ·refine D _ _ _ W m _ w hy (g.trans ⟨Ec _ _ _ _ _ _,fun i r=>?_⟩) j (O z d w hz)
    rw[Rp]
    have N:sl.contains i=false:=by
     cases H:sl.contains i with
     | false=>rfl
     | true=>rw[B i (G8 (by rw[X];exact H))] at r;cases r
    have O:(L2 q (k+1) x).contains i=false:=by
     cases H:(L2 q (k+1) x).contains i with
     | false=>rfl
     | true=>rw[hx i H] at r;cases r
    simp only[Nat.zero_add]
    cases hl:l[i]? with
    | none=>rfl
    | some v=>simp only[Option.map_some,Jy _ _ _ _ N,O,Bool.false_eq_true,if_false]
 | cond c x y E D=>
  intro k Q A W m l w B g j h
  exact Q3f (E k _ _ W m l w (fun i r=>B i (G8 r)) g j) (D _ _ _ W m l w (fun i r=>B i (O9 r)) g j) h
 | block id c Z=>
  intro k Q A W m l w B g j h
  refine Z k _ _ W m l w B g ?_ h
  intro e l' w' C u
  cases e with
  | exit ah=>simp only[Q1m] at C⊢;split<;>rename_i Y<;>simp only[Y,if_true,if_false] at C<;>exact j _ _ _ C u
  | _=>exact j _ _ _ C u
 | loop c Z=>
  intro k Q A W m l w B g j h
  refine Q3g (fun V x d w hb=>?_) h
  refine Z _ _ _ W m _ _ (fun i r=>B i (O9 r)) ?_ ?_ hb
  ·refine g.trans ⟨Ec _ _ _ _ _ _,fun i r=>?_⟩
   rw[Rp]
   have N:((q.getD k none).getD []).contains i=false:=by
    cases H:((q.getD k none).getD []).contains i with
    | false=>rfl
    | true=>rw[B i (G8 H)] at r;cases r
   have O:(L2 q (k+1) c).contains i=false:=by
    cases H:(L2 q (k+1) c).contains i with
    | false=>rfl
    | true=>rw[B i (O9 H)] at r;cases r
   simp only[Nat.zero_add]
   cases hl:l[i]? with
   | none=>rfl
   | some v=>simp only[Option.map_some,Jy _ _ _ _ N,O,Bool.false_eq_true,if_false]
  ·intro e l' w' C u
   cases e with
   | normal=>exact C
   | _=>exact j _ _ _ C u
theorem Q82 (P:Program) (g:List (Option (List Nat))) (c:Code): ∀(k:Nat) (Q:Oy) (a:Act) (w:World),
 a.defers=[]→Ms P g k c Q a.tmps.toList w→c.wp P (lift Q) a w:=by
 induction c with
 | skip=>intro k Q a w j h;exact wp_skip ⟨j,h⟩
 | label n=>intro k Q a w j h;exact wp_label ⟨j,h⟩
 | exit id=>intro k Q a w j h;exact wp_exit ⟨j,h⟩
 | ret=>intro k Q a w j h;exact wp_ret ⟨j,h⟩
 | goto n=>intro k Q a w j h;exact h.elim
 | refuse s=>intro k Q a w j h;exact h.elim
 | scope c=>intro k Q a w j h;exact h.elim
 | rangeFunc f p a b=>intro k Q a w j h;exact h.elim
 | region id ops A=>
  intro k Q a w j h
  cases A with
  | false=>
   refine wp_region (Ts P ops _ _ (fun a w j h=>⟨j,h⟩) _ (by simp) a w j ?_)
   rw[Pe];exact h
  | true=>
   refine wp_region_draw fun t=>?_
   exact Ts P ops _ _ (fun a w j h=>⟨j,h⟩) _ (Q0S _ _ _) a _ j (h t)
 | seq x y u r=>
  intro k Q a w j h
  simp only[Ms] at h
  split at h
  ·refine wp_seq (wp_mono (u _ _ a w j h) ?_)
   intro e o w' ⟨m,q⟩
   cases e with
   | normal=>exact r _ _ o w' m q
   | _=>exact ⟨m,q⟩
  ·rename_i Y ad
   obtain ⟨J,U,C⟩:=Q4G h
   have H:=Q3q P g x (k+1) _ (fun e l' w'=>thn (fun l' w'=>J (Na l' Y) w') Q e l' w'∧P5 (L2 g (k+1) x) a.tmps.toList l') (L2 g (k+1) x) a.tmps.toList a.tmps.toList w (fun _ h=>h) (P5.refl _ _) (fun e l w h O=>⟨h,O⟩) U
   refine wp_seq (wp_mono (u (k+1) _ a w j H) ?_)
   intro e o w' ⟨m,q,z⟩
   cases e with
   | normal=>
    refine r (k+1+K6 x) _ o w' m ?_
    rw[Fa Y (L2 g (k+1) x) a.tmps.toList o.tmps.toList z.1 (fun i _ h=>z.2 i h)]
    exact C _ _ _ q
   | _=>exact ⟨m,q⟩
 | cond c x y u r=>
  intro k Q a w j h
  simp only[Ms,Q4w,Q1B] at h
  split at h
  ·rename_i W
   exact wp_cond_true (by rw[Q2r];exact W) (u _ _ _ _ j h)
  ·rename_i W
   exact wp_cond_false (by rw[Q2r];exact W) (r _ _ _ _ j h)
  ·exact h.elim
 | block id c V=>
  intro k Q a w j h
  refine wp_block (wp_mono (V k _ a w j h) ?_)
  intro e o w' ⟨m,q⟩
  cases e with
  | exit ae=>
   simp only[Q1m,Exit.inBlock] at q⊢
   split<;>rename_i R<;>simp only[R,if_true,if_false] at q<;>exact ⟨m,q⟩
  | _=>exact ⟨m,q⟩
 | loop c V=>
  intro k Q a w j h
  obtain ⟨I,μ,h0,hr⟩:=Q8v h
  refine wp_loop (fun o w'=>o.defers=[]∧(∃d,o.tmps.toList=N1 ((g.getD k none).getD []) (L2 g (k+1) c) (Na o.tmps.toList ((g.getD k none).getD [])) d 0 a.tmps.toList)∧I (Na o.tmps.toList ((g.getD k none).getD [])) w') (fun o w'=>μ (Na o.tmps.toList ((g.getD k none).getD [])) w') ⟨j,⟨get a.tmps.toList,Fa _ _ _ _ rfl (fun _ _ _=>rfl)⟩,h0⟩ ?_
  intro E w1 ⟨X,⟨Z,v⟩,M⟩
  have L:=hr _ Z w1 M
  dsimp only at L
  rw[←v] at L
  have N:=Q3q P g c (k+1) _ (fun e l' w'=>thn (fun l' w'=>I (Na l' ((g.getD k none).getD [])) w'∧μ (Na l' ((g.getD k none).getD [])) w'<μ (Na E.tmps.toList ((g.getD k none).getD [])) w1) Q e l' w'∧P5 (L2 g (k+1) c) E.tmps.toList l') (L2 g (k+1) c) E.tmps.toList E.tmps.toList w1 (fun _ h=>h) (P5.refl _ _) (fun e l w h O=>⟨h,O⟩) L
  refine wp_mono (V _ _ E w1 X N) ?_
  intro e a2 w2 ⟨B,C,D⟩
  cases e with
  | normal=>
   refine ⟨⟨B,⟨get a2.tmps.toList,Fa _ _ _ _ ?_ ?_⟩,C.1⟩,C.2⟩
   ·rw[D.1,v,Ec]
   ·intro i U H
    rw[D.2 i H,v,Rp]
    simp only[Nat.zero_add,Jy _ _ _ _ U,H,Bool.false_eq_true,if_false,Option.map_id']
  | _=>exact ⟨B,C⟩
def Q6z:List Value→Nat→Value→(List Value→Prop)→Prop
 | [],_,_,k=>k []
 | _::l,0,v,k=>k (v::l)
 | x::l,n+1,v,k=>Q6z l n v (fun l'=>k (x::l'))
def Q2f (l:List Value) (d:Option Tmp) (v:Value) (k:List Value→Prop):Prop:=
 match d with
 | some d=>Q6z l d v k
 | none=>k l
def Q6E:List Value→Nat→(Value→Prop)→Prop
 | [],_,k=>k undef
 | x::_,0,k=>k x
 | _::l,n+1,k=>Q6E l n k
def evK (l:List Value) (o:Operand) (k:Value→Prop):Prop:=
 match o with
 | .tmp t=>Q6E l t k
 | .const v=>k v
 | .global g=>k (.pointer (some ⟨g,0,none⟩))
 | .func f=>k (.func (.func f) #[] #[])
def Q1I (i:Nat) (e:Value):(a:List Nat)→Ik a.length→(Value→Prop)→Prop
 | [],_,k=>k e
 | [s],x,k=>if s=i then k x else k e
 | s::t::r,x,k=>if s=i then k x.1 else Q1I i e (t::r) x.2 k
def Cz (a b:List Nat) (x:Ik a.length) (d:Nat→Value):Nat→List Value→(List Value→Prop)→Prop
 | _,[],k=>k []
 | i,v::l,k=>match b.contains i with
  | true=>Q1I i (d i) a x (fun u=>Cz a b x d (i+1) l (fun l'=>k (u::l')))
  | false=>Q1I i v a x (fun u=>Cz a b x d (i+1) l (fun l'=>k (u::l')))
theorem X0D (l:List Value): ∀(n:Nat) (v:Value) (k:List Value→Prop),Q6z l n v k=k (l.set n v):=by
 induction l with
 | nil=>intro n v k;rfl
 | cons x l a=>intro n v k;cases n with
  | zero=>rfl
  | succ n=>simp only[Q6z,a,List.set_cons_succ]
theorem Q6n (l:List Value) (d:Option Tmp) (v:Value) (k:List Value→Prop):Q2f l d v k=k (put l d v):=by
 cases d with
 | none=>rfl
 | some d=>exact X0D l d v k
theorem X0P (l:List Value): ∀(n:Nat) (k:Value→Prop),Q6E l n k=k (get l n):=by
 induction l with
 | nil=>intro n k;rfl
 | cons x l a=>intro n k;cases n with
  | zero=>rfl
  | succ n=>simp only[Q6E,a];rfl
theorem X1V (l:List Value) (o:Operand) (k:Value→Prop):evK l o k=k (ev l o):=by
 cases o with
 | tmp t=>exact X0P l t k
 | _=>rfl
theorem Tl (i:Nat) (e:Value) (k:Value→Prop): ∀(a:List Nat) (x:Ik a.length),Q1I i e a x k=k (Di i e a x)
 | [],_=>rfl
 | [s],x=>by
  by_cases h:s=i
  ·exact (if_pos h).trans (congrArg k (if_pos h).symm)
  ·exact (if_neg h).trans (congrArg k (if_neg h).symm)
 | s::t::r,x=>by
  by_cases h:s=i
  ·exact (if_pos h).trans (congrArg k (if_pos h).symm)
  ·exact ((if_neg h).trans (Tl i e k (t::r) x.2)).trans (congrArg k (if_neg h).symm)
theorem Q3h (a c:List Nat) (x:Ik a.length) (d:Nat→Value) (l:List Value): ∀(i:Nat) (k:List Value→Prop),Cz a c x d i l k=k (N1 a c x d i l):=by
 induction l with
 | nil=>intro i k;rfl
 | cons v l b=>
  intro i k
  simp only[Cz,N1]
  split
  ·rename_i h;rw[Tl,b,if_pos h]
  ·rename_i h;rw[Tl,b,if_neg (by rw[h];simp)]
theorem Sd (b c a:List Nat) (h: ∀i,c.contains i=a.contains i) (x:Ik b.length) (d:Nat→Value) (l:List Value): ∀i,N1 b c x d i l=N1 b a x d i l:=by
 induction l with
 | nil=>intro i;rfl
 | cons v l e=>intro i;simp only[N1,e,h]
noncomputable def F7 (P:Program) (ops:List Oper) (next:List Value→World→Prop):List Oper→List Value→World→Prop
 | [],l,w=>next l w
 | o::a,l,w=>
  match o.guard with
  | none=>match o.op with
   | .move x=>evK l x fun v=>Q2f l o.dst v fun l=>F7 P ops next a l w
   | .assign x=>evK l x fun v=>Q2f l o.dst v fun l=>F7 P ops next a l w
   | _=>V0 P l o w (fun v w=>Q2f l o.dst v fun l=>F7 P ops next a l w)
  | some (j,b)=>match (ops[j]?).bind (·.dst) with
   | some d=>Q0 (get l d) b w (V0 P l o) (fun v w=>Q2f l o.dst v fun l=>F7 P ops next a l w)
   | none=>Q2f l o.dst undef fun l=>F7 P ops next a l w
theorem Dt (P:Program) (ops:List Oper) (next:List Value→World→Prop) (os:List Oper): ∀(l:List Value) (w:World),F7 P ops next os l w=Y2 P ops next os l w:=by
 induction os with
 | nil=>intro l w;rfl
 | cons o c a=>
  intro l w
  obtain ⟨dst,p,d,pos,e,g⟩:=o
  cases g with
  | none=>cases p<;>simp only[F7,Y2,Q6n,X1V,a,V0]
  | some q=>obtain ⟨j,b⟩:=q;simp only[F7,Y2,Q6n,a]
def K9 (T:World→World→Prop) (φ:Value→World→Prop):Prop:= ∀v w w',φ v w→T w w'→φ v w'
def dk (T:World→World→Prop) (φ:Value→World→Prop) (w:World):Value→World→Prop:=fun v w'=>T w w'∧φ v w'
def Q4Q (T:World→World→Prop) (A:(Value→World→Prop)→Prop) (a:(Value→World→Prop)→Prop):Prop:=
 ∃φ,K9 T φ∧A φ∧a φ
theorem Q7P: ∃f:(World→World→Prop)→((Value→World→Prop)→Prop)→((Value→World→Prop)→Prop)→Prop,f=Q4Q:=⟨_,rfl⟩
noncomputable def Q7:(World→World→Prop)→((Value→World→Prop)→Prop)→((Value→World→Prop)→Prop)→Prop:=Classical.choose Q7P
theorem Q8q:Q7=Q4Q:=Classical.choose_spec Q7P
def Q6D (w:World) (A:(World→World→Prop)→(World→Prop)→Prop):Prop:= ∃T B,B w.drew∧(∀w w',B w→T w w'→B w')∧A T B
theorem Q9T: ∃f:World→((World→World→Prop)→(World→Prop)→Prop)→Prop,f=Q6D:=⟨_,rfl⟩
noncomputable def dr:World→((World→World→Prop)→(World→Prop)→Prop)→Prop:=Classical.choose Q9T
theorem Q9P:dr=Q6D:=Classical.choose_spec Q9T
theorem Q0b {w:World} {A:(World→World→Prop)→(World→Prop)→Prop} (T:World→World→Prop) (B:World→Prop) (h:B w.drew) (a: ∀w w',B w→T w w'→B w') (b:A T B):dr w A:=by
 rw[Q9P];exact ⟨T,B,h,a,b⟩
theorem W9 {T:World→World→Prop} {A a:(Value→World→Prop)→Prop} (φ:Value→World→Prop) (b:K9 T φ) (h:A φ) (c:a φ):Q7 T A a:=by
 rw[Q8q];exact ⟨φ,b,h,c⟩
def Q2b (T:World→World→Prop) (A a:(List Value→Value→World→Prop)→Prop):Prop:=
 ∃φ,(∀xs,K9 T (φ xs))∧A φ∧a φ
theorem Q68: ∃f:(World→World→Prop)→((List Value→Value→World→Prop)→Prop)→((List Value→Value→World→Prop)→Prop)→Prop,f=Q2b:=⟨_,rfl⟩
noncomputable def Q16:(World→World→Prop)→((List Value→Value→World→Prop)→Prop)→((List Value→Value→World→Prop)→Prop)→Prop:=Classical.choose Q68
theorem Q64:Q16=Q2b:=Classical.choose_spec Q68
theorem Q6m {T:World→World→Prop} {A a:(List Value→Value→World→Prop)→Prop} (φ:List Value→Value→World→Prop) (b: ∀xs,K9 T (φ xs)) (h:A φ) (c:a φ):Q16 T A a:=by
 rw[Q64];exact ⟨φ,b,h,c⟩
abbrev Iv:=Nat×Nat
def Ap (a:Nat→Iv):Prop:= ∀i j,i≠j→(a i).2≤(a j).1∨(a j).2≤(a i).1
def dkR (T:World→World→Prop) (φ:Iv→Value→World→Prop) (w:World):Value→World→Prop:=fun v w'=>T w w'∧φ (w.heap.size,w'.heap.size) v w'
def Q28 (T:World→World→Prop) (A a:(Iv→Value→World→Prop)→Prop):Prop:=
 ∃φ,(∀p,K9 T (φ p))∧A φ∧a φ
theorem Q6q: ∃f:(World→World→Prop)→((Iv→Value→World→Prop)→Prop)→((Iv→Value→World→Prop)→Prop)→Prop,f=Q28:=⟨_,rfl⟩
noncomputable def Q2g:(World→World→Prop)→((Iv→Value→World→Prop)→Prop)→((Iv→Value→World→Prop)→Prop)→Prop:=Classical.choose Q6q
theorem Q6g:Q2g=Q28:=Classical.choose_spec Q6q
theorem Q6t {T:World→World→Prop} {A a:(Iv→Value→World→Prop)→Prop} (φ:Iv→Value→World→Prop) (b: ∀p,K9 T (φ p)) (h:A φ) (c:a φ):Q2g T A a:=by
 rw[Q6g];exact ⟨φ,b,h,c⟩
def Q4d (w:World) (A:(World→World→Prop)→(World→Prop)→Prop):Prop:= ∃T B,B w.drew∧(∀w w',B w→T w w'→B w')∧(∀w w',T w w'→w.heap.size≤w'.heap.size)∧A T B
theorem Q8j: ∃f:World→((World→World→Prop)→(World→Prop)→Prop)→Prop,f=Q4d:=⟨_,rfl⟩
noncomputable def drR:World→((World→World→Prop)→(World→Prop)→Prop)→Prop:=Classical.choose Q8j
theorem Q8i:drR=Q4d:=Classical.choose_spec Q8j
theorem X1Z {w:World} {A:(World→World→Prop)→(World→Prop)→Prop} (T:World→World→Prop) (B:World→Prop) (h:B w.drew) (a: ∀w w',B w→T w w'→B w') (b: ∀w w',T w w'→w.heap.size≤w'.heap.size) (c:A T B):drR w A:=by
 rw[Q8i];exact ⟨T,B,h,a,b,c⟩
def Sw:Bool→((Nat→Iv)→Prop)→Prop
 | false,k=>k fun _=>(0,0)
 | true,k=> ∀a:Nat→Iv,Ap a→k a
def OkI:Bool→(Nat→Iv)→Prop
 | false,a=>a=fun _=>(0,0)
 | true,a=>Ap a
def Mg:Bool→World→Nat
 | false,_=>0
 | true,w=>w.heap.size
theorem Q45 {r:Bool} {k:(Nat→Iv)→Prop} (h:Sw r k) {a:Nat→Iv} (b:OkI r a):k a:=by
 cases r with
 | false=>have b:a=_:=b;subst b;exact h
 | true=>exact h a b
def Rs (r:Bool) (a:Nat→Iv) (w:World):Prop:=OkI r a∧ ∀q,(a q).2≤Mg r w
theorem Rs.init {r:Bool} {w:World}:Rs r (fun _=>(0,0)) w:=⟨by cases r<;>first | rfl | exact fun _ _ _=> .inl (Nat.le_refl _),fun _=>Nat.zero_le _⟩
theorem Rs.step {r:Bool} {c:Nat→Iv} {w w':World} (h:Rs r c w) (g:Mg r w≤Mg r w') (q:Nat):Rs r (fun n=>if n=q then (Mg r w,Mg r w') else c n) w':=by
 obtain ⟨a,d⟩:=h
 refine ⟨?_,fun n=>?_⟩
 ·cases r with
  | false=>
   have a:c=_:=a
   subst a
   funext n
   simp[Mg]
  | true=>
   intro i j b
   have a:Ap c:=a
   simp only
   by_cases f:i=q
   ·subst f
    rw[if_pos rfl,if_neg (Ne.symm b)]
    exact .inr (d j)
   ·rw[if_neg f]
    by_cases e:j=q
    ·subst e
     rw[if_pos rfl]
     exact .inl (d i)
    ·rw[if_neg e]
     exact a i j b
 ·simp only
  split
  ·exact Nat.le_refl _
  ·exact Nat.le_trans (d n) g
noncomputable def runOp (P:Program) (ops:List Oper) (l:List Value) (o:Oper) (w:World) (K:Value→World→Prop):Prop:=
 match o.guard with
 | none=>V0 P l o w K
 | some (j,b)=>match (ops[j]?).bind (·.dst) with
  | some d=>Q0 (get l d) b w (V0 P l o) K
  | none=>False
inductive Ent where
  | val (v : Value)
  | ref (j : Nat)
def Ent.at (u:Nat→Value):Ent→Value
 | .val v=>v
 | .ref j=>u j
def G7 (u:Nat→Value) (S:List Ent):List Value:=S.map (Ent.at u)
def getE:List Ent→Nat→Ent
 | [],_=> .val undef
 | x::_,0=>x
 | _::l,n+1=>getE l n
def entOf (S:List Ent):Operand→Ent
 | .tmp t=>getE S t
 | .const v=> .val v
 | .global g=> .val (.pointer (some ⟨g,0,none⟩))
 | .func f=> .val (.func (.func f) #[] #[])
def mv (o:Oper):Option Operand:=
 match o.guard with
 | some _=>none
 | none=>match o.op with
  | .move x=>some x
  | .assign x=>some x
  | _=>none
def Q1j:List Ent→Nat→Ent→List Ent
 | [],_,_=>[]
 | _::l,0,e=>e::l
 | x::l,n+1,e=>x::Q1j l n e
def putE (S:List Ent) (d:Option Nat) (e:Ent):List Ent:=
 match d with
 | some d=>Q1j S d e
 | none=>S
def E6 (o:Oper):List Nat:=o.op.operands.toList.filterMap fun | .tmp t=>some t | _=>none
def N6 (ops:List Oper) (o:Oper):List Nat:=
 match o.guard with
 | none=>[]
 | some (j,_)=>match (ops[j]?).bind (·.dst) with | some d=>[d] | none=>[]
def Q05:List Nat→List Nat
 | []=>[]
 | x::l=>x::(Q05 l).filter (fun y=> !(y==x))
def Q3Q:Ent→List Nat
 | .ref j=>[j]
 | .val _=>[]
def Q0c (S:List Ent):List Nat→List Nat
 | []=>[]
 | s::l=>Q3Q (getE S s)++Q0c S l
def refs (ops:List Oper) (S:List Ent) (o:Oper):List Nat:=Q05 (Q0c S (N6 ops o++E6 o))
def Hh:List Nat→(Nat→Value)→((Nat→Value)→Prop)→Prop
 | [],u,k=>k u
 | j::a,u,k=> ∀t:Value,Hh a (fun n=>if n=j then t else u n) k
abbrev He:=List (Nat×List Nat×(List Value→Iv→Value→World→Prop))
def Jl:He→Nat→Option (List Nat×(List Value→Iv→Value→World→Prop))
 | [],_=>none
 | (i,φ)::l,j=>if i=j then some φ else Jl l j
def Hq (c:He) (u:Nat→Value) (b:Nat→Iv) (w:World) (a:Prop):List Nat→Prop
 | []=>a
 | j::d=>match Jl c j with
  | some ([],φ)=>φ [] (b j) (u j) w→Hq c u b w a d
  | _=>Hq c u b w a d
def Q0d (c:He) (u:Nat→Value) (b:Nat→Iv) (w:World) (a:Prop):List Nat→Prop
 | []=>a
 | j::d=>match Jl c j with
  | some (R,φ)=>φ (R.map u) (b j) (u j) w→Q0d c u b w a d
  | none=>Q0d c u b w a d
def Q49 (o:Oper):Bool:=match o.op with | .store .. =>true | _=>false
def Ac (o:Oper):Bool:=match o.op with | .call c=>(match c.callee with | .value (.func _)=>true | _=>false) | _=>false
def Q6M (r:Bool) (o:Oper):Bool:=match r with | true=>Ac o | false=>false
noncomputable def chain (P:Program) (r:Bool) (ops:List Oper) (T:World→World→Prop) (B:World→Prop) (J1:List Value→World→Prop) (tail:List Oper):Nat→List Oper→List Ent→He→List Nat→Prop
 | _,[],S,b,done=>Hh done (fun _=>undef) fun u=>Sw r fun c=> ∀w,B w→Q0d b u c w (F7 P ops J1 tail (G7 u S) w) done
 | i,o::a,S,b,done=>
  match mv o with
  | some x=>chain P r ops T B J1 tail (i+1) a (putE S o.dst (entOf S x)) b done
  | none=>match Q49 o with
   | true=>Q16 T (fun φ=>Hh (refs ops S o) (fun _=>undef) fun u=>Sw r fun c=> ∀w,B w→Hq b u c w (runOp P ops (G7 u S) o w (dk T (φ ((refs ops S o).map u)) w)) (refs ops S o))
    (fun φ=>chain P r ops T B J1 tail (i+1) a (putE S o.dst (.ref i)) (b++[(i,refs ops S o,fun xs (_:Iv)=>φ xs)]) (done++[i]))
   | false=>match Q6M r o with
    | true=>Q2g T (fun φ=>Hh (refs ops S o) (fun _=>undef) fun u=>Sw r fun c=> ∀w,B w→Hq b u c w (runOp P ops (G7 u S) o w (dkR T φ w)) (refs ops S o))
     (fun φ=>chain P r ops T B J1 tail (i+1) a (putE S o.dst (.ref i)) (b++[(i,[],fun (_:List Value)=>φ)]) (done++[i]))
    | false=>Q7 T (fun φ=>Hh (refs ops S o) (fun _=>undef) fun u=>Sw r fun c=> ∀w,B w→Hq b u c w (runOp P ops (G7 u S) o w (dk T φ w)) (refs ops S o))
     (fun φ=>chain P r ops T B J1 tail (i+1) a (putE S o.dst (.ref i)) (b++[(i,[],fun (_:List Value) (_:Iv)=>φ)]) (done++[i]))
def Ql:Op→Bool
 | .ready _ | .waits _ | .sliceToArrayPointer .. | .makeChan .. | .typeAssert .. | .go _ | .defer _ | .send .. | .recv .. | .select .. =>false
 | .call c=>match c.callee with | .invoke .. =>false | _=>true
 | _=>true
theorem Rw {l l':List Value} {x:Option Operand} (h: ∀y∈x.toArray,ev l y=ev l' y):evo l x=evo l' x:=by
 cases x with
 | none=>rfl
 | some y=>simp only[evo];rw[h y (by simp)]
theorem As {l l':List Value} {xs:Array Operand} (h: ∀y∈xs,ev l y=ev l' y):Av l xs=Av l' xs:=by
 unfold Av;exact List.map_congr_left fun y a=>h y (by simpa using a)
theorem Q2M {l l':List Value} {xs:Array (Nat×Operand)} (h: ∀y∈(xs.toList.map (·.2)).toArray,ev l y=ev l' y):evp l xs=evp l' xs:=by
 unfold evp
 refine List.map_congr_left fun y a=>?_
 rw[h y.2 (by simp;exact ⟨y.1,by simpa using a⟩)]
theorem Nv {P:Program} {l l':List Value} {o:Oper} (q:Ql o.op=true) (h: ∀x∈o.op.operands,ev l x=ev l' x):V0 P l o=V0 P l' o:=by
 obtain ⟨d,p,D,pos,B,g⟩:=o
 funext w K
 cases p with
 | call c=>
  obtain ⟨j,i,C⟩:=c
  have k:Av l i=Av l' i:=As fun y e=>h y (by simp[Op.operands,Call.operands];exact .inr e)
  cases j with
  | invoke r m=>simp[Ql] at q
  | builtin b=>simp only[V0,Nj,k]
  | value f=>
   have u:ev l f=ev l' f:=h f (by simp[Op.operands,Call.operands])
   cases f<;>simp only[V0,Nj,k,u]
 | build t v=>simp only[V0];rw[Q2M h]
 | buildSlice t n v=>simp only[V0];rw[Q2M h]
 | makeFunc f a b=>
  simp only[V0]
  rw[As (xs:=a) fun y e=>h y (by simp[Op.operands];exact .inl e),As (xs:=b) fun y e=>h y (by simp[Op.operands];exact .inr e)]
 | makeMap t r=>simp only[V0];rw[Rw h]
 | slice t x s A z=>
  simp only[V0]
  rw[h x (by simp[Op.operands]),Rw (x:=s) fun y e=>h y (by simp[Op.operands] at e⊢;simp[e]),Rw (x:=A) fun y e=>h y (by simp[Op.operands] at e⊢;simp[e]),Rw (x:=z) fun y e=>h y (by simp[Op.operands] at e⊢;simp[e])]
 | _=>first
  | (simp[Ql] at q;done)
  | (simp only[Op.operands,List.mem_toArray,List.mem_cons,List.not_mem_nil,or_false,forall_eq_or_imp,forall_eq] at h;simp only[V0,h];done)
  | rfl
def Ga:List Oper→List Nat→List Nat
 | [],acc=>acc
 | o::a,acc=>Ga a (acc++[(o.after.toList.filter (Region.binds .any)).foldl (fun s e=>s ||| 2 ^ e.on ||| acc.getD e.on 0) 0])
def P2 (a b:Oper):Bool:=
 match a.dst with
 | some d=>(E6 b).contains d||b.dst==some d
 | none=>false
def Q2o (a:List Nat) (ops:List Oper):Bool:=
 ops.zipIdx.all fun (o,j)=>ops.zipIdx.all fun (q,i)=> !(decide (i<j))|| !(P2 q o||P2 o q)||(a.getD j 0).testBit i
def Je (ops:List Oper):Bool:=
 ops.zipIdx.all fun (o,i)=>Ql o.op&&(o.after.toList.filter (Region.binds .any)).all (fun e=>decide (e.on<i))&&
  match o.guard with | none=>true | some (j,_)=>(o.after.toList.filter (Region.binds .any)).any (fun e=>e.on==j)
def Q3K (m:Region.Mode) (ops:List Oper):List Nat→List Nat→Bool
 | [],_=>true
 | j::L,seen=>((ops[j]?.map fun o=>o.after.toList).getD []).all (fun e=> !Region.binds m e||seen.contains e.on)&&Q3K m ops L (j::seen)
def I1 (m:Region.Mode) (ops:List Oper) (L:List Nat):Bool:=
 Q3K m ops L []&&(List.range ops.length).all (L.contains ·)&&ops.all (fun o=>o.after.toList.all fun e=> !Region.binds m e||decide (e.on<ops.length))
def Q93 (m:Region.Mode) (ops:List Oper):Nat→List Nat→List Nat→List Nat
 | 0,_,seen=>seen.reverse
 | n+1,a,seen=>
  match a.find? (fun j=>((ops[j]?.map fun o=>o.after.toList).getD []).all (fun e=> !Region.binds m e||seen.contains e.on)) with
  | some j=>Q93 m ops n (a.erase j) (j::seen)
  | none=>seen.reverse
def Qh:List Nat→Bool
 | []=>true
 | x::l=> !l.contains x&&Qh l
def I3 (ops:List Oper) (j:Nat):List Nat:=(ops[j]?.map fun o=>(o.after.toList.filter (Region.binds .any)).map (·.on)).getD []
def Es (ops:List Oper) (L:List Nat):Prop:= ∀a j b,L=a++j::b→ ∀i∈I3 ops j,i∈a
theorem Q3Y (f:Edge→Nat) (l:List Edge): ∀(s i:Nat),(l.foldl (fun s e=>s ||| 2 ^ e.on ||| f e) s).testBit i=true→
 s.testBit i=true∨ ∃e∈l,e.on=i∨(f e).testBit i=true:=by
 induction l with
 | nil=>intro s i h;exact .inl h
 | cons e l b=>
  intro s i h
  rcases b _ _ h with h | ⟨c,a,h⟩
  ·simp only[Nat.testBit_or,Bool.or_eq_true] at h
   rcases h with (h | h) | h
   ·exact .inl h
   ·rw[Nat.testBit_two_pow] at h
    exact .inr ⟨e,by simp, .inl (by simpa using h)⟩
   ·exact .inr ⟨e,by simp, .inr h⟩
  ·exact .inr ⟨c,by simp[a],h⟩
theorem Q2T (a:List Oper): ∀(b:List Oper) (acc:List Nat),acc.length+b.length=a.length→(∀k,acc.length≤k→a[k]? =b[k-acc.length]?)→
 (∀j i,j<acc.length→(acc.getD j 0).testBit i=true→ ∃k∈I3 a j,k=i∨(k<j∧(acc.getD k 0).testBit i=true))→
 (∀j,j<a.length→ ∀k∈I3 a j,k<j)→
 ∀j i,j<a.length→((Ga b acc).getD j 0).testBit i=true→ ∃k∈I3 a j,k=i∨(k<j∧((Ga b acc).getD k 0).testBit i=true)
 | [],acc,q,_,d,_=>by
  intro j i t h
  exact d j i (by simp at q;omega) h
 | o::b,acc,q,f,d,n=>by
  have u:a[acc.length]? =some o:=by rw[f _ (Nat.le_refl _)];simp
  refine Q2T a b _ (by simp at q⊢;omega) ?_ ?_ n
  ·intro k l
   simp only[List.length_append,List.length_cons,List.length_nil] at l⊢
   rw[f k (by omega)]
   obtain ⟨m,v⟩: ∃m,k-acc.length=m+1:=⟨k-acc.length-1,by omega⟩
   rw[v,List.getElem?_cons_succ]
   congr 1;omega
  ·intro j i t h
   simp only[List.length_append,List.length_cons,List.length_nil] at t
   have c: ∀k,k<acc.length→(acc++[(o.after.toList.filter (Region.binds .any)).foldl (fun s e=>s ||| 2 ^ e.on ||| acc.getD e.on 0) 0]).getD k 0=acc.getD k 0:=by
    intro k l
    simp only[List.getD_eq_getElem?_getD]
    rw[List.getElem?_append_left l]
   by_cases p:j<acc.length
   ·rw[c j p] at h
    obtain ⟨k,l,h⟩:=d j i p h
    exact ⟨k,l,h.imp id fun ⟨y,z⟩=>⟨y,by rw[c k (by omega)];exact z⟩⟩
   ·have r:j=acc.length:=by omega
    subst r
    simp only[List.getD_eq_getElem?_getD,List.getElem?_append_right (Nat.le_refl _),Nat.sub_self,List.getElem?_cons_zero,Option.getD_some] at h
    rcases Q3Y (fun e=>acc.getD e.on 0) _ _ _ (by simpa only[List.getD_eq_getElem?_getD] using h) with h | ⟨e,w,h⟩
    ·simp at h
    ·have g:e.on∈I3 a acc.length:=by
      unfold I3;rw[u];simp only[Option.map_some,Option.getD_some,List.mem_map];exact ⟨e,w,rfl⟩
     refine ⟨e.on,g,h.imp id fun h=>?_⟩
     have l:=n acc.length (by simp at q;omega) _ g
     exact ⟨l,by rw[c _ l];exact h⟩
theorem Gj {ops:List Oper} (h:Je ops=true): ∀j,j<ops.length→ ∀k∈I3 ops j,k<j:=by
 intro j b k a
 simp only[Je,List.all_eq_true,Bool.and_eq_true] at h
 unfold I3 at a
 rw[List.getElem?_eq_getElem b] at a
 simp only[Option.map_some,Option.getD_some,List.mem_map] at a
 obtain ⟨e,c,rfl⟩:=a
 have:=(h (ops[j],j) (by rw[List.mem_zipIdx_iff_getElem?];simp[b])).1.2 e c
 simpa using this
theorem Q55 {ops:List Oper} (o:Je ops=true) {L:List Nat} (m:Es ops L): ∀(j:Nat),j<ops.length→ ∀i b a,L=b++j::a→((Ga ops []).getD j 0).testBit i=true→i∈b:=by
 intro j
 induction j using Nat.strongRecOn with
 | _ j p=>
  intro d i b a f l
  obtain ⟨k,q,h⟩:=Q2T ops ops [] (by simp) (by simp) (by intro j i d;simp at d) (Gj o) j i d l
  have c:=m b j a f k q
  rcases h with rfl | ⟨e,h⟩
  ·exact c
  ·obtain ⟨g,n,rfl⟩:=List.append_of_mem c
   have:=p k e (by omega) i g (n++j::a) (by rw[f];simp) h
   exact List.mem_append_left _ this
theorem Uv: ∀(n:Nat) (a:List Nat),(∀k,k<n→k∈a)→n≤a.length
 | 0,_,_=>Nat.zero_le _
 | n+1,a,h=>by
  have b:=Uv n (a.erase n) fun k e=>(List.mem_erase_of_ne (by omega)).2 (h k (by omega))
  have d:=List.length_erase_of_mem (h n (by omega))
  have c:=List.length_pos_of_mem (h n (by omega))
  omega
theorem R8: ∀(n:Nat) (l:List Nat),l.Nodup→(∀k∈l,k<n)→l.length≤n
 | 0,l,_,h=>by
  cases l with
  | nil=>simp
  | cons x l=>exact absurd (h x (by simp)) (by omega)
 | n+1,l,b,h=>by
  by_cases c:n∈l
  ·have g:=R8 n (l.erase n) (b.erase n) fun k a=>by
    have f:=h k (List.mem_of_mem_erase a)
    have d:k≠n:=fun e=>by subst e;exact (List.Nodup.not_mem_erase b) a
    omega
   have f:=List.length_erase_of_mem c
   have d:=List.length_pos_of_mem c
   omega
  ·have:=R8 n l b fun k a=>by
    have f:=h k a
    have d:k≠n:=fun e=>by subst e;exact c a
    omega
   omega
theorem Q7S {m:Region.Mode} {e:Edge} (h:Region.binds .any e=true):Region.binds m e=true:=by
 unfold Region.binds at h⊢
 cases a:e.ground<;>rw[a] at h<;>first | rfl | (exact absurd h (by simp<;>rfl)) | (simp at h;cases h)
theorem Q6L {m:Region.Mode} {ops:List Oper} {L:List Nat} (h:I1 m ops L=true) (k:Nat) (b:k<ops.length): ∀e∈(ops[k]?.map fun o=>o.after.toList).getD [],Region.binds m e=true→e.on<ops.length:=by
 intro e a c
 simp only[I1,Bool.and_eq_true,List.all_eq_true] at h
 rw[List.getElem?_eq_getElem b] at a
 have:=h.2 ops[k] (List.getElem_mem b) e (by simpa using a)
 rw[c] at this
 simpa using this
theorem Q4j {m:Region.Mode} {ops:List Oper} {L:List Nat} (h:I1 m ops L=true): ∀k,k<ops.length→k∈L:=by
 intro k a
 simp only[I1,Bool.and_eq_true,List.all_eq_true] at h
 simpa using h.1.2 k (by simpa using a)
theorem Q6c (m:Region.Mode) (ops:Array Oper) (R:Je ops.toList=true) (X:List Nat) (Q:I1 m ops.toList X=true): ∀(fuel t:Nat) (listed:Array Bool) (a:List Nat),
 fuel+a.length=ops.size→listed.size=ops.size→(∀i,i<ops.size→(listed.getD i true=true↔i∈a))→a.Nodup→(∀i∈a,i<ops.size)→Es ops.toList a.reverse→
 (Region.linearise.go m ops fuel t listed a).Nodup∧(Region.linearise.go m ops fuel t listed a).length=ops.size∧Es ops.toList (Region.linearise.go m ops fuel t listed a)
 | 0,t,listed,a,hf,_,_,U,_,Y=>by
  simp only[Region.linearise.go]
  exact ⟨List.pairwise_reverse.2 (U.imp fun h=>Ne.symm h),by simp;omega,Y⟩
 | fuel+1,t,listed,a,hf,N,B,U,E,Y=>by
  -- one that isn't listed may come
  have Z: ∃k,k<ops.size∧k∉a:=by
   refine Classical.byContradiction fun V=>?_
   have M: ∀k,k<ops.size→k∈a:=fun k hk=>Classical.byContradiction fun h=>V ⟨k,hk,h⟩
   have:=Uv ops.size a M
   omega
  simp only[Region.linearise.go]
  split
  ·rename_i i hi
   have l:=List.mem_of_getElem? hi
   simp only[List.mem_filter,List.mem_range,Bool.and_eq_true,Bool.not_eq_true'] at l
   obtain ⟨d,z,p⟩:=l
   have A:i∉a:=fun h=>by rw[(B i d).2 h] at z;cases z
   refine Q6c m ops R X Q fuel _ _ _ (by simp;omega) (by simp[N]) ?_ (List.nodup_cons.2 ⟨A,U⟩) ?_ ?_
   ·intro j hj
    by_cases q:i=j
    ·subst q;simp[Array.getD,N,d]
    ·have:(listed.setIfInBounds i true).getD j true=listed.getD j true:=by
      simp only[Array.getD_eq_getD_getElem?]
      rw[Array.getElem?_setIfInBounds_ne q]
     rw[this,B j hj]
     simp[Ne.symm q]
   ·intro j hj
    rcases List.mem_cons.1 hj with rfl | hj
    ·exact d
    ·exact E j hj
   ·rw[List.reverse_cons]
    intro W j s hL k hk
    rcases List.eq_nil_or_concat s with rfl | ⟨r,x,rfl⟩
    ·have hh:=List.append_inj' hL rfl
     obtain ⟨h1,h2⟩:=hh
     simp only[List.cons.injEq,and_true] at h2
     subst h2;subst h1
     have aa:=hk
     unfold I3 at hk
     rw[show ops.toList[i]? =some ops[i] by simp[d]] at hk
     simp only[Option.map_some,Option.getD_some,List.mem_map,List.mem_filter] at hk
     obtain ⟨e,⟨g,ac⟩,rfl⟩:=hk
     rw[show ops[i]? =some ops[i] by simp[d]] at p
     simp only[Option.map_some,Option.getD_some,Array.all_eq_true'] at p
     have h4:=p e (by simpa using g)
     simp only[Bool.or_eq_true,Bool.not_eq_true'] at h4
     rcases h4 with h4 | h4
     ·rw[Q7S ac] at h4;cases h4
     ·have an:=Gj R i (by simpa using d) e.on aa
      have:listed.getD e.on true=true:=by
       simp only[Array.getD_eq_getD_getElem?] at h4⊢
       rw[Array.getElem?_eq_getElem (by omega)] at h4⊢
       simpa using h4
      simpa using (B e.on (by omega)).1 this
    ·rw[List.concat_eq_append,←List.cons_append,←List.append_assoc] at hL
     have hh:=List.append_inj' hL rfl
     exact Y W j r hh.1 k hk
  ·rename_i n
   exfalso
   obtain ⟨k0,v,C⟩:=Z
   have w:=Q
   simp only[I1,Bool.and_eq_true] at w
   -- every number of L0 that is none of an operation's has no edges: it may stand there, but isn't looked at
   have f: ∃k,k<ops.size∧k∉a∧ ∀e∈(ops.toList[k]?.map fun o=>o.after.toList).getD [],Region.binds m e=true→e.on∈a∨ops.size≤e.on:=by
    -- the first of L0 that is an operation's number and isn't listed
    have key: ∀(L b:List Nat),Q3K m ops.toList L b=true→(∀k∈b,k∈a∨ops.size≤k)→(∃k∈L,k<ops.size∧k∉a)→
     ∃k,k<ops.size∧k∉a∧ ∀e∈(ops.toList[k]?.map fun o=>o.after.toList).getD [],Region.binds m e=true→e.on∈a∨ops.size≤e.on:=by
     intro L
     induction L with
     | nil=>rintro b _ _ ⟨k,hk,_⟩;simp at hk
     | cons j L ih=>
      rintro b h hs ⟨k,hk,af,y⟩
      simp only[Q3K,Bool.and_eq_true,List.all_eq_true] at h
      by_cases hj:j∈a∨ops.size≤j
      ·refine ih (j::b) h.2 (fun x hx=>by rcases List.mem_cons.1 hx with rfl | hx;exact hj;exact hs x hx) ⟨k,?_,af,y⟩
       rcases List.mem_cons.1 hk with rfl | hk
       ·rcases hj with hj | hj
        ·exact absurd hj y
        ·omega
       ·exact hk
      ·have ad:j<ops.size:=by
        refine Nat.lt_of_not_le fun h=>hj (.inr h)
       refine ⟨j,ad,fun h=>hj (.inl h),fun e R O=>?_⟩
       have:=h.1 e R
       rw[O] at this
       exact hs _ (by simpa using this)
    exact key X [] w.1.1 (by simp) ⟨k0,Q4j Q k0 (by simpa using v),v,C⟩
   obtain ⟨k,c,ab,D⟩:=f
   by_cases H:k∈(List.range ops.size).filter fun i=> !listed.getD i true&&((ops[i]?).map (·.after.all fun e=> !Region.binds m e||listed.getD e.on false)).getD false
   ·have u:=List.length_pos_of_mem H
    have:=List.getElem?_eq_none_iff.1 n
    have:=Nat.mod_lt t u
    omega
   ·refine H ?_
    simp only[List.mem_filter,List.mem_range,Bool.and_eq_true,Bool.not_eq_true']
    refine ⟨c,?_,?_⟩
    ·cases hc:listed.getD k true with
     | false=>rfl
     | true=>exact absurd ((B k c).1 hc) ab
    ·rw[show ops[k]? =some ops[k] by simp[c]]
     simp only[Option.map_some,Option.getD_some,Array.all_eq_true']
     intro e g
     simp only[Bool.or_eq_true,Bool.not_eq_true']
     cases O:Region.binds m e with
     | false=>exact .inl rfl
     | true=>
      right
      rw[show ops.toList[k]? =some ops[k] by simp[c]] at D
      rcases D e (by simpa using g) O with h | h
      ·have J:=E _ h
       have:=(B e.on J).2 h
       simp only[Array.getD_eq_getD_getElem?] at this⊢
       rw[Array.getElem?_eq_getElem (by omega)] at this⊢
       simpa using this
      ·exact absurd h (by
        have:=Q6L Q k (by simpa using c) e (by rw[show ops.toList[k]? =some ops[k] by simp[c]];simpa using g) O
        simp at this;omega)
theorem Q3A (b:Bool) (ops:Array Oper) (t:Nat) (c:Je ops.toList=true) (g: ∀m,∃L,I1 m ops.toList L=true):
 (Region.schedule b ops t).Nodup∧(Region.schedule b ops t).length=ops.size∧Es ops.toList (Region.schedule b ops t):=by
 have key: ∀m t,(Region.linearise m ops t).Nodup∧(Region.linearise m ops t).length=ops.size∧Es ops.toList (Region.linearise m ops t):=by
  intro m t
  obtain ⟨L,d⟩:=g m
  refine Q6c m ops c L d _ _ _ _ (by simp) (by simp) ?_ List.nodup_nil (by simp) ?_
  ·intro i f;simp[Array.getD,f]
  ·intro e j a h;simp at h
 unfold Region.schedule
 split<;>exact key _ _
theorem Xm: ∀(ops:List Oper),Qh (O5 ops)=true→ ∀(i j:Nat) (a b:Oper) (d:Nat),ops[i]? =some a→ops[j]? =some b→a.dst=some d→b.dst=some d→i=j
 | [],_,i,j,a,b,d,h,_,_,_=>by simp at h
 | o::c,g,i,j,a,b,d,n,m,r,p=>by
  have f: ∀(k:Nat) (q:Oper),c[k]? =some q→q.dst=some d→d∈O5 c:=by
   intro k q v u
   simp only[O5,List.mem_filterMap]
   exact ⟨q,List.mem_of_getElem? v,u⟩
  have l:Qh (O5 c)=true:=by
   simp only[O5,List.filterMap_cons] at g
   split at g
   ·exact g
   ·simp only[Qh,Bool.and_eq_true] at g;exact g.2
  have e:o.dst=some d→d∉O5 c:=by
   intro s
   simp only[O5,List.filterMap_cons,s,Qh,Bool.and_eq_true,Bool.not_eq_true'] at g
   intro t
   have:=g.1
   simp only[List.contains_eq_mem,decide_eq_false_iff_not] at this
   exact this t
  cases i with
  | zero=>
   simp only[List.getElem?_cons_zero,Option.some.injEq] at n
   subst n
   cases j with
   | zero=>rfl
   | succ j=>exact absurd (f j b (by simpa using m) p) (e r)
  | succ i=>
   cases j with
   | zero=>
    simp only[List.getElem?_cons_zero,Option.some.injEq] at m
    subst m
    exact absurd (f i a (by simpa using n) r) (e p)
   | succ j=>rw[Xm c l i j a b d (by simpa using n) (by simpa using m) r p]
theorem Fe (u:Nat→Value): ∀(S:List Ent) (s:Nat),get (G7 u S) s=(getE S s).at u
 | [],s=>by simp[G7,get,getE,Ent.at]
 | e::S,0=>rfl
 | e::S,s+1=>Fe u S s
theorem Sz: ∀(S:List Ent) (s:Nat),getE S s=(S[s]?).getD (.val undef)
 | [],s=>by simp[getE]
 | e::S,0=>rfl
 | e::S,s+1=>by simp only[getE,List.getElem?_cons_succ];exact Sz S s
theorem Q04: ∀(S:List Ent) (n:Nat) (e:Ent),Q1j S n e=S.set n e
 | [],n,e=>by simp[Q1j]
 | x::S,0,e=>rfl
 | x::S,n+1,e=>by simp only[Q1j,List.set_cons_succ,Q04 S n e]
theorem Q35 {x:Nat}: ∀{l:List Nat},x∈l→x∈Q05 l
 | y::l,h=>by
  simp only[Q05,List.mem_cons,List.mem_filter]
  by_cases e:x=y
  ·exact .inl e
  ·exact .inr ⟨Q35 ((List.mem_cons.1 h).resolve_left e),by simpa using e⟩
theorem Ry {x:Nat}: ∀{l:List Nat},x∈Q05 l→x∈l
 | y::l,h=>by
  simp only[Q05,List.mem_cons,List.mem_filter] at h⊢
  exact h.imp id fun h=>Ry h.1
theorem Q2L {S:List Ent} {j:Nat}: ∀{l:List Nat} {s:Nat},s∈l→getE S s= .ref j→j∈Q0c S l
 | x::l,s,h,e=>by
  simp only[Q0c,List.mem_append]
  rcases List.mem_cons.1 h with rfl | h
  ·left;rw[e];simp[Q3Q]
  ·right;exact Q2L h e
theorem Rn {S:List Ent} {j:Nat}: ∀{l:List Nat},j∈Q0c S l→ ∃s∈l,getE S s= .ref j
 | x::l,h=>by
  simp only[Q0c,List.mem_append] at h
  rcases h with h | h
  ·refine ⟨x,by simp,?_⟩
   cases a:getE S x with
   | val v=>rw[a] at h;simp[Q3Q] at h
   | ref k=>rw[a] at h;simp[Q3Q] at h;rw[h]
  ·obtain ⟨s,b,e⟩:=Rn h
   exact ⟨s,by simp[b],e⟩
theorem Q0Z: ∀(a:List Nat) (b u:Nat→Value) (k:(Nat→Value)→Prop),Hh a b k→ ∃c,k c∧ ∀x,(x∈a→c x=u x)∧(x∉a→c x=b x)
 | [],b,u,k,h=>⟨b,h,fun x=>⟨fun h=>by simp at h,fun _=>rfl⟩⟩
 | j::a,b,u,k,h=>by
  obtain ⟨c,g,d⟩:=Q0Z a _ u k (h (u j))
  refine ⟨c,g,fun x=>⟨fun hx=>?_,fun hx=>?_⟩⟩
  ·by_cases f:x∈a
   ·exact (d x).1 f
   ·rw[(d x).2 f]
    rcases List.mem_cons.1 hx with rfl | hx
    ·simp
    ·exact absurd hx f
  ·rw[(d x).2 (fun h=>hx (List.mem_cons_of_mem _ h))]
   have:x≠j:=fun e=>hx (by simp[e])
   simp[this]
theorem Q0X {f:He} {u:Nat→Value} {e:Nat→Iv} {w:World} {a:Prop}: ∀{c:List Nat},Hq f u e w a c→(∀j∈c,∀φ,Jl f j=some ([],φ)→φ [] (e j) (u j) w)→a
 | [],h,_=>h
 | j::c,h,b=>by
  simp only[Hq] at h
  split at h
  ·rename_i φ g
   exact Q0X (h (b j (by simp) φ g)) fun k d=>b k (by simp[d])
  ·exact Q0X h fun k d=>b k (by simp[d])
theorem Pw {f:He} {u:Nat→Value} {e:Nat→Iv} {w:World} {a:Prop}: ∀{c:List Nat},Q0d f u e w a c→(∀j∈c,∀R φ,Jl f j=some (R,φ)→φ (R.map u) (e j) (u j) w)→a
 | [],h,_=>h
 | j::c,h,b=>by
  simp only[Q0d] at h
  split at h
  ·rename_i R φ g
   exact Pw (h (b j (by simp) R φ g)) fun k d=>b k (by simp[d])
  ·exact Pw h fun k d=>b k (by simp[d])
theorem Bp {a:He} {i j:Nat} {φ:List Nat×(List Value→Iv→Value→World→Prop)} (h:i≠j):Jl (a++[(i,φ)]) j=Jl a j:=by
 induction a with
 | nil=>simp[Jl,h]
 | cons p a b=>obtain ⟨k,ψ⟩:=p;simp only[List.cons_append,Jl,b]
theorem Ly {a:He} {i:Nat} {φ:List Nat×(List Value→Iv→Value→World→Prop)} (h:Jl a i=none):Jl (a++[(i,φ)]) i=some φ:=by
 induction a with
 | nil=>simp[Jl]
 | cons p a b=>
  obtain ⟨k,ψ⟩:=p
  simp only[Jl] at h
  split at h
  ·cases h
  ·rename_i c;simp only[List.cons_append,Jl,c,if_false];exact b h
def Hv (S:List Ent) (i:Nat) (o:Oper):Ent:=match mv o with | some x=>entOf S x | none=> .ref i
def L3 (S:List Ent):Nat→List Oper→List Ent
 | _,[]=>S
 | i,o::a=>L3 (putE S o.dst (Hv S i o)) (i+1) a
theorem Q2I: ∀(a:List Oper) (S:List Ent) (i k:Nat) (o:Oper),a[k]? =some o→
 L3 S i (a.take (k+1))=putE (L3 S i (a.take k)) o.dst (Hv (L3 S i (a.take k)) (i+k) o)
 | [],_,_,_,_,h=>by simp at h
 | x::a,S,i,0,o,h=>by
  simp only[List.getElem?_cons_zero,Option.some.injEq] at h
  subst h
  simp[L3]
 | x::a,S,i,k+1,o,h=>by
  simp only[List.getElem?_cons_succ] at h
  have:=Q2I a (putE S x.dst (Hv S i x)) (i+1) k o h
  simp only[List.take_succ_cons,L3]
  rw[this,show i+1+k=i+(k+1) from by omega]
def Xw (S:List Ent) (D:List Nat):Prop:= ∀e∈S,∀j,e= .ref j→j∈D
theorem Xw.getE {S:List Ent} {D:List Nat} (h:Xw S D) {s j:Nat} (e:Go.Emb.getE S s= .ref j):j∈D:=by
 rw[Sz] at e
 cases a:S[s]? with
 | none=>rw[a] at e;cases e
 | some x=>rw[a] at e;exact h x (List.mem_of_getElem? a) j e
theorem Xw.putE {S:List Ent} {D:List Nat} (h:Xw S D) (d:Option Nat) {e:Ent} (c: ∀j,e= .ref j→j∈D):Xw (Go.Emb.putE S d e) D:=by
 cases d with
 | none=>exact h
 | some d=>
  intro x a j b
  simp only[Go.Emb.putE,Q04] at a
  rcases List.mem_or_eq_of_mem_set a with a | rfl
  ·exact h x a j b
  ·exact c j b
theorem Xw.mono {S:List Ent} {D a:List Nat} (h:Xw S D) (c: ∀j∈D,j∈a):Xw S a:=fun e b j d=>c j (h e b j d)
theorem Xw.entOf {S:List Ent} {D:List Nat} (h:Xw S D) (x:Operand) {j:Nat} (e:Go.Emb.entOf S x= .ref j):j∈D:=by
 cases x with
 | tmp t=>exact h.getE e
 | _=>cases e
theorem Q7l {S:List Ent} {D:List Nat} (h:Xw S D) {u a:Nat→Value} (c: ∀j∈D,a j=u j):G7 a S=G7 u S:=by
 unfold G7
 refine List.map_congr_left fun e b=>?_
 cases e with
 | val v=>rfl
 | ref j=>exact c j (h _ b j rfl)
theorem Q0R {P:Program} {ops:List Oper} {l l':List Value} {o:Oper} (c:Ql o.op=true) (h: ∀s∈N6 ops o++E6 o,get l s=get l' s):runOp P ops l o=runOp P ops l' o:=by
 funext w K
 unfold runOp
 rw[Nv c fun x f=>by
  cases x with
  | tmp s=>exact h s (List.mem_append_right _ (by simp only[E6,List.mem_filterMap];exact ⟨.tmp s,by simpa using f,rfl⟩))
  | _=>rfl]
 cases a:o.guard with
 | none=>rfl
 | some q=>
  obtain ⟨j,b⟩:=q
  simp only
  cases e:(ops[j]?).bind (·.dst) with
  | none=>rfl
  | some d=>simp only;rw[h d (List.mem_append_left _ (by simp[N6,a,e]))]
theorem Q22 {P:Program} {ops:List Oper} {l:List Value} {o:Oper} {w:World} {K d:Value→World→Prop} (c: ∀v w,K v w→d v w) (h:runOp P ops l o w K):runOp P ops l o w d:=by
 unfold runOp at*
 split at h
 ·exact B9 c h
 ·split at h
  ·exact Ah ((Vc h).imp (fun ⟨a,b⟩=>⟨a,B9 c b⟩) (fun ⟨a,b⟩=>⟨a,c _ _ b⟩))
  ·exact h.elim
theorem Q1Y {P:Program} {ops:List Oper} {J1:List Value→World→Prop} {o:Oper} {a:List Oper} {l:List Value} {w:World}
 (h:runOp P ops l o w (fun v w=>Y2 P ops J1 a (put l o.dst v) w)):Y2 P ops J1 (o::a) l w:=by
 simp only[Y2]
 unfold runOp at h
 cases c:o.guard with
 | none=>simp only[c] at h⊢;exact h
 | some q=>
  obtain ⟨j,b⟩:=q
  simp only[c] at h⊢
  split at h
  ·rename_i d e
   first | exact h | (simp only[e];exact h) | (rw[e];exact h)
  ·exact h.elim
structure Whole (P : Program) (r : Bool) (ops : List Oper) (T : World → World → Prop) (B : World → Prop) (J1 : List Value → World → Prop) (tail : List Oper) (Φ : Nat → (Nat → Value) → Iv → World → Prop) (S : List Ent) (i : Nat) (rest : List Oper) (D : List Nat) : Prop where
  stable : ∀ k o, rest[k]? = some o → mv o = none → ∀ u p w w', Φ (i + k) u p w → T w w' → Φ (i + k) u p w'
  loc : ∀ k o, rest[k]? = some o → mv o = none → ∀ u u', (∀ r ∈ (i + k) :: refs ops (L3 S i (rest.take k)) o, u r = u' r) → Φ (i + k) u = Φ (i + k) u'
  run : ∀ k o, rest[k]? = some o → mv o = none → Ql o.op = true → ∀ u iv w, OkI r iv → B w → (∀ j ∈ refs ops (L3 S i (rest.take k)) o, Φ j u (iv j) w) →
    runOp P ops (G7 u (L3 S i (rest.take k))) o w (fun v w' => T w w' ∧ ∀ u', (∀ r ∈ refs ops (L3 S i (rest.take k)) o, u' r = u r) → u' (i + k) = v → Φ (i + k) u' (Mg r w, Mg r w') w')
  last : ∀ u iv w, OkI r iv → B w → (∀ j ∈ D, Φ j u (iv j) w) → (∀ k o, rest[k]? = some o → mv o = none → Φ (i + k) u (iv (i + k)) w) → Y2 P ops J1 tail (G7 u (L3 S i rest)) w
theorem Pv (P:Program) (r:Bool) (ops:List Oper) (T:World→World→Prop) (B:World→Prop) (J1:List Value→World→Prop) (tail:List Oper): ∀(d:List Oper) (i:Nat) (S:List Ent) (m:He) (done:List Nat),
 Xw S done→(∀j,j∈done→j<i∧ ∃φ,Jl m j=some φ)→(∀j φ,Jl m j=some φ→j<i∧ ∀r∈φ.1,r∈done)→chain P r ops T B J1 tail i d S m done→
 ∃Φ:Nat→(Nat→Value)→Iv→World→Prop,(∀j R φ,Jl m j=some (R,φ)→Φ j=fun u p w=>φ (R.map u) p (u j) w)∧Whole P r ops T B J1 tail Φ S i d done
 | [],i,S,m,done,O,W,M,h=>by
  refine ⟨fun j u p w=>match Jl m j with | some (R,φ)=>φ (R.map u) p (u j) w | none=>True,fun j R φ hj=>by simp[hj],⟨by simp,by simp,by simp,?_⟩⟩
  intro u A w y hB L _
  obtain ⟨C,q,g⟩:=Q0Z done _ u _ h
  have n:=Pw (Q45 q y w hB) fun j hj R φ U=>by
   have:=L j hj
   simp only[U] at this
   rw[(g j).1 hj,show R.map C=R.map u from List.map_congr_left fun r f=>(g r).1 ((M j _ U).2 r f)];exact this
  rw[Q7l O fun j hj=>(g j).1 hj,Dt] at n
  exact n
 | o::d,i,S,m,done,O,W,M,h=>by
  simp only[chain] at h
  cases z:mv o with
  | some x=>
   simp only[z] at h
   have c:Hv S i o=entOf S x:=by simp[Hv,z]
   obtain ⟨Φ,q,g⟩:=Pv P r ops T B J1 tail d (i+1) _ m done (O.putE _ fun j hj=>O.entOf x hj) (fun j hj=>⟨by have:=(W j hj).1;omega,(W j hj).2⟩) (fun j φ hj=>⟨by have:=(M j φ hj).1;omega,(M j φ hj).2⟩) h
   refine ⟨Φ,q,⟨?_,?_,?_,?_⟩⟩
   ·intro k l b a
    cases k with
    | zero=>simp only[List.getElem?_cons_zero,Option.some.injEq] at b;subst b;rw[z] at a;cases a
    | succ k=>have:=g.stable k l (by simpa using b) a;rwa [show i+1+k=i+(k+1) from by omega] at this
   ·intro k l b a u C N
    cases k with
    | zero=>simp only[List.getElem?_cons_zero,Option.some.injEq] at b;subst b;rw[z] at a;cases a
    | succ k=>
     simp only[List.take_succ_cons,L3,c] at N
     have:=g.loc k l (by simpa using b) a u C (by rwa [show i+1+k=i+(k+1) from by omega])
     rwa [show i+1+k=i+(k+1) from by omega] at this
   ·intro k l b a D u A w y hB f
    cases k with
    | zero=>simp only[List.getElem?_cons_zero,Option.some.injEq] at b;subst b;rw[z] at a;cases a
    | succ k=>
     simp only[List.take_succ_cons,L3,c] at f⊢
     have:=g.run k l (by simpa using b) a D u A w y hB f
     rwa [show i+1+k=i+(k+1) from by omega] at this
   ·intro u A w y hB L Y
    simp only[L3,c]
    refine g.last u A w y hB L fun k l b a=>?_
    have:=Y (k+1) l (by simpa using b) a
    rwa [show i+(k+1)=i+1+k from by omega] at this
  | none=>
   have h': ∃(R:List Nat) (φ:List Value→Iv→Value→World→Prop),(∀r∈R,r∈refs ops S o)∧(∀xs p,K9 T (φ xs p))∧
    (Hh (refs ops S o) (fun _=>undef) fun u=>Sw r fun A=> ∀w,B w→Hq m u A w (runOp P ops (G7 u S) o w (fun v w'=>T w w'∧φ (R.map u) (Mg r w,Mg r w') v w')) (refs ops S o))∧
    chain P r ops T B J1 tail (i+1) d (putE S o.dst (.ref i)) (m++[(i,R,φ)]) (done++[i]):=by
    cases Q:Q49 o with
    | true=>
     simp only[z,Q,Q64,Q2b] at h
     obtain ⟨φ,q,g,n⟩:=h
     exact ⟨_,fun xs _=>φ xs,fun _ h=>h,fun xs _=>q xs,g,n⟩
    | false=>
     cases hn:Q6M r o with
     | true=>
      simp only[z,Q,hn,Q6g,Q28] at h
      obtain ⟨φ,q,g,n⟩:=h
      cases r with
      | false=>cases hn
      | true=>exact ⟨[],fun _=>φ,by simp,fun _=>q,g,n⟩
     | false=>
      simp only[z,Q,hn,Q8q,Q4Q] at h
      obtain ⟨φ,q,g,n⟩:=h
      exact ⟨[],fun _ _=>φ,by simp,fun _ _=>q,g,n⟩
   clear h
   obtain ⟨R,φ,Z,ad,V,h⟩:=h'
   have ag: ∀r∈refs ops S o,r∈done:=fun r f=>by
    obtain ⟨s,_,he⟩:=Rn (Ry f)
    exact O.entOf (.tmp s) he
   have c:Hv S i o= .ref i:=by simp[Hv,z]
   have t:Jl m i=none:=by
    cases L:Jl m i with
    | none=>rfl
    | some ψ=>have:=(M i ψ L).1;omega
   obtain ⟨Φ,q,g⟩:=Pv P r ops T B J1 tail d (i+1) _ (m++[(i,R,φ)]) (done++[i])
    ((O.mono fun j hj=>List.mem_append_left _ hj).putE _ fun j hj=>by cases hj;simp)
    (fun j hj=>by
     rcases List.mem_append.1 hj with hj | hj
     ·obtain ⟨n,ψ,H⟩:=W j hj
      exact ⟨by omega,ψ,by rw[Bp (by omega)];exact H⟩
     ·simp at hj;subst hj;exact ⟨by omega,(R,φ),Ly t⟩)
    (fun j ψ hj=>by
     by_cases e:i=j
     ·subst e
      rw[Ly t] at hj;cases hj
      exact ⟨by omega,fun r f=>List.mem_append_left _ (ag r (Z r f))⟩
     ·rw[Bp e] at hj
      obtain ⟨n,H⟩:=M j ψ hj
      exact ⟨by omega,fun r f=>List.mem_append_left _ (H r f)⟩) h
   have J:Φ i=fun u p w=>φ (R.map u) p (u i) w:=q i R φ (Ly t)
   have E: ∀j X ψ,Jl m j=some (X,ψ)→Φ j=fun u p w=>ψ (X.map u) p (u j) w:=fun j X ψ hj=>q j X ψ (by rw[Bp (by have:=(M j _ hj).1;omega)];exact hj)
   refine ⟨Φ,E,⟨?_,?_,?_,?_⟩⟩
   ·intro k l b a
    cases k with
    | zero=>
     intro u p w w' ha hT
     rw[Nat.add_zero,J] at ha⊢
     exact ad _ _ _ _ _ ha hT
    | succ k=>have:=g.stable k l (by simpa using b) a;rwa [show i+1+k=i+(k+1) from by omega] at this
   ·intro k l b a u C N
    cases k with
    | zero=>
     simp only[List.getElem?_cons_zero,Option.some.injEq] at b
     subst b
     simp only[List.take_zero,L3,Nat.add_zero] at N
     rw[Nat.add_zero,J]
     funext p w
     show φ (R.map u) p (u i) w=φ (R.map C) p (C i) w
     rw[show R.map u=R.map C from List.map_congr_left fun r f=>N r (List.mem_cons_of_mem _ (Z r f)),N i (by simp)]
    | succ k=>
     simp only[List.take_succ_cons,L3,c] at N
     have:=g.loc k l (by simpa using b) a u C (by rwa [show i+1+k=i+(k+1) from by omega])
     rwa [show i+1+k=i+(k+1) from by omega] at this
   ·intro k l b a D u A w y hB f
    cases k with
    | zero=>
     simp only[List.getElem?_cons_zero,Option.some.injEq] at b
     subst b
     simp only[List.take_zero,L3,Nat.add_zero] at f⊢
     obtain ⟨C,n,H⟩:=Q0Z _ _ u _ V
     have h5:=Q0X (Q45 n y w hB) fun j hj ψ hψ=>by
      have h6:=f j hj
      rw[E j [] ψ hψ] at h6
      rw[(H j).1 hj];exact h6
     rw[Q0R D (l':=G7 u S)] at h5
     ·refine Q22 ?_ h5
      rintro v w' ⟨hT,hf⟩
      refine ⟨hT,fun u2 ac hi=>?_⟩
      rw[J]
      show φ (R.map u2) (Mg r w,Mg r w') (u2 i) w'
      rw[hi,show R.map u2=R.map C from List.map_congr_left fun r f=>by rw[ac r (Z r f),(H r).1 (Z r f)]]
      exact hf
     ·intro s Q
      rw[Fe,Fe]
      cases he:getE S s with
      | val v=>rfl
      | ref j=>exact (H j).1 (Q35 (Q2L Q he))
    | succ k=>
     simp only[List.take_succ_cons,L3,c] at f⊢
     have:=g.run k l (by simpa using b) a D u A w y hB f
     rwa [show i+1+k=i+(k+1) from by omega] at this
   ·intro u A w y hB L Y
    simp only[L3,c]
    refine g.last u A w y hB (fun j hj=>?_) fun k l b a=>?_
    ·rcases List.mem_append.1 hj with hj | hj
     ·exact L j hj
     ·simp at hj;subst hj
      have:=Y 0 o (by simp) z
      simpa using this
    ·have:=Y (k+1) l (by simpa using b) a
     rwa [show i+(k+1)=i+1+k from by omega] at this
def P3 (os:List Oper) (S0:List Ent) (q:Nat):Ent:=
 match os[q]? with
 | some o=>Hv (L3 S0 0 (os.take q)) q o
 | none=> .val undef
theorem Q62 {os:List Oper} {S0:List Ent} {q:Nat} {o:Oper} (h:os[q]? =some o):L3 S0 0 (os.take (q+1))=putE (L3 S0 0 (os.take q)) o.dst (P3 os S0 q):=by
 rw[Q2I os S0 0 q o h]
 simp[P3,h]
theorem Q5i (S:List Ent) (d:Option Nat) (e:Ent):(putE S d e).length=S.length:=by
 cases d with
 | none=>rfl
 | some d=>simp[putE,Q04]
theorem Bn (os:List Oper) (S0:List Ent): ∀q,q≤os.length→(L3 S0 0 (os.take q)).length=S0.length
 | 0,_=>by simp[L3]
 | q+1,h=>by rw[Q62 (List.getElem?_eq_getElem (by omega)),Q5i,Bn os S0 q (by omega)]
theorem Ez {os:List Oper} {S0:List Ent} (n:Qh (O5 os)=true) (r: ∀d∈O5 os,d<S0.length): ∀q,q≤os.length→
 (∀p,p<q→ ∀o d,os[p]? =some o→o.dst=some d→(L3 S0 0 (os.take q))[d]? =some (P3 os S0 p))∧
  (∀s,(∀p,p<q→ ∀o,os[p]? =some o→o.dst≠some s)→(L3 S0 0 (os.take q))[s]? =S0[s]?)
 | 0,_=>⟨fun p i=>absurd i (by omega),fun s _=>by simp[L3]⟩
 | q+1,h=>by
  obtain ⟨t,u⟩:=Ez n r q (by omega)
  have j:os[q]? =some os[q]:=List.getElem?_eq_getElem (by omega)
  have g:=Bn os S0 q (by omega)
  rw[Q62 j]
  cases a:os[q].dst with
  | none=>
   refine ⟨fun p i o d b c=>?_,fun s l=>u s fun p i=>l p (by omega)⟩
   by_cases e:p=q
   ·subst e;rw[j] at b;cases b;rw[a] at c;cases c
   ·exact t p (by omega) o d b c
  | some k=>
   have m:k<S0.length:=r k (by simp only[O5,List.mem_filterMap];exact ⟨os[q],List.getElem_mem _,a⟩)
   simp only[putE,Q04]
   refine ⟨fun p i o d b c=>?_,fun s l=>?_⟩
   ·by_cases e:p=q
    ·subst e;rw[j] at b;cases b;rw[a] at c;cases c
     rw[List.getElem?_set_self (by rw[g];exact m)]
    ·have f:k≠d:=by
      rintro rfl
      exact e (Xm os n p q o os[q] k b j c a)
     rw[List.getElem?_set_ne f]
     exact t p (by omega) o d b c
   ·have f:k≠s:=fun e=>l q (by omega) os[q] j (by rw[a,e])
    rw[List.getElem?_set_ne f]
    exact u s fun p i=>l p (by omega)
def Ld (os:List Oper) (p:Nat):Bool:=
 match os[p]? with
 | some o=>match mv o with
  | some (.tmp s)=> !(O5 os).contains s
  | some _=>true
  | none=>false
 | none=>false
theorem X1v {P:Program} {o:Oper} {x:Operand} (h:mv o=some x) (l:List Value) (w:World) (K:Value→World→Prop):o.guard=none∧V0 P l o w K=K (ev l x) w:=by
 unfold mv at h
 split at h
 ·cases h
 ·rename_i b
  refine ⟨b,?_⟩
  split at h
  ·rename_i y a;cases h;simp only[V0,a]
  ·rename_i y a;cases h;simp only[V0,a]
  ·cases h
theorem Q5N {P:Program} {ops:List Oper} {J1:List Value→World→Prop} {o:Oper} {c a:List Oper} {l l':List Value} {w:World} (p:Ql o.op=true) (n: ∀s∈N6 ops o++E6 o,get l' s=get l s)
 (f: ∀v w,Y2 P ops J1 c (put l o.dst v) w→Y2 P ops J1 a (put l' o.dst v) w) (h:Y2 P ops J1 (o::c) l w):Y2 P ops J1 (o::a) l' w:=by
 have m:V0 P l' o=V0 P l o:=Nv p fun x r=>by
  cases x with
  | tmp s=>exact n s (List.mem_append_right _ (by simp only[E6,List.mem_filterMap];exact ⟨.tmp s,by simpa using r,rfl⟩))
  | _=>rfl
 simp only[Y2] at h⊢
 cases e:o.guard with
 | none=>simp only[e] at h⊢;rw[m];exact B9 f h
 | some q=>
  obtain ⟨j,b⟩:=q
  simp only[e] at h⊢
  cases g:(ops[j]?).bind (·.dst) with
  | none=>simp only[g] at h⊢;exact f _ _ h
  | some d=>
   simp only[g] at h⊢
   rw[n d (List.mem_append_left _ (by simp[N6,e,g])),m]
   exact Ah ((Vc h).imp (fun ⟨i,k⟩=>⟨i,B9 f k⟩) (fun ⟨i,k⟩=>⟨i,f _ _ k⟩))
structure At (os : List Oper) (l0 : List Value) (pre : List Nat) (l : List Value) (u : Nat → Value) : Prop where
  len : l.length = l0.length
  done : ∀ p ∈ pre, ∀ o d, os[p]? = some o → o.dst = some d → l[d]? = some ((P3 os (l0.map .val) p).at u)
  rest : ∀ s, (∀ p ∈ pre, ∀ o, os[p]? = some o → o.dst ≠ some s) → l[s]? = l0[s]?
  refs : ∀ p ∈ pre, ∀ r, P3 os (l0.map .val) p = .ref r → r ∈ pre ∧ ∃ o, os[r]? = some o ∧ mv o = none
theorem X2E {P:Program} {r0:Bool} {ops os:List Oper} {T:World→World→Prop} {B:World→Prop} {J1:List Value→World→Prop} {m:Nat} {C:List Value} {Φ:Nat→(Nat→Value)→Iv→World→Prop}
 (bit:Nat→Nat→Bool) (b1: ∀o∈os,Ql o.op=true) (hn:Qh (O5 os)=true) (hd: ∀d∈O5 os,d<C.length)
 (ae: ∀p q a b,p<q→os[p]? =some a→os[q]? =some b→(P2 a b||P2 b a)=true→bit p q=true)
 (hg: ∀q o j b,os[q]? =some o→o.guard=some (j,b)→ ∃p,p<q∧os[p]? =ops[j]? ∧bit p q=true)
 (hm:m≤os.length) (ak: ∀q,m≤q→q<os.length→ ∀p,p<q→bit p q=true∨(p<m∧Ld os p=true))
 (hT: ∀w w',B w→T w w'→B w') (hM: ∀w w',T w w'→Mg r0 w≤Mg r0 w') (hW:Whole P r0 ops T B J1 (os.drop m) Φ (C.map .val) 0 (os.take m) [])
 (L:List Nat) (H:L.Nodup) (bs:L.length=os.length) (ac: ∀q∈L,q<os.length)
 (hC: ∀c q f,L=c++q::f→ ∀p,bit p q=true→p<os.length→p∈c):
 ∀(f c:List Nat),L=c++f→(∀q∈c,q<m)→ ∀(l:List Value) (u:Nat→Value) (iv:Nat→Iv) (w:World),Rs r0 iv w→At os C c l u→B w→
  (∀r∈c,∀o,os[r]? =some o→mv o=none→Φ r u (iv r) w∧ ∀j∈refs ops (L3 (C.map .val) 0 (os.take r)) o,j∈c)→Y2 P ops J1 (f.filterMap (os[·]?)) l w:=by
 have a9: ∀d∈O5 os,d<(C.map Ent.val).length:=by simpa using hd
 have a3: ∀q,q≤m→(os.take m).take q=os.take q:=fun q hq=>by rw[List.take_take,Nat.min_eq_left hq]
 have U: ∀q,q<m→(os.take m)[q]? =os[q]? :=fun q hq=>by rw[List.getElem?_take_of_lt hq]
 -- when all of the first part is done
 have cw: ∀(c f:List Nat),L=c++f→(∀q∈c,q<m)→(∀q,q<m→q∈c)→ ∀l u iv w,Rs r0 iv w→At os C c l u→B w→
  (∀r∈c,∀o,os[r]? =some o→mv o=none→Φ r u (iv r) w∧ ∀j∈refs ops (L3 (C.map .val) 0 (os.take r)) o,j∈c)→Y2 P ops J1 (f.filterMap (os[·]?)) l w:=by
  intro c f E D ao l u iv w hI hA hB hΦ
  have ck: ∀(f c:List Nat),L=c++f→m≤c.length→(∀q,q∈c↔q<c.length)→f.filterMap (os[·]?)=os.drop c.length:=by
   intro f
   induction f with
   | nil=>
    intro c E _ _
    rw[List.append_nil] at E
    rw[←E,bs];simp
   | cons q f ih=>
    intro c E c8 aw
    have cq:q∉c:=by
     rw[E] at H
     intro h
     exact (List.nodup_append.1 H).2.2 q h q (by simp) rfl
    have c0:c.length≤q:=Nat.le_of_not_lt fun h=>cq ((aw q).2 h)
    have X:=ac q (by rw[E];simp)
    have cy:q=c.length:=by
     refine Nat.le_antisymm (Nat.le_of_not_lt fun h=>?_) c0
     have:=hC c q f E c.length ((ak q (by omega) X _ h).resolve_right (by omega)) (by omega)
     have:=(aw _).1 this
     omega
    subst cy
    rw[List.filterMap_cons,List.getElem?_eq_getElem X]
    simp only
    rw[ih (c++[c.length]) (by rw[E];simp) (by simp;omega) (by intro x;simp only[List.mem_append,aw,List.mem_singleton,List.length_append,List.length_cons,List.length_nil];omega)]
    simp only[List.length_append,List.length_cons,List.length_nil]
    rw[←List.drop_eq_getElem_cons X]
  have bi:c.length=m:=by
   have J:=R8 m c (by rw[E] at H;exact (List.nodup_append.1 H).1) D
   have R:=Uv m c ao
   omega
  have J:=ck f c E (by omega) (fun q=>by rw[bi];exact ⟨D q,ao q⟩)
  rw[J,bi]
  have R:=hW.last u iv w hI.1 hB (by simp) fun k o hk t=>by
   have ay:k<m:=by
    have:=(List.getElem?_eq_some_iff.1 hk).1
    simp at this;omega
   rw[Nat.zero_add]
   rw[U k ay] at hk
   exact (hΦ k (ao k ay) o hk t).1
  have h3:l=G7 u (L3 (C.map .val) 0 (os.take m)):=by
   obtain ⟨g1,g2⟩:=Ez hn a9 m hm
   apply List.ext_getElem?
   intro s
   rw[G7,List.getElem?_map]
   by_cases hs: ∃p,p<m∧ ∃o,os[p]? =some o∧o.dst=some s
   ·obtain ⟨p,hp,o,i,z⟩:=hs
    rw[hA.done p (ao p hp) o s i z,g1 p hp o s i z];rfl
   ·have ad: ∀p,p<m→ ∀o,os[p]? =some o→o.dst≠some s:=fun p hp o i z=>hs ⟨p,hp,o,i,z⟩
    rw[hA.rest s (fun p hp=>ad p (D p hp)),g2 s ad,List.getElem?_map]
    cases C[s]? <;>rfl
  rw[h3];exact R
 -- moves that come late, among the tail
 have cf: ∀(f c:List Nat) (k:Nat),L=c++f→m≤k→k≤os.length→(∀q,m≤q→(q∈c↔q<k))→(∀p∈f,p<m→Ld os p=true)→
  ∀(l lf:List Value) (w:World),l.length=C.length→lf.length=C.length→(∀s,(∀p∈f,p<m→ ∀o,os[p]? =some o→o.dst≠some s)→l[s]? =lf[s]?)→
   (∀p∈f,p<m→ ∀o d x,os[p]? =some o→mv o=some x→o.dst=some d→lf[d]? =some (ev C x))→(∀s,(O5 os).contains s=false→l[s]? =C[s]?)→
   Y2 P ops J1 (os.drop k) lf w→Y2 P ops J1 (f.filterMap (os[·]?)) l w:=by
  intro f
  induction f with
  | nil=>
   intro c k E a7 bu ab _ l lf w hl bd ar _ _ h
   rw[List.append_nil] at E
   have hk:k=os.length:=by
    refine Nat.le_antisymm bu (Nat.le_of_not_lt fun D=>?_)
    have c1:k∉c:=fun e=>by have:=(ab k a7).1 e;omega
    have J:=R8 os.length (k::c) (List.nodup_cons.2 ⟨c1,E▸H⟩) (fun x hx=>by
     rcases List.mem_cons.1 hx with rfl | hx
     ·exact D
     ·exact ac x (by rw[E];exact hx))
    simp at J
    rw[E] at bs;omega
   have:l=lf:=List.ext_getElem? fun s=>ar s (by simp)
   rw[this]
   rw[hk,List.drop_length] at h
   exact h
  | cons q f ih=>
   intro c k E a7 bu ab al l lf w hl bd ar ax aa h
   have O:q∉c:=by
    rw[E] at H
    intro h
    exact (List.nodup_append.1 H).2.2 q h q (by simp) rfl
   have co:q∉f:=by
    rw[E] at H
    exact (List.nodup_cons.1 (List.nodup_append.1 H).2.1).1
   have X:=ac q (by rw[E];simp)
   have A:os[q]? =some os[q]:=List.getElem?_eq_getElem X
   have cb:L=(c++[q])++f:=by rw[E];simp
   rw[List.filterMap_cons,A]
   simp only
   by_cases Y:q<m
   ·-- a late move
    have D:=al q (by simp) Y
    unfold Ld at D
    rw[A] at D
    simp only at D
    cases t:mv os[q] with
    | none=>rw[t] at D;cases D
    | some x=>
     rw[t] at D
     have hx:ev l x=ev C x:=by
      cases x with
      | tmp s=>
       simp only[Bool.not_eq_true'] at D
       simp only[ev,get,List.getD_eq_getElem?_getD,aa s D]
      | _=>rfl
     obtain ⟨bb,a2⟩:=X1v (P:=P) t l w (fun v w=>Y2 P ops J1 (f.filterMap (os[·]?)) (put l os[q].dst v) w)
     simp only[Y2,bb]
     rw[a2,hx]
     refine ih (c++[q]) k cb a7 bu (fun q' a4=>?_) (fun p hp=>al p (by simp[hp])) _ lf w ?_ bd (fun s hs=>?_) (fun p hp=>ax p (by simp[hp])) (fun s hs=>?_) h
     ·rw[←ab q' a4];simp only[List.mem_append,List.mem_singleton]
      exact ⟨fun e=>e.resolve_right (by omega), .inl⟩
     ·cases g:os[q].dst<;>simp[put,hl]
     ·cases g:os[q].dst with
      | none=>
       refine ar s fun p hp M o i=>?_
       rcases List.mem_cons.1 hp with rfl | hp
       ·rw[A] at i;cases i;rw[g];simp
       ·exact hs p hp M o i
      | some d=>
       have ap:d<C.length:=hd d (by simp only[O5,List.mem_filterMap];exact ⟨os[q],List.getElem_mem _,g⟩)
       simp only[put]
       by_cases e:d=s
       ·subst e
        rw[List.getElem?_set_self (by rw[hl];exact ap)]
        exact (ax q (by simp) Y os[q] d x A t g).symm
       ·rw[List.getElem?_set_ne e]
        refine ar s fun p hp M o i=>?_
        rcases List.mem_cons.1 hp with rfl | hp
        ·rw[A] at i;cases i;rw[g];simpa using e
        ·exact hs p hp M o i
     ·cases g:os[q].dst with
      | none=>exact aa s hs
      | some d=>
       have ah:(O5 os).contains d=true:=by
        rw[List.contains_iff_mem];simp only[O5,List.mem_filterMap];exact ⟨os[q],List.getElem_mem _,g⟩
       simp only[put]
       rw[List.getElem?_set_ne (by rintro rfl;rw[hs] at ah;cases ah)]
       exact aa s hs
   ·have Y:m≤q:=by omega
    have cr:q=k:=by
     have J:k≤q:=Nat.le_of_not_lt fun e=>O ((ab q Y).2 e)
     refine Nat.le_antisymm (Nat.le_of_not_lt fun e=>?_) J
     have:=hC c q f E k ((ak q Y X k e).resolve_right (by omega)) (by omega)
     have:=(ab k a7).1 this
     omega
    subst cr
    rw[List.drop_eq_getElem_cons X] at h
    have b7: ∀p∈f,p<m→bit p q=true→False:=fun p hp M hb=>by
     have:=hC c q f E p hb (by omega)
     rw[E] at H
     exact (List.nodup_append.1 H).2.2 p this p (by simp[hp]) rfl
    refine Q5N (b1 _ (List.getElem_mem _)) (fun s hs=>?_) (fun v w' hv=>?_) h
    ·have:l[s]? =lf[s]? :=ar s fun p hp M o i z=>by
      rcases List.mem_cons.1 hp with rfl | hp
      ·omega
      refine b7 p hp M ?_
      rcases List.mem_append.1 hs with hs | hs
      ·unfold N6 at hs
       split at hs
       ·simp at hs
       ·rename_i j b bv
        split at hs
        ·rename_i d b0
         simp only[List.mem_singleton] at hs
         subst hs
         obtain ⟨p',aq,bo,hb⟩:=hg q os[q] j b A bv
         obtain ⟨o',bp,cj⟩:=Option.bind_eq_some_iff.1 b0
         have:=Xm os hn p' p o' o s (by rw[bo,bp]) i cj z
         subst this;exact hb
        ·simp at hs
      ·exact ae p q o os[q] (by omega) i A (by simp only[P2,z,Bool.or_eq_true];left;left;simpa using hs)
     simp only[get,List.getD_eq_getElem?_getD,this]
    ·refine ih (c++[q]) (q+1) cb (by omega) (by omega) (fun q' a4=>?_) (fun p hp=>al p (by simp[hp])) _ _ w' ?_ ?_ (fun s hs=>?_) (fun p hp M o d x i ba z=>?_) (fun s hs=>?_) hv
     ·simp only[List.mem_append,List.mem_singleton,ab q' a4];omega
     ·cases g:os[q].dst<;>simp[put,hl]
     ·cases g:os[q].dst<;>simp[put,bd]
     ·have hb:l[s]? =lf[s]? ∨os[q].dst=some s:=by
       left
       refine ar s fun p hp M o i=>?_
       rcases List.mem_cons.1 hp with rfl | hp
       ·omega
       ·exact hs p hp M o i
      cases g:os[q].dst with
      | none=>
       rcases hb with hb | hb
       ·exact hb
       ·rw[g] at hb;cases hb
      | some d=>
       simp only[put]
       by_cases e:d=s
       ·subst e
        have ap:d<C.length:=hd d (by simp only[O5,List.mem_filterMap];exact ⟨os[q],List.getElem_mem _,g⟩)
        rw[List.getElem?_set_self (by rw[hl];exact ap),List.getElem?_set_self (by rw[bd];exact ap)]
       ·rw[List.getElem?_set_ne e,List.getElem?_set_ne e]
        rcases hb with hb | hb
        ·exact hb
        ·rw[g] at hb;cases hb;exact absurd rfl e
     ·have ci:=ax p (by simp[hp]) M o d x i ba z
      cases g:os[q].dst with
      | none=>exact ci
      | some d'=>
       have Z:d'≠d:=by
        rintro rfl
        have:=Xm os hn p q o os[q] d' i A z g
        omega
       simp only[put]
       rw[List.getElem?_set_ne Z];exact ci
     ·cases g:os[q].dst with
      | none=>exact aa s hs
      | some d=>
       have ah:(O5 os).contains d=true:=by
        rw[List.contains_iff_mem];simp only[O5,List.mem_filterMap];exact ⟨os[q],List.getElem_mem _,g⟩
       simp only[put]
       rw[List.getElem?_set_ne (by rintro rfl;rw[hs] at ah;cases ah)]
       exact aa s hs
 intro f
 induction f with
 | nil=>
  intro c E D l u iv w hI hA hB hΦ
  refine cw c [] E D ?_ l u iv w hI hA hB hΦ
  intro q hq
  rw[List.append_nil] at E
  refine Classical.byContradiction fun a0=>?_
  have J:=R8 os.length (q::c) (List.nodup_cons.2 ⟨a0,E▸H⟩) (fun k hk=>by
   rcases List.mem_cons.1 hk with rfl | hk
   ·omega
   ·exact ac k (by rw[E];exact hk))
  simp at J
  rw[E] at bs;omega
 | cons q f ih=>
  intro c E D l u iv w hI hA hB hΦ
  have O:q∉c:=by
   rw[E] at H
   intro h
   exact (List.nodup_append.1 H).2.2 q h q (by simp) rfl
  have X:=ac q (by rw[E];simp)
  by_cases Y:m≤q
  ·-- the tail begins
   have am: ∀p,p<m→p∉c→Ld os p=true:=fun p hp bz=>by
    rcases ak q Y X p (by omega) with h | h
    ·exact absurd (hC c q f E p h (by omega)) bz
    ·exact h.2
   have bg: ∀p,Ld os p=true→ ∀o,os[p]? =some o→ ∃x,mv o=some x∧ ∀s,x= .tmp s→(O5 os).contains s=false:=by
    intro p hp o i
    unfold Ld at hp
    rw[i] at hp
    simp only at hp
    cases N:mv o with
    | none=>rw[N] at hp;cases hp
    | some x=>
     refine ⟨x,rfl,fun s hs=>?_⟩
     subst hs
     rw[N] at hp;simpa using hp
   obtain ⟨g1,g2⟩:=Ez hn a9 m hm
   have bk: ∀s,(O5 os).contains s=false→ ∀(p:Nat) o,os[p]? =some o→o.dst≠some s:=by
    intro s hs p o i z
    have:(O5 os).contains s=true:=by
     rw[List.contains_iff_mem];simp only[O5,List.mem_filterMap]
     exact ⟨o,List.mem_of_getElem? i,z⟩
    rw[hs] at this;cases this
   refine cf (q::f) c m E (Nat.le_refl _) hm (fun q' a4=>⟨fun e=>D q' e,fun e=>absurd a4 (by omega)⟩) (fun p hp M=>am p M fun e=>by
    rw[E] at H
    exact (List.nodup_append.1 H).2.2 p e p hp rfl) l (G7 u (L3 (C.map .val) 0 (os.take m))) w hA.len (by simp[G7,Bn os _ m hm]) (fun s hs=>?_) (fun p hp M o d x i ba z=>?_) (fun s hs=>?_) ?_
   ·rw[G7,List.getElem?_map]
    by_cases av: ∃p,p<m∧ ∃o,os[p]? =some o∧o.dst=some s
    ·obtain ⟨p,hp,o,i,z⟩:=av
     by_cases V:p∈c
     ·rw[hA.done p V o s i z,g1 p hp o s i z];rfl
     ·exfalso
      have cc:p∈L:=by
       refine Classical.byContradiction fun a0=>?_
       have J:=R8 os.length (p::L) (List.nodup_cons.2 ⟨a0,H⟩) (fun k hk=>by
        rcases List.mem_cons.1 hk with rfl | hk
        ·omega
        ·exact ac k hk)
       simp at J;omega
      rw[E] at cc
      rcases List.mem_append.1 cc with h | h
      ·exact V h
      ·exact hs p h hp o i z
    ·have ad: ∀p,p<m→ ∀o,os[p]? =some o→o.dst≠some s:=fun p hp o i z=>av ⟨p,hp,o,i,z⟩
     rw[hA.rest s (fun p hp=>ad p (D p hp)),g2 s ad,List.getElem?_map]
     cases C[s]? <;>rfl
   ·have V:p∉c:=fun e=>by
     rw[E] at H
     exact (List.nodup_append.1 H).2.2 p e p hp rfl
    rw[G7,List.getElem?_map,g1 p M o d i z]
    simp only[Option.map_some,Option.some.injEq]
    have W:P3 os (C.map .val) p=entOf (L3 (C.map .val) 0 (os.take p)) x:=by simp[P3,i,Hv,ba]
    rw[W]
    obtain ⟨x',ch,cz⟩:=bg p (am p M V) o i
    rw[ba] at ch;cases ch
    cases x with
    | tmp s=>
     have hs:=cz s rfl
     obtain ⟨_,k2⟩:=Ez (S0:=C.map .val) hn a9 p (by omega)
     simp only[entOf]
     rw[Sz,k2 s (fun p' _ o' bp=>bk s hs p' o' bp),List.getElem?_map]
     simp only[ev,get,List.getD_eq_getElem?_getD]
     cases C[s]? <;>rfl
    | _=>rfl
   ·exact hA.rest s fun p _ o i=>bk s hs p o i
   ·refine hW.last u iv w hI.1 hB (by simp) fun k o hk t=>?_
    have ay:k<m:=by
     have:=(List.getElem?_eq_some_iff.1 hk).1
     simp at this;omega
    rw[Nat.zero_add]
    rw[U k ay] at hk
    refine (hΦ k (Classical.byContradiction fun bz=>?_) o hk t).1
    obtain ⟨x,hx,_⟩:=bg k (am k ay bz) o hk
    rw[t] at hx;cases hx
  ·have Y:q<m:=by omega
   have A:os[q]? =some os[q]:=List.getElem?_eq_getElem X
   obtain ⟨g1,g2⟩:=Ez (S0:=C.map .val) hn a9 q (by omega)
   -- what a slot holds that this operation reads
   have af: ∀s,(∃p o,os[p]? =some o∧o.dst=some s∧p<q∧bit p q=true)∨s∈E6 os[q]→
    get l s=(getE (L3 (C.map .val) 0 (os.take q)) s).at u∧ ∀r,getE (L3 (C.map .val) 0 (os.take q)) s= .ref r→r∈c∧ ∃o,os[r]? =some o∧mv o=none:=by
    intro s hs
    have ad:(∀p∈c,∀o,os[p]? =some o→o.dst≠some s)→(∀p,p<q→ ∀o,os[p]? =some o→o.dst≠some s)→
     get l s=(getE (L3 (C.map .val) 0 (os.take q)) s).at u∧ ∀r,getE (L3 (C.map .val) 0 (os.take q)) s= .ref r→r∈c∧ ∃o,os[r]? =some o∧mv o=none:=by
     intro J R
     rw[Sz,g2 s R,List.getElem?_map]
     simp only[get,List.getD_eq_getElem?_getD,hA.rest s J]
     cases C[s]? with
     | none=>exact ⟨rfl,fun r hr=>by cases hr⟩
     | some v=>exact ⟨rfl,fun r hr=>by cases hr⟩
    have be: ∀p o,os[p]? =some o→o.dst=some s→p<q→p∈c→
     get l s=(getE (L3 (C.map .val) 0 (os.take q)) s).at u∧ ∀r,getE (L3 (C.map .val) 0 (os.take q)) s= .ref r→r∈c∧ ∃o,os[r]? =some o∧mv o=none:=by
     intro p o hp i aq V
     rw[Sz,g1 p aq o s hp i]
     simp only[get,List.getD_eq_getElem?_getD,hA.done p V o s hp i,Option.getD_some]
     first | exact ⟨rfl,hA.refs p V⟩ | exact ⟨trivial,hA.refs p V⟩
    rcases hs with ⟨p,o,hp,i,aq,hb⟩ | hs
    ·exact be p o hp i aq (hC c q f E p hb (by omega))
    ·by_cases av: ∃(p:Nat) (o:Oper),os[p]? =some o∧o.dst=some s
     ·obtain ⟨p,o,hp,i⟩:=av
      have c2:=(List.getElem?_eq_some_iff.1 hp).1
      have aa: ∀p' o',os[p']? =some o'→o'.dst=some s→p'=p:=fun p' o' J R=>Xm os hn p' p o' o s J hp R i
      rcases Nat.lt_trichotomy p q with h | h | h
      ·have hb:=ae p q o os[q] h hp A (by simp only[P2,i,Bool.or_eq_true];left;left;simpa using hs)
       exact be p o hp i h (hC c q f E p hb (by omega))
      ·subst h
       exact ad (fun p' aj o' J R=>by rw[aa p' o' J R] at aj;exact O aj) (fun p' aj o' J R=>by rw[aa p' o' J R] at aj;omega)
      ·refine ad (fun p' aj o' J R=>?_) (fun p' aj o' J R=>by rw[aa p' o' J R] at aj;omega)
       have e:=aa p' o' J R
       subst e
       have hb:=ae q p' os[q] o' h A J (by simp only[P2,R,Bool.or_eq_true];right;left;simpa using hs)
       obtain ⟨p1,p2,V⟩:=List.append_of_mem aj
       have:=hC p1 p' (p2++q::f) (by rw[E,V];simp) q hb X
       exact O (by rw[V];exact List.mem_append_left _ this)
     ·exact ad (fun p _ o J R=>av ⟨p,o,J,R⟩) (fun p _ o J R=>av ⟨p,o,J,R⟩)
   have b2: ∀s∈N6 ops os[q]++E6 os[q],(∃p o,os[p]? =some o∧o.dst=some s∧p<q∧bit p q=true)∨s∈E6 os[q]:=by
    intro s hs
    rcases List.mem_append.1 hs with hs | hs
    ·left
     unfold N6 at hs
     split at hs
     ·simp at hs
     ·rename_i j b bv
      split at hs
      ·rename_i d b0
       simp only[List.mem_singleton] at hs
       subst hs
       obtain ⟨p,aq,bo,hb⟩:=hg q os[q] j b A bv
       obtain ⟨o,i,z⟩:=Option.bind_eq_some_iff.1 b0
       exact ⟨p,o,by rw[bo,i],z,aq,hb⟩
      ·simp at hs
    ·exact .inr hs
   have az:=U q Y
   rw[A] at az
   rw[List.filterMap_cons,A]
   simp only
   -- the state behind it
   have step: ∀(v:Value) (u':Nat→Value) (bc:Nat→Iv) (w':World),Rs r0 bc w'→(∀p∈c,(P3 os (C.map .val) p).at u'=(P3 os (C.map .val) p).at u)→v=(P3 os (C.map .val) q).at u'→
    (∀r,P3 os (C.map .val) q= .ref r→r∈q::c∧ ∃o,os[r]? =some o∧mv o=none)→B w'→(∀r∈q::c,∀o,os[r]? =some o→mv o=none→Φ r u' (bc r) w'∧ ∀j∈refs ops (L3 (C.map .val) 0 (os.take r)) o,j∈q::c)→
    Y2 P ops J1 (f.filterMap (os[·]?)) (put l os[q].dst v) w':=by
    intro v u' bc w' cu hu hv hr cs ce
    have Q: ∀x,x∈c++[q]↔x∈q::c:=by intro x;simp[or_comm]
    refine ih (c++[q]) (by rw[E];simp) (fun x hx=>by rcases List.mem_cons.1 ((Q x).1 hx) with rfl | hx;exact Y;exact D x hx) _ u' bc w' cu ?_ cs (fun r hr o i N=>⟨(ce r ((Q r).1 hr) o i N).1,fun j hj=>(Q j).2 ((ce r ((Q r).1 hr) o i N).2 j hj)⟩)
    have a1: ∀p∈c++[q],∀r,P3 os (C.map .val) p= .ref r→r∈c++[q]∧ ∃o,os[r]? =some o∧mv o=none:=by
     intro p hp r bx
     rcases List.mem_cons.1 ((Q p).1 hp) with rfl | hp
     ·exact ⟨(Q r).2 (hr r bx).1,(hr r bx).2⟩
     ·obtain ⟨J,R⟩:=hA.refs p hp r bx
      exact ⟨List.mem_append_left _ J,R⟩
    cases g:os[q].dst with
    | none=>
     refine ⟨hA.len,?_,?_,a1⟩
     ·intro p hp o d i z
      rcases List.mem_cons.1 ((Q p).1 hp) with rfl | hp
      ·rw[A] at i;cases i;rw[g] at z;cases z
      ·rw[hu p hp];exact hA.done p hp o d i z
     ·intro s hs;exact hA.rest s fun p hp=>hs p (List.mem_append_left _ hp)
    | some d0=>
     have ap:d0<C.length:=hd d0 (by simp only[O5,List.mem_filterMap];exact ⟨os[q],List.getElem_mem _,g⟩)
     refine ⟨by simp[put,hA.len],?_,?_,a1⟩
     ·intro p hp o d i z
      rcases List.mem_cons.1 ((Q p).1 hp) with rfl | hp2
      ·rw[A] at i;cases i
       rw[g] at z;cases z
       simp only[put]
       rw[List.getElem?_set_self (by rw[hA.len];exact ap),hv]
      ·have Z:d0≠d:=by
        rintro rfl
        have:=Xm os hn p q o os[q] d0 i A z g
        subst this;exact O hp2
       simp only[put]
       rw[List.getElem?_set_ne Z,hu p hp2]
       exact hA.done p hp2 o d i z
     ·intro s hs
      have Z:d0≠s:=fun e=>hs q (by simp) os[q] A (by rw[g,e])
      simp only[put]
      rw[List.getElem?_set_ne Z]
      exact hA.rest s fun p hp=>hs p (List.mem_append_left _ hp)
   cases t:mv os[q] with
   | some x=>
    have W:P3 os (C.map .val) q=entOf (L3 (C.map .val) 0 (os.take q)) x:=by simp[P3,A,Hv,t]
    -- a move: what the operand holds
    have hx:ev l x=(entOf (L3 (C.map .val) 0 (os.take q)) x).at u∧ ∀r,entOf (L3 (C.map .val) 0 (os.take q)) x= .ref r→r∈c∧ ∃o,os[r]? =some o∧mv o=none:=by
     cases x with
     | tmp s=>
      have hs:s∈E6 os[q]:=by
       unfold mv at t
       split at t
       ·cases t
       ·simp only[E6,List.mem_filterMap]
        split at t
        ·rename_i y hy;cases t;exact ⟨.tmp s,by rw[hy];simp[Op.operands],rfl⟩
        ·rename_i y hy;cases t;exact ⟨.tmp s,by rw[hy];simp[Op.operands],rfl⟩
        ·cases t
      exact af s (.inr hs)
     | _=>exact ⟨rfl,fun r hr=>by cases hr⟩
    have bb:os[q].guard=none:=by
     unfold mv at t
     split at t
     ·cases t
     ·assumption
    simp only[Y2,bb]
    have a2:V0 P l os[q] w (fun v w=>Y2 P ops J1 (f.filterMap (os[·]?)) (put l os[q].dst v) w)=Y2 P ops J1 (f.filterMap (os[·]?)) (put l os[q].dst (ev l x)) w:=by
     unfold mv at t
     rw[bb] at t
     simp only at t
     split at t
     ·rename_i y hy;cases t;simp only[V0,hy]
     ·rename_i y hy;cases t;simp only[V0,hy]
     ·cases t
    rw[a2]
    refine step _ u iv w hI (fun _ _=>rfl) (by rw[W];exact hx.1) (fun r hr=>by
     rw[W] at hr
     obtain ⟨J,R⟩:=hx.2 r hr
     exact ⟨List.mem_cons_of_mem _ J,R⟩) hB (fun r hr o i N=>by
     rcases List.mem_cons.1 hr with rfl | hr
     ·rw[A] at i;cases i;rw[t] at N;cases N
     ·exact ⟨(hΦ r hr o i N).1,fun j hj=>List.mem_cons_of_mem _ ((hΦ r hr o i N).2 j hj)⟩)
   | none=>
    have W:P3 os (C.map .val) q= .ref q:=by simp[P3,A,Hv,t]
    have bj:=hW.run q os[q] az t (b1 _ (List.getElem_mem _)) u iv w hI.1 hB
    rw[a3 q (by omega),Nat.zero_add] at bj
    have ct:=hW.stable
    have bq:=bj (fun j hj=>by
     obtain ⟨s,hs,he⟩:=Rn (Ry hj)
     obtain ⟨J,o,R,h3⟩:=(af s (b2 s hs)).2 j he
     exact (hΦ j J o R h3).1)
    have cl: ∀j∈refs ops (L3 (C.map .val) 0 (os.take q)) os[q],j∈c:=fun j hj=>by
     obtain ⟨s,hs,he⟩:=Rn (Ry hj)
     exact ((af s (b2 s hs)).2 j he).1
    refine Q1Y ?_
    rw[Q0R (b1 _ (List.getElem_mem _)) (l':=G7 u (L3 (C.map .val) 0 (os.take q))) (fun s hs=>by rw[Fe];exact (af s (b2 s hs)).1)]
    refine Q22 ?_ bq
    intro v w' ⟨br,hφ⟩
    have Z: ∀r∈c,r≠q:=fun r hr e=>O (e▸hr)
    refine step v (fun n=>if n=q then v else u n) (fun n=>if n=q then (Mg r0 w,Mg r0 w') else iv n) w' (hI.step (hM w w' br) q) ?_ (by rw[W];simp[Ent.at]) (fun r hr=>by rw[W] at hr;cases hr;exact ⟨by simp,os[q],A,t⟩) (hT w w' hB br) ?_
    ·intro p hp
     cases he:P3 os (C.map .val) p with
     | val x=>rfl
     | ref r=>
      have:=Z r (hA.refs p hp r he).1
      simp[Ent.at,this]
    ·intro r hr o i N
     rcases List.mem_cons.1 hr with rfl | hr
     ·rw[A] at i;cases i
      refine ⟨?_,fun j hj=>List.mem_cons_of_mem _ (cl j hj)⟩
      simp only[if_true]
      exact hφ _ (fun x hx=>by simp[Z x (cl x hx)]) (by simp)
     ·obtain ⟨f1,f2⟩:=hΦ r hr o i N
      have b6:=D r hr
      have bf:=Z r hr
      have hl:=hW.loc r o (by rw[U r b6];exact i) N (fun n=>if n=q then v else u n) u (fun x hx=>by
       rw[a3 r (by omega),Nat.zero_add] at hx
       have:x≠q:=by
        rcases List.mem_cons.1 hx with rfl | hx
        ·exact bf
        ·exact Z x (f2 x hx)
       simp[this])
      have hs:=ct r o (by rw[U r b6];exact i) N
      rw[Nat.zero_add] at hs hl
      refine ⟨?_,fun j hj=>List.mem_cons_of_mem _ (f2 j hj)⟩
      simp only[if_neg bf]
      rw[hl]
      exact hs _ _ _ _ f1 br
def X1E:Op→Bool
 | .move _ | .assign _ | .fieldAddr .. | .indexAddr .. | .field .. | .index .. | .binOp .. | .unOp .. | .extract .. | .pick .. | .makeFunc .. | .nilCheck _ | .slice .. =>true
 | _=>false
def ready (ops:List Oper) (a:List Nat) (j:Nat):Bool:=(I3 ops j).all (a.contains ·)
def X26 (ops:List Oper) (j:Nat):Bool:=match ops[j]? with | some o=>X1E o.op | none=>false
def Q6U (ops:List Oper):Nat→List Nat→List Nat→List Nat
 | 0,_,a=>a.reverse
 | n+1,b,a=>
  match b.find? (fun j=>X26 ops j&&ready ops a j) with
  | some j=>Q6U ops n (b.erase j) (j::a)
  | none=>match b.find? (ready ops a) with
   | some j=>Q6U ops n (b.erase j) (j::a)
   | none=>a.reverse
def L6 (ops:List Oper):List Nat:=Q6U ops ops.length (List.range ops.length) []
def R1 (ops:List Oper) (a:List Nat) (p q:Nat):Bool:=((Ga ops []).getD (a.getD q 0) 0).testBit (a.getD p 0)
def Y6 (ops:List Oper) (a:List Nat):List Oper:=a.map fun i=>ops.getD i default
def cutA (ops:List Oper) (a:List Nat):Nat→Nat
 | 0=>0
 | j+1=>if (List.range j).all (fun i=>R1 ops a i j||Ld (Y6 ops a) i) then cutA ops a j else j+1
def X2B (ops:List Oper) (a:List Nat) (c n:Nat):Bool:=(List.range n).all fun q=>(List.range q).all fun p=>decide (p<c)||R1 ops a p q
def La (ops:List Oper) (a:List Nat) (n:Nat):Nat:=if X2B ops a (cutA ops a n) n then cutA ops a n else n
theorem Q3b (ops:List Oper) (a:List Nat): ∀n,cutA ops a n≤n∧ ∀q,cutA ops a n≤q→q<n→ ∀p,p<q→R1 ops a p q=true∨Ld (Y6 ops a) p=true
 | 0=>⟨Nat.le_refl _,fun q _ h=>by omega⟩
 | j+1=>by
  obtain ⟨g,f⟩:=Q3b ops a j
  simp only[cutA]
  split
  ·rename_i h
   refine ⟨by omega,fun q c b p d=>?_⟩
   by_cases e:q=j
   ·subst e
    simpa using List.all_eq_true.1 h p (by simpa using d)
   ·exact f q c (by omega) p d
  ·exact ⟨Nat.le_refl _,fun q c b=>by omega⟩
theorem Q7w (ops:List Oper) (a:List Nat) (n:Nat):La ops a n≤n∧ ∀q,La ops a n≤q→q<n→ ∀p,p<q→R1 ops a p q=true∨(p<La ops a n∧Ld (Y6 ops a) p=true):=by
 obtain ⟨f,g⟩:=Q3b ops a n
 unfold La
 split
 ·rename_i i
  refine ⟨f,fun q d b p e=>?_⟩
  by_cases c:p<cutA ops a n
  ·exact (g q d b p e).imp id fun h=>⟨c,h⟩
  ·left
   have:=List.all_eq_true.1 (List.all_eq_true.1 i q (by simpa using b)) p (by simpa using e)
   simpa [c] using this
 ·exact ⟨Nat.le_refl _,fun q d b=>by omega⟩
def Q3O (ops:List Oper) (a:List Nat):Bool:=
 a.length==ops.length&&(List.range ops.length).all (a.contains ·)&&Qh a&&a.all (fun i=>decide (i<ops.length))&&
  (List.range ops.length).all fun q=>(List.range q).all fun p=> !R1 ops a q p
def Uk (ops:List Oper) (n:Nat):Bool:=
 Je ops&&Q2o (Ga ops []) ops&&Qh (O5 (Y6 ops (L6 ops)))&&(O5 (Y6 ops (L6 ops))).all (fun d=>decide (d<n))&&
  (I1 .any ops (List.range ops.length)&&I1 .text ops (List.range ops.length)&&I1 .gc ops (Q93 .gc ops ops.length (List.range ops.length) []))&&Q3O ops (L6 ops)
theorem Ta: ∀{l:List Nat},Qh l=true→l.Nodup
 | [],_=>List.nodup_nil
 | x::l,h=>by
  simp only[Qh,Bool.and_eq_true,Bool.not_eq_true'] at h
  exact List.nodup_cons.2 ⟨by simpa using h.1,Ta h.2⟩
theorem Q4q {ops:List Oper}: ∀(b:List Oper) (a:List Nat),a.length+b.length=ops.length→(∀k,a.length≤k→ops[k]? =b[k-a.length]?)→
 (∀j k,j<a.length→k∈I3 ops j→(a.getD j 0).testBit k=true)→ ∀j k,j<ops.length→k∈I3 ops j→((Ga b a).getD j 0).testBit k=true
 | [],a,i,_,c=>fun j k p d=>c j k (by simp at i;omega) d
 | o::b,a,i,f,c=>by
  have q:ops[a.length]? =some o:=by rw[f _ (Nat.le_refl _)];simp
  refine Q4q b _ (by simp at i⊢;omega) ?_ ?_
  ·intro k d
   simp only[List.length_append,List.length_cons,List.length_nil] at d⊢
   rw[f k (by omega)]
   obtain ⟨m,r⟩: ∃m,k-a.length=m+1:=⟨k-a.length-1,by omega⟩
   rw[r,List.getElem?_cons_succ]
   congr 1;omega
  ·intro j k p d
   simp only[List.length_append,List.length_cons,List.length_nil] at p
   by_cases g:j<a.length
   ·simp only[List.getD_eq_getElem?_getD,List.getElem?_append_left g]
    simpa only[List.getD_eq_getElem?_getD] using c j k g d
   ·have n:j=a.length:=by omega
    subst n
    simp only[List.getD_eq_getElem?_getD,List.getElem?_append_right (Nat.le_refl _),Nat.sub_self,List.getElem?_cons_zero,Option.getD_some]
    unfold I3 at d
    rw[q] at d
    simp only[Option.map_some,Option.getD_some,List.mem_map] at d
    obtain ⟨e,t,rfl⟩:=d
    have key: ∀(l:List Edge) (s:Nat),(e∈l∨s.testBit e.on=true)→(l.foldl (fun s e=>s ||| 2 ^ e.on ||| (a[e.on]?).getD 0) s).testBit e.on=true:=by
     intro l
     induction l with
     | nil=>intro s h;simpa using h
     | cons x l u=>
      intro s h
      refine u _ ?_
      rcases h with h | h
      ·rcases List.mem_cons.1 h with rfl | h
       ·right;simp
       ·exact .inl h
      ·right;simp[h]
    exact key _ _ (.inl t)
theorem Eu {α β:Type} {f g:α→Option β}: ∀{l:List α},(∀x∈l,f x=g x)→l.filterMap f=l.filterMap g
 | [],_=>rfl
 | x::l,h=>by
  rw[List.filterMap_cons,List.filterMap_cons,h x (by simp),Eu fun y a=>h y (by simp[a])]
structure Arr (ops : List Oper) (ord : List Nat) (L : List Nat) : Prop where
  hpl : ∀ o ∈ Y6 ops ord, Ql o.op = true
  hclash : ∀ p q a b, p < q → (Y6 ops ord)[p]? = some a → (Y6 ops ord)[q]? = some b → (P2 a b || P2 b a) = true → R1 ops ord p q = true
  hg : ∀ q o j b, (Y6 ops ord)[q]? = some o → o.guard = some (j, b) → ∃ p, p < q ∧ (Y6 ops ord)[p]? = ops[j]? ∧ R1 ops ord p q = true
  hn : L.Nodup
  hlt : ∀ q ∈ L, q < (Y6 ops ord).length
  hC : ∀ pre q post, L = pre ++ q :: post → ∀ p, R1 ops ord p q = true → p < (Y6 ops ord).length → p ∈ pre
  hLl : L.length = (Y6 ops ord).length
theorem Bl {ops:Array Oper} {c:List Nat} (X:Je ops.toList=true) (hc:Q2o (Ga ops.toList []) ops.toList=true) (be:I1 .any ops.toList (List.range ops.toList.length)=true) (bd:I1 .text ops.toList (List.range ops.toList.length)=true) (bc:I1 .gc ops.toList (Q93 .gc ops.toList ops.toList.length (List.range ops.toList.length) [])=true) (N:Q3O ops.toList c=true) (b:Bool) (t:Nat):
 (Region.schedule b ops t).filterMap (ops[·]?)=((Region.schedule b ops t).map (c.idxOf ·)).filterMap ((Y6 ops.toList c)[·]?)∧Arr ops.toList c ((Region.schedule b ops t).map (c.idxOf ·))∧(Y6 ops.toList c).length=ops.toList.length∧(Region.schedule b ops t).Nodup∧ ∀i∈Region.schedule b ops t,i<ops.toList.length∧c.getD (c.idxOf i) 0=i:=by
 simp only[Q3O,Bool.and_eq_true,beq_iff_eq] at N
 obtain ⟨⟨⟨⟨ai,W⟩,ar⟩,M⟩,H⟩:=N
 have ag:=Ta ar
 have ae:(Y6 ops.toList c).length=ops.toList.length:=by simp[Y6,ai]
 have g: ∀p,p<ops.toList.length→c.getD p 0<ops.toList.length:=by
  intro p U
  simp only[List.getD_eq_getElem?_getD]
  rw[List.getElem?_eq_getElem (by omega)]
  have:=List.all_eq_true.1 M c[p] (List.getElem_mem _)
  simpa using this
 have d: ∀p,p<ops.toList.length→(Y6 ops.toList c)[p]? =ops.toList[c.getD p 0]? :=by
  intro p U
  have n:=g p U
  simp only[List.getD_eq_getElem?_getD] at n
  rw[List.getElem?_eq_getElem (by omega:p<c.length)] at n
  simp only[Option.getD_some] at n
  simp only[Y6,List.getElem?_map,List.getD_eq_getElem?_getD]
  rw[List.getElem?_eq_getElem (by omega:p<c.length)]
  simp only[Option.map_some,Option.getD_some]
  rw[List.getElem?_eq_getElem n]
  simp
 obtain ⟨Q,J,w⟩:=Q3A b ops t X (fun m=>by cases m<;>exact ⟨_,by assumption⟩)
 have f:=Q0S b ops t
 generalize Region.schedule b ops t=L0 at Q J w f⊢
 have v: ∀i,i<ops.toList.length→i∈c:=fun i s=>by simpa using List.all_eq_true.1 W i (by simpa using s)
 have l: ∀i,i<ops.toList.length→c.idxOf i<ops.toList.length∧c.getD (c.idxOf i) 0=i:=by
  intro i s
  have n:=List.idxOf_lt_length_of_mem (v i s)
  refine ⟨by omega,?_⟩
  simp only[List.getD_eq_getElem?_getD]
  rw[List.getElem?_eq_getElem n]
  simp
 have r: ∀p,p<ops.toList.length→c.idxOf (c.getD p 0)=p:=by
  intro p U
  simp only[List.getD_eq_getElem?_getD]
  rw[List.getElem?_eq_getElem (by omega:p<c.length)]
  simp only[Option.getD_some]
  exact List.Nodup.idxOf_getElem ag p (by omega)
 have aa: ∀p q,p<q→q<ops.toList.length→R1 ops.toList c q p=false:=by
  intro p q V u
  have:=List.all_eq_true.1 (List.all_eq_true.1 H q (by simpa using u)) p (by simpa using V)
  simpa using this
 have a1:L0.filterMap (ops[·]?)=(L0.map (c.idxOf ·)).filterMap ((Y6 ops.toList c)[·]?):=by
  rw[List.filterMap_map]
  refine Eu fun i s=>?_
  have:=f i s
  have n:=l i (by simpa using this)
  simp only[Function.comp]
  rw[d _ n.1,n.2]
  simp
 refine ⟨a1,⟨?_,?_,?_,?_,?_,?_,by simp[J,ai,Y6]⟩,ae,Q,fun i s=>⟨by simpa using f i s,(l i (by simpa using f i s)).2⟩⟩
 ·intro o ho
  simp only[Y6,List.mem_map] at ho
  obtain ⟨i,s,rfl⟩:=ho
  have z:i<ops.toList.length:=by simpa using List.all_eq_true.1 M i s
  simp only[Je,List.all_eq_true,Bool.and_eq_true] at X
  have:=(X (ops.toList[i],i) (by rw[List.mem_zipIdx_iff_getElem?];simpa using z)).1.1
  rw[List.getD_eq_getElem?_getD,List.getElem?_eq_getElem z]
  exact this
 ·intro p q a b' V ha C E
  have U:p<ops.toList.length:=by have:=(List.getElem?_eq_some_iff.1 ha).1;omega
  have u:q<ops.toList.length:=by have:=(List.getElem?_eq_some_iff.1 C).1;omega
  rw[d p U] at ha
  rw[d q u] at C
  have ah: ∀i i' x x',i<i'→ops.toList[i]? =some x→ops.toList[i']? =some x'→(P2 x x'||P2 x' x)=true→((Ga ops.toList []).getD i' 0).testBit i=true:=by
   intro i i' x x' az hx ao E
   simp only[Q2o,List.all_eq_true] at hc
   have:=hc (x',i') (by rw[List.mem_zipIdx_iff_getElem?];simpa using ao) (x,i) (by rw[List.mem_zipIdx_iff_getElem?];simpa using hx)
   simp only[az,E,decide_true,Bool.not_true,Bool.false_or,Bool.or_self] at this
   exact this
  have ac:c.getD p 0≠c.getD q 0:=by
   intro e
   have:=r p U
   rw[e,r q u] at this
   omega
  rcases Nat.lt_or_gt_of_ne ac with h | h
  ·exact ah _ _ a b' h ha C E
  ·have n:=ah _ _ b' a h C ha (by rw[Bool.or_comm];exact E)
   have A:=aa p q V u
   unfold R1 at A
   rw[n] at A;cases A
 ·intro q o j b' u al
  have D:q<ops.toList.length:=by have:=(List.getElem?_eq_some_iff.1 u).1;omega
  rw[d q D] at u
  have L:j∈I3 ops.toList (c.getD q 0):=by
   have Y:=X
   simp only[Je,List.all_eq_true,Bool.and_eq_true] at Y
   have:=(Y (o,c.getD q 0) (by rw[List.mem_zipIdx_iff_getElem?];simpa using u)).2
   rw[al] at this
   simp only[List.any_eq_true] at this
   obtain ⟨e,ax,am⟩:=this
   unfold I3
   rw[u]
   simp only[Option.map_some,Option.getD_some,List.mem_map]
   exact ⟨e,ax,by simpa using am⟩
  have ap:=Gj X _ (g q D) j L
  have hj:j<ops.toList.length:=by have:=g q D;omega
  have C:=Q4q (ops:=ops.toList) ops.toList [] (by simp) (by simp) (by intro j k hj;simp at hj) _ j (g q D) L
  obtain ⟨n,A⟩:=l j hj
  have O:R1 ops.toList c (c.idxOf j) q=true:=by unfold R1;rw[A];exact C
  refine ⟨c.idxOf j,?_,by rw[d _ n,A],O⟩
  rcases Nat.lt_trichotomy (c.idxOf j) q with h | h | h
  ·exact h
  ·rw[←h,A] at ap;omega
  ·have:=aa q _ h n
   rw[O] at this;cases this
 ·refine List.pairwise_map.2 (Q.imp_of_mem ?_)
  intro x y hx hy aq an
  have n:=(l x (by simpa using f x hx)).2
  have A:=(l y (by simpa using f y hy)).2
  exact aq (by rw[←n,←A,an])
 ·intro q u
  simp only[List.mem_map] at u
  obtain ⟨i,s,rfl⟩:=u
  have:=(l i (by simpa using f i s)).1
  omega
 ·intro a9 q a4 hL p C U
  rw[List.map_eq_append_iff] at hL
  obtain ⟨ab,a2,Z,ad,B⟩:=hL
  rw[List.map_eq_cons_iff] at B
  obtain ⟨i,R,hr,s,a3⟩:=B
  subst hr s ad
  have z:i<ops.toList.length:=by simpa using f i (by rw[Z];simp)
  obtain ⟨n,A⟩:=l i z
  unfold R1 at C
  rw[A] at C
  have aw:p<ops.toList.length:=by omega
  have:=Q55 X w i z (c.getD p 0) ab R Z C
  rw[List.mem_map]
  exact ⟨c.getD p 0,this,r p aw⟩
theorem Q3k {ops:Array Oper} {n:Nat} (c:Uk ops.toList n=true) (b:Bool) (t:Nat): ∃L,(Region.schedule b ops t).filterMap (ops[·]?)=L.filterMap ((Y6 ops.toList (L6 ops.toList))[·]?)∧Arr ops.toList (L6 ops.toList) L∧(Y6 ops.toList (L6 ops.toList)).length=ops.toList.length:=by
 simp only[Uk,Bool.and_eq_true] at c
 obtain ⟨⟨⟨⟨⟨g,k⟩,l⟩,m⟩,⟨d,e⟩,f⟩,a⟩:=c
 obtain ⟨h,j,i,_⟩:=Bl g k d e f a b t
 exact ⟨_,h,j,i⟩
theorem Q67 (P:Program) (r:Bool) (ops:Array Oper) (T:World→World→Prop) (B:World→Prop) (J1:List Value→World→Prop) (i:List Value) (g:Uk ops.toList i.length=true)
 (O: ∀w w',B w→T w w'→B w') (J: ∀w w',T w w'→Mg r w≤Mg r w')
 (h:chain P r ops.toList T B J1 ((Y6 ops.toList (L6 ops.toList)).drop (La ops.toList (L6 ops.toList) ops.toList.length)) 0
  ((Y6 ops.toList (L6 ops.toList)).take (La ops.toList (L6 ops.toList) ops.toList.length)) (i.map .val) [] [])
 (b:Bool) (t:Nat) (w:World) (A:B w):Y2 P ops.toList J1 ((Region.schedule b ops t).filterMap (ops[·]?)) i w:=by
 obtain ⟨L,l,f,s⟩:=Q3k g b t
 simp only[Uk,Bool.and_eq_true] at g
 obtain ⟨⟨⟨⟨⟨n,U⟩,u⟩,y⟩,⟨N,M⟩,E⟩,o⟩:=g
 generalize L6 ops.toList=a at*
 obtain ⟨Φ,_,R⟩:=Pv P r ops.toList T B J1 _ _ 0 (i.map .val) [] [] (by intro e n j H;simp only[List.mem_map] at n;obtain ⟨v,_,rfl⟩:=n;cases H) (by simp) (by simp[Jl]) h
 rw[l]
 obtain ⟨k,c⟩:=Q7w ops.toList a ops.toList.length
 exact X2E (os:=Y6 ops.toList a) (m:=La ops.toList a ops.toList.length) (T:=T) (B:=B) (Φ:=Φ) (R1 ops.toList a) f.hpl u (fun d D=>by simpa using List.all_eq_true.1 y d D) f.hclash f.hg (by omega)
  (fun q Q C p z=>c q Q (by omega) p z) O J R L f.hn f.hLl f.hlt f.hC _ [] rfl (by simp) i (fun _=>undef) (fun _=>(0,0)) w .init
  ⟨rfl,by simp,fun _ _=>rfl,by simp⟩ A (by simp)
def Yq {α:Type} (P:Program) (s:Sem α):Prop:= ∀w v w',s.run P w= .ok v w'→w'=w
section
variable {P : Program} {α β : Type}
theorem Zy (a:α):Yq P (Pure.pure a:Sem α):=fun w v w' h=>by simp at h;exact h.2.symm
theorem Q5u (m:String):Yq P (stuck m:Sem α):=fun w v w' h=>by simp at h
theorem K8 {s:Sem α} {f:α→Sem β} (d:Yq P s) (c: ∀a,Yq P (f a)):Yq P (s>>=f):=fun w v w' h=>by
 rw[Sem.run_bind] at h
 cases b:s.run P w with
 | halt x w1=>rw[b] at h;simp[Result.andThen] at h
 | ok a w1=>
  rw[b] at h
  have:=d _ _ _ b
  subst this
  exact c a _ _ _ h
theorem Q1A (a:Addr) (m:Mode):Yq P (load a m):=fun w v w' h=>by
 unfold load at h
 simp only[Sem.run] at h
 split at h
 ·cases h;rfl
 ·split at h
  ·cases h;rfl
  ·cases h
theorem Ch (t:TypeId):Yq P (typeInfo t):=fun w v w' h=>by
 unfold typeInfo at h
 simp only[Sem.run_bind,run_program,Result.andThen_ok] at h
 split at h<;>simp at h
 exact h.2.symm
theorem Q1e (t:TypeId):Yq P (underlying t):=fun w v w' h=>by
 unfold underlying at h
 simp only[Sem.run_bind,run_program,Result.andThen_ok] at h
 split at h<;>simp at h
 exact h.2.symm
theorem Q5n (t:TypeId):Yq P (isAgg t):=by
 unfold isAgg
 refine K8 (Q1e t) fun d=>?_
 split<;>exact Zy _
theorem Q4x (t:TypeId):Yq P (sizeOf t):=K8 (Ch t) fun _=>Zy _
theorem Q0z (a:Addr): ∀(n i:Nat) (b:Array Value),Yq P (loadCellsFrom a i n b)
 | 0,i,b=>Zy _
 | n+1,i,b=>K8 (Q1A _ _) fun v=>Q0z a n (i+1) _
theorem Q3B (t:TypeId) (a:Addr):Yq P (loadVar t a):=by
 unfold loadVar
 refine K8 (Q5n t) fun b=>?_
 split
 ·exact K8 (Q4x t) fun n=>K8 (Q0z a n 0 #[]) fun cs=>Zy _
 ·exact Q1A _ _
theorem Q4h (t:TypeId) (v:Value):Yq P (Instr.loadAt t v):=by
 unfold Instr.loadAt
 refine K8 ?_ fun a=>Q3B t a
 unfold Instr.sureAddr
 split
 ·exact Zy _
 ·exact Q5u _
def Yn (P:Program) (s:Sem α):Prop:= ∀w v w1,s.run P w= .ok v w1→w1=w∧ ∀w',s.run P w'= .ok v w'
theorem Ze (a:α):Yn P (Pure.pure a:Sem α):=fun w v w' h=>by simp at h⊢;exact ⟨h.2.symm,h.1⟩
theorem Vv (m:String):Yn P (stuck m:Sem α):=fun w v w' h=>by simp at h
theorem P1 {s:Sem α} {f:α→Sem β} (j:Yn P s) (d: ∀a,Yn P (f a)):Yn P (s>>=f):=fun w v w' h=>by
 rw[Sem.run_bind] at h
 cases b:s.run P w with
 | halt x w1=>rw[b] at h;simp[Result.andThen] at h
 | ok a w1=>
  rw[b] at h
  obtain ⟨rfl,i⟩:=j _ _ _ b
  obtain ⟨g,e⟩:=d a _ _ _ h
  refine ⟨g,fun c=>?_⟩
  rw[Sem.run_bind,i c]
  exact e c
theorem Ij (t:TypeId):Yn P (typeInfo t):=fun w v w' h=>by
 unfold typeInfo at h⊢
 simp only[Sem.run_bind,run_program,Result.andThen_ok] at h⊢
 split at h<;>simp at h
 rename_i i a
 refine ⟨h.2.symm,fun w'=>?_⟩
 simp[a,h.1]
theorem Wy (t:TypeId):Yn P (underlying t):=fun w v w' h=>by
 unfold underlying at h⊢
 simp only[Sem.run_bind,run_program,Result.andThen_ok] at h⊢
 split at h<;>simp at h
 rename_i i a
 refine ⟨h.2.symm,fun w'=>?_⟩
 simp[a,h.1]
theorem Ej (v:Value) (i:Nat):Yn P (Instr.extract v i):=by
 unfold Instr.extract
 split
 ·split
  ·exact Ze _
  ·exact Vv _
 ·exact Vv _
theorem Q8b (v:Value):Yn P (Instr.sureAddr v):=by
 unfold Instr.sureAddr
 split
 ·exact Ze _
 ·exact Vv _
theorem Q27 {s:Sem α} (h: ∀w v w',s.run P w≠ .ok v w'):Yn P s:=fun w v w' e=>absurd e (h w v w')
theorem Q2n {s:Sem α} {f:α→Sem β} (c: ∀a w v w',(f a).run P w≠ .ok v w'): ∀w v w',(s>>=f).run P w≠ .ok v w':=fun w v w' h=>by
 rw[Sem.run_bind] at h
 cases b:s.run P w with
 | halt x w1=>rw[b] at h;simp[Result.andThen] at h
 | ok a w1=>rw[b] at h;exact c a _ _ _ h
theorem Q1G (e:Int×Int×Bool×BoundsCode): ∀w v w',(runtimePanic (.bounds e.1 e.2.1 e.2.2.1 e.2.2.2):Sem α).run P w≠ .ok v w':=by
 unfold runtimePanic
 exact Q2n fun p=>fun w v w' h=>by cases h
theorem Q0y (k:IntKind) (x y:Int) (c:BoundsCode):Yn P (boundsPanic k x y c:Sem α):=Q27 (by
 unfold boundsPanic
 dsimp only
 split
 ·exact Q2n fun b=>Q1G (_,_,_,_)
 ·exact Q2n fun b=>Q1G (_,_,_,_))
theorem Eo (t:TypeId) (x i:Value):Yn P (Instr.indexAt t x i):=by
 unfold Instr.indexAt
 refine P1 ?_ fun q=>?_
 ·unfold asIntOf
  split
  ·exact Ze _
  ·exact Q27 fun w v w' h=>by cases h
  ·exact Vv _
 refine P1 (Wy t) fun d=>?_
 dsimp only
 have key: ∀(z:Option Addr×Nat×TypeId),Yn P (match z with
  | (base,b,elem)=>do
   let __do_lift←underlying t
   have c:Bool:=decide (b≤1)&&match __do_lift with
    | TypeDesc.array b elem=>true
    | x=>false
   match base with
    | some a=>
     if 0≤q.snd∧q.snd< ↑b then do
      let __do_lift←sizeOf elem
      pure (Value.pointer (some (a.add (q.snd.toNat*__do_lift))))
     else
      if c=true then unsupported (Unsupported.noEntry "op/indexAddr.an index out of range at an array of length 0 or 1 (ledger 616)")
      else boundsPanic q.fst q.snd (↑b) BoundsCode.index
    | none=>boundsPanic q.fst q.snd 0 BoundsCode.index):=by
  rintro ⟨base,b,elem⟩
  dsimp only
  refine P1 (Wy t) fun g=>?_
  cases base with
  | none=>exact Q0y _ _ _ _
  | some a=>
   dsimp only
   by_cases e:0≤q.snd∧q.snd< ↑b
   ·rw[if_pos e]
    exact P1 (P1 (Ij _) fun _=>Ze _) fun n=>Ze _
   ·rw[if_neg e]
    by_cases f:(decide (b≤1)&&match g with
     | TypeDesc.array b elem=>true
     | x=>false)=true
    ·rw[if_pos f]
     exact Q27 fun w v w' h=>by cases h
    ·rw[if_neg f]
     exact Q0y _ _ _ _
 split
 ·exact P1 (Q8b _) fun a=>P1 (Ze _) key
 ·exact P1 (Ze _) key
 ·exact P1 (Vv _) key
def Te (o:Oper):Bool:=match o.op with | .move _ | .assign _ | .load .. | .extract .. | .indexAddr .. =>true | _=>false
def Q2A (o:Oper):Bool:=match o.op with | .move _ | .assign _ | .extract .. | .indexAddr .. =>true | _=>false
theorem Dd {s:Sem Value} {w:World} {K:Value→World→Prop} (h:op P (sv s) w K): ∃v w',s.run P w= .ok v w'∧K v w':=by
 rw[Xb] at h
 unfold Qf sv at h
 rw[Sem.run_bind] at h
 cases a:s.run P w with
 | halt x w1=>rw[a] at h;exact h.elim
 | ok v w1=>rw[a] at h;exact ⟨v,w1,rfl,h⟩
theorem Du {s:Sem Value} {v:Value} {w w':World} {K:Value→World→Prop} (h:s.run P w= .ok v w') (k:K v w'):op P (sv s) w K:=by
 rw[Xb]
 unfold Qf sv
 rw[Sem.run_bind,h]
 exact k
theorem Q8A {p:Program} {w w':World} {a k:Addr} {u:TypeId} {b:Bool} {r} (h: ∀(i:Nat) o,w.heap[i]? =some o→w'.heap[i]? =some o) (c:w.seen p a u k b= .ok r):w'.seen p a u k b= .ok r:=by
 cases e:w.heap[a.block]? with
 | some o=>
  have d:=h _ _ e
  unfold World.seen at*
  rw[d]
  rw[e] at c
  exact c
 | none=>
  exfalso
  unfold World.seen at c
  simp only[e,bind,Except.bind,throw,throwThe,MonadExceptOf.throw,pure,Except.pure] at c
  repeat (first | cases c | split at c)
theorem Q9K {p:Program} {w w':World} {a:Addr} {b:Bool} {r} (h: ∀(i:Nat) o,w.heap[i]? =some o→w'.heap[i]? =some o) (c:w.farLoad p a b= .ok r):w'.farLoad p a b= .ok r:=by
 unfold World.farLoad at*
 cases e:w.heap[a.block]? with
 | none=>rw[e] at c;cases c
 | some o=>
  rw[e] at c
  rw[h _ _ e]
  cases o with
  | view d u=>
   simp only at c⊢
   cases f:w.viewLoad p d u a b with
   | error s=>rw[f] at c;cases c
   | ok q=>
    rw[f] at c
    have:w'.viewLoad p d u a b= .ok q:=by
     unfold World.viewLoad at*
     cases g:w.seen p d u a b with
     | error s=>rw[g] at f;cases f
     | ok z=>rw[Q8A h g];rw[g] at f;exact f
    rw[this]
    exact c
  | _=>simp only at c;cases c
def Nu {α:Type} (P:Program) (s:Sem α):Prop:= ∀w v w1,s.run P w= .ok v w1→w1=w∧ ∀w':World,(∀(i:Nat) o,w.heap[i]? =some o→w'.heap[i]? =some o)→s.run P w'= .ok v w'
section
variable {P : Program} {α β : Type}
theorem On (a:α):Nu P (Pure.pure a:Sem α):=fun w v w' h=>by simp at h⊢;exact ⟨h.2.symm,fun _ _=>h.1⟩
theorem Q70 (m:String):Nu P (stuck m:Sem α):=fun w v w' h=>by simp at h
theorem Zl {s:Sem α} {f:α→Sem β} (k:Nu P s) (e: ∀a,Nu P (f a)):Nu P (s>>=f):=fun w v w' h=>by
 rw[Sem.run_bind] at h
 cases b:s.run P w with
 | halt x w1=>rw[b] at h;simp[Result.andThen] at h
 | ok a w1=>
  rw[b] at h
  obtain ⟨rfl,j⟩:=k _ _ _ b
  obtain ⟨i,g⟩:=e a _ _ _ h
  refine ⟨i,fun c d=>?_⟩
  rw[Sem.run_bind,j c d]
  exact g c d
theorem Q2W (a:Addr) (m:Mode):Nu P (load a m):=fun w v w1 h=>by
 unfold load at h⊢
 simp only[Sem.run] at h⊢
 cases e:w.cell? a with
 | some x=>
  rw[e] at h
  cases h
  refine ⟨rfl,fun w' d=>?_⟩
  have:w'.cell? a=some v:=by
   unfold World.cell? at*
   cases c:w.heap[a.block]? with
   | none=>rw[c] at e;cases e
   | some o=>rw[c] at e;rw[d _ _ c];exact e
  rw[this]
 | none=>
  rw[e] at h
  simp only at h
  cases b:w.farLoad P a (m== .atomic) with
  | error s=>rw[b] at h;cases h
  | ok q=>
   rw[b] at h
   cases h
   refine ⟨rfl,fun w' d=>?_⟩
   have f:=Q9K d b
   cases g:w'.cell? a with
   | none=>simp only[f]
   | some x=>
    exfalso
    unfold World.farLoad at b
    unfold World.cell? at g
    cases c:w.heap[a.block]? with
    | none=>rw[c] at b;cases b
    | some o=>
     rw[d _ _ c] at g
     rw[c] at b
     cases o<;>first | cases g | (simp only at b;cases b)
theorem Q2Z {s:Sem α} (h:Yn P s):Nu P s:=fun w v w1 e=>⟨(h w v w1 e).1,fun w' _=>(h w v w1 e).2 w'⟩
theorem Q7k (t:TypeId):Nu P (isAgg t):=by
 unfold isAgg
 refine Zl (Q2Z (Wy t)) fun d=>?_
 split<;>exact On _
theorem Q1C (a:Addr): ∀(n i:Nat) (b:Array Value),Nu P (loadCellsFrom a i n b)
 | 0,i,b=>On _
 | n+1,i,b=>Zl (Q2W _ _) fun v=>Q1C a n (i+1) _
theorem Q5X (t:TypeId) (v:Value):Nu P (Instr.loadAt t v):=by
 unfold Instr.loadAt
 refine Zl ?_ fun a=>?_
 ·unfold Instr.sureAddr
  split
  ·exact On _
  ·exact Q70 _
 ·unfold loadVar
  refine Zl (Q7k t) fun b=>?_
  split
  ·exact Zl (Zl (Q2Z (Ij t)) fun _=>On _) fun n=>Zl (Q1C a n 0 #[]) fun cs=>On _
  ·exact Q2W _ _
def Ef (o:Oper):Bool:=match o.op with | .alloc .. =>true | _=>false
theorem Q87 {l:List Value} {o:Oper} {w:World} {K:Value→World→Prop} (h:Te o=true) (c:V0 P l o w K): ∃v,K v w∧ ∀(w':World) b,(∀(i:Nat) o,w.heap[i]? =some o→w'.heap[i]? =some o)→b v w'→V0 P l o w' b:=by
 obtain ⟨d,p,n,pos,m,g⟩:=o
 cases p<;>(first | (simp[Te] at h;done) | skip)<;>simp only[V0] at c⊢
 ·exact ⟨_,c,fun w' b _ a=>a⟩
 ·exact ⟨_,c,fun w' b _ a=>a⟩
 ·obtain ⟨v,w',f,j⟩:=Dd c
  obtain ⟨rfl,e⟩:=Q5X _ _ _ _ _ f
  exact ⟨v,j,fun w' b k a=>Du (e w' k) a⟩
 ·obtain ⟨v,w',f,j⟩:=Dd c
  obtain ⟨rfl,e⟩:=Eo _ _ _ _ _ _ f
  exact ⟨v,j,fun w' b k a=>Du (e w') a⟩
 ·obtain ⟨v,w',f,j⟩:=Dd c
  obtain ⟨rfl,e⟩:=Ej _ _ _ _ _ f
  exact ⟨v,j,fun w' b k a=>Du (e w') a⟩
theorem Q2D {γ δ:Type} {s:Sem γ} {f:γ→Sem δ} {w w':World} {v:δ} (h:(s>>=f).run P w= .ok v w'): ∃a w1,s.run P w= .ok a w1∧(f a).run P w1= .ok v w':=by
 rw[Sem.run_bind] at h
 cases b:s.run P w with
 | halt x w1=>rw[b] at h;simp[Result.andThen] at h
 | ok a w1=>rw[b] at h;exact ⟨a,w1,rfl,h⟩
theorem Q9H {γ:Type} {r:Unsupported}:Yq P (unsupported r:Sem γ):=fun w v w' h=>by simp[unsupported] at h
theorem Q4I {l:List Value} {o:Oper} {w:World} {K:Value→World→Prop} (h:Ef o=true) (k:V0 P l o w K): ∃v w',(∀(i:Nat) o,w.heap[i]? =some o→w'.heap[i]? =some o)∧K v w'∧ ∀e:Value→World→Prop,e v w'→V0 P l o w e:=by
 obtain ⟨d,p,D,pos,B,g⟩:=o
 cases p<;>(first | (simp[Ef] at h;done) | skip)
 simp only[V0] at k⊢
 obtain ⟨v,w',q,y⟩:=Dd k
 refine ⟨v,w',?_,y,fun e A=>Du q A⟩
 have a:=q
 unfold Instr.alloc zeroValue at a
 obtain ⟨z,w1,u,j⟩:=Q2D a
 have s:w1=w:=K8 (Ch _) (fun i=>by split;exact Zy _;exact Q9H) _ _ _ u
 subst s
 simp only at j
 obtain ⟨c,E,m,n⟩:=Q2D j
 simp only[Sem.run_pure,Result.ok.injEq] at n
 obtain ⟨_,rfl⟩:=n
 unfold newVar newRow at m
 obtain ⟨C,H,b,f⟩:=Q2D m
 simp only[Sem.run_pure,Result.ok.injEq] at f
 obtain ⟨_,rfl⟩:=f
 unfold newObj at b
 simp only[Sem.run,Result.ok.injEq] at b
 obtain ⟨_,rfl⟩:=b
 intro i o r
 have t:=(Array.getElem?_eq_some_iff.1 r).1
 simp only[Array.getElem?_push]
 rw[if_neg (by omega)]
 exact r
end
theorem Q4o {l:List Value} {o:Oper} {w:World} {K:Value→World→Prop} (h:Te o=true) (e:V0 P l o w K): ∃v,K v w∧ ∀c,c v w→V0 P l o w c:=by
 obtain ⟨d,p,j,pos,i,g⟩:=o
 cases p<;>(first | (simp[Te] at h;done) | skip)<;>simp only[V0] at e⊢
 ·exact ⟨_,e,fun c a=>a⟩
 ·exact ⟨_,e,fun c a=>a⟩
 ·obtain ⟨v,w',b,f⟩:=Dd e
  have:=Q4h _ _ _ _ _ b
  subst this
  exact ⟨v,f,fun c a=>Du b a⟩
 ·obtain ⟨v,w',b,f⟩:=Dd e
  have:=(Eo _ _ _ _ _ _ b).1
  subst this
  exact ⟨v,f,fun c a=>Du b a⟩
 ·obtain ⟨v,w',b,f⟩:=Dd e
  have:=(Ej _ _ _ _ _ b).1
  subst this
  exact ⟨v,f,fun c a=>Du b a⟩
theorem Q0Y {l:List Value} {o:Oper} {w:World} {K:Value→World→Prop} (h:Q2A o=true) (c:V0 P l o w K): ∃v,K v w∧ ∀w' b,b v w'→V0 P l o w' b:=by
 obtain ⟨d,p,k,pos,j,g⟩:=o
 cases p<;>(first | (simp[Q2A] at h;done) | skip)<;>simp only[V0] at c⊢
 ·exact ⟨_,c,fun w' b a=>a⟩
 ·exact ⟨_,c,fun w' b a=>a⟩
 ·obtain ⟨v,w',f,i⟩:=Dd c
  obtain ⟨rfl,e⟩:=Eo _ _ _ _ _ _ f
  exact ⟨v,i,fun w' b a=>Du (e w') a⟩
 ·obtain ⟨v,w',f,i⟩:=Dd c
  obtain ⟨rfl,e⟩:=Ej _ _ _ _ _ f
  exact ⟨v,i,fun w' b a=>Du (e w') a⟩
end
structure Swap (ops : List Oper) (a b : Oper) : Prop where
  pa : Ql a.op = true
  pb : Ql b.op = true
  ga : a.guard = none
  ab : ∀ d, a.dst = some d → d ∉ N6 ops b ++ E6 b
  ba : ∀ d, b.dst = some d → d ∉ N6 ops a ++ E6 a
  dd : ∀ d, a.dst = some d → b.dst ≠ some d
  gb : ∀ j c, b.guard = some (j, c) → ((ops[j]?).bind (·.dst)).isSome = true
  rd : (Te a = true ∧ (Te b = true ∨ Ef b = true) ∧ b.guard = none ∨ Ef a = true ∧ Q2A b = true ∧ b.guard = none) ∨ Q2A a = true
section
variable {P : Program} {ops : List Oper} {J1 : List Value → World → Prop}
theorem Q1c {l:List Value} {d:Option Nat} {v:Value} {s:Nat} (h: ∀e,d=some e→e≠s):get (put l d v) s=get l s:=by
 cases d with
 | none=>rfl
 | some e=>simp only[put,get,List.getD_eq_getElem?_getD,List.getElem?_set_ne (h e rfl)]
theorem Q7Q {l:List Value} {d e:Option Nat} {v u:Value} (h: ∀x,d=some x→e≠some x):put (put l d v) e u=put (put l e u) d v:=by
 cases d with
 | none=>rfl
 | some d=>cases e with
  | none=>rfl
  | some e=>simp only[put];exact List.set_comm _ _ (by intro a;subst a;exact h d rfl rfl)
theorem Q2U {o:Oper} {s:Nat} (a:Operand.tmp s∈o.op.operands):s∈E6 o:=by
 simp only[E6,List.mem_filterMap]
 exact ⟨.tmp s,by simpa using a,rfl⟩
theorem Q5L {a b:Oper} {R:List Oper} {l:List Value} {w:World} (Z:Swap ops a b) (h:Y2 P ops J1 (a::b::R) l w):Y2 P ops J1 (b::a::R) l w:=by
 obtain ⟨pa,U,V,L,O,Y,Q,N⟩:=Z
 have r: ∀v,V0 P (put l a.dst v) b=V0 P l b:=fun v=>Nv U fun x H=>by
  cases x with
  | tmp s=>exact Q1c fun e y g=>L e y (List.mem_append_right _ (g▸Q2U H))
  | _=>rfl
 have n: ∀v,V0 P (put l b.dst v) a=V0 P l a:=fun v=>Nv pa fun x H=>by
  cases x with
  | tmp s=>exact Q1c fun e y g=>O e y (List.mem_append_right _ (g▸Q2U H))
  | _=>rfl
 have m: ∀v u,put (put l b.dst u) a.dst v=put (put l a.dst v) b.dst u:=fun v u=>(Q7Q Y).symm
 simp only[Y2,V] at h⊢
 cases k:b.guard with
 | none=>
  simp only[k] at h⊢
  rcases N with (⟨B,rb | rb,_⟩ | ⟨B,fb,_⟩) | fa
  ·obtain ⟨z,f,i⟩:=Q4o B h
   rw[r] at f
   obtain ⟨A,t,p⟩:=Q4o rb f
   refine p _ ?_
   rw[n]
   exact i _ (by rw[m];exact t)
  ·obtain ⟨z,f,i⟩:=Q87 B h
   rw[r] at f
   obtain ⟨A,W,k,t,p⟩:=Q4I rb f
   refine p _ ?_
   rw[n]
   exact i W _ k (by rw[m];exact t)
  ·obtain ⟨z,wa,k,f,i⟩:=Q4I B h
   rw[r] at f
   obtain ⟨A,t,p⟩:=Q0Y fb f
   refine p w _ ?_
   rw[n]
   exact i _ (by rw[m];exact t)
  ·obtain ⟨z,f,i⟩:=Q0Y fa h
   rw[r] at f
   refine B9 (fun A w' J=>?_) f
   rw[n]
   exact i w' _ (by rw[m];exact J)
 | some q=>
  obtain ⟨j,c⟩:=q
  rcases N with (⟨_,_,o⟩ | ⟨_,_,o⟩) | fa
  ·rw[k] at o;cases o
  ·rw[k] at o;cases o
  obtain ⟨d,M⟩:=Option.isSome_iff_exists.1 (Q j c k)
  have E:d∈N6 ops b:=by simp[N6,k,M]
  have X: ∀v,get (put l a.dst v) d=get l d:=fun v=>Q1c fun e y g=>L e y (List.mem_append_left _ (g▸E))
  simp only[k,M] at h⊢
  obtain ⟨z,f,i⟩:=Q0Y fa h
  rw[r,X] at f
  refine Ah ((Vc f).imp (fun ⟨D,C⟩=>⟨D,B9 (fun A w' J=>?_) C⟩) (fun ⟨D,C⟩=>⟨D,?_⟩))
  ·rw[n];exact i w' _ (by rw[m];exact J)
  ·rw[n];exact i w _ (by rw[m];exact C)
theorem Q0w {a:Oper} {R m:List Oper} {l:List Value} {w:World} (b: ∀l w,Y2 P ops J1 R l w→Y2 P ops J1 m l w) (h:Y2 P ops J1 (a::R) l w):Y2 P ops J1 (a::m) l w:=by
 simp only[Y2] at h⊢
 cases i:a.guard with
 | none=>simp only[i] at h⊢;exact B9 (fun v w g=>b _ _ g) h
 | some q=>
  obtain ⟨j,c⟩:=q
  simp only[i] at h⊢
  cases k:(ops[j]?).bind (·.dst) with
  | none=>simp only[k] at h⊢;exact b _ _ h
  | some d=>
   simp only[k] at h⊢
   exact Ah ((Vc h).imp (fun ⟨f,e⟩=>⟨f,B9 (fun n w' g=>b _ _ g) e⟩) (fun ⟨f,e⟩=>⟨f,b _ _ e⟩))
theorem Ti {q:Oper} {R:List Oper}: ∀(A:List Oper) {l:List Value} {w:World},(∀a∈A,Swap ops a q)→Y2 P ops J1 (A++q::R) l w→Y2 P ops J1 (q::(A++R)) l w
 | [],_,_,_,h=>h
 | a::A,l,w,c,h=>Q5L (c a (by simp)) (Q0w (R:=A++q::R) (fun _ _ h=>Ti A (fun b d=>c b (by simp[d])) h) h)
theorem Lo: ∀(A:List Oper) {B:List Oper} {l:List Value} {w:World},Y2 P ops J1 (A++B) l w=Y2 P ops (fun l w=>Y2 P ops J1 B l w) A l w
 | [],B,l,w=>rfl
 | a::A,B,l,w=>by
  simp only[List.cons_append,Y2]
  split
  ·congr 1;funext v w;exact Lo A
  ·split
   ·congr 1;funext v w;exact Lo A
   ·exact Lo A
theorem Q7b {A B b:List Oper} {l:List Value} {w:World} (d: ∀l w,Y2 P ops J1 B l w→Y2 P ops J1 b l w): ∀{l:List Value} {w:World},Y2 P ops J1 (A++B) l w→Y2 P ops J1 (A++b) l w:=by
 induction A with
 | nil=>exact fun h=>d _ _ h
 | cons a A c=>exact fun h=>Q0w (fun _ _ h=>c h) h
theorem Q6a (os:List Oper) (bit:Nat→Nat→Bool) (r: ∀p q a b,p<q→os[p]? =some a→os[q]? =some b→bit p q=false→Swap ops a b):
 ∀(n:Nat) (J1:List Value→World→Prop) (L:List Nat) (l:List Value) (w:World),L.Nodup→L.length=n→(∀q∈L,q<n)→n≤os.length→L.Pairwise (fun q p=>p<q→bit p q=false)→
  Y2 P ops J1 (os.take n) l w→Y2 P ops J1 (L.filterMap (os[·]?)) l w
 | 0,J1,L,l,w,u,C,g,v,z,h=>by
  have:L=[]:=List.eq_nil_of_length_eq_zero C
  subst this;exact h
 | n+1,J1,L,l,w,u,C,g,v,z,h=>by
  have O:n∈L:=Classical.byContradiction fun m=>by
   have V:=R8 n L u fun k M=>by
    have t:=g k M
    have H:k≠n:=fun e=>m (e▸M)
    omega
   omega
  obtain ⟨A,B,rfl⟩:=List.append_of_mem O
  have c:n<os.length:=by omega
  have d:os[n]? =some os[n]:=List.getElem?_eq_getElem c
  have j:=List.nodup_append.1 u
  have E:n∉B:=(List.nodup_cons.1 j.2.1).1
  have D:n∉A:=fun e=>j.2.2 n e n (by simp) rfl
  have U:os.take (n+1)=os.take n++[os[n]]:=(List.take_append_getElem c).symm
  rw[U,Lo] at h
  have o: ∀q∈A++B,q<n:=fun q J=>by
   have V:q<n+1:=g q (by rcases List.mem_append.1 J with h | h<;>simp[h])
   have t:q≠n:=fun e=>by
    subst e
    rcases List.mem_append.1 J with h | h
    ·exact D h
    ·exact E h
   omega
  have f:(A++B).Sublist (A++n::B):=List.Sublist.append (List.Sublist.refl A) (List.sublist_cons_self n B)
  have t:=Q6a os bit r n _ (A++B) l w (u.sublist f) (by simp at C⊢;omega) o (by omega) (z.sublist f) h
  rw[←Lo] at t
  rw[List.filterMap_append,List.append_assoc] at t
  rw[List.filterMap_append,List.filterMap_cons,d]
  refine Q7b (l:=l) (w:=w) (fun l w H=>?_) t
  have:=Ti (R:=[]) (B.filterMap (os[·]?)) (fun a Q=>?_) H
  ·rwa [List.append_nil] at this
  ·obtain ⟨p,i,y⟩:=List.mem_filterMap.1 Q
   have s:=o p (List.mem_append_right _ i)
   refine r p n a _ s y d ?_
   have N:=(List.pairwise_append.1 z).2.1
   exact (List.pairwise_cons.1 N).1 p i s
end
def Q1N (ops:List Oper) (a b:Oper):Bool:=
 (match a.guard with | none=>true | some _=>false)&&(match b.guard with | none=>true | some (j,_)=>match (ops[j]?).bind (·.dst) with | some _=>true | none=>false)&&
  (((Te a&&(Te b||Ef b)||Ef a&&Q2A b)&&(match b.guard with | none=>true | some _=>false))||Q2A a)
def Q74 (ops:List Oper) (a:List Nat):Bool:=
 ops.any Q49&&ops.any Ac&&(List.range ops.length).all fun q=>(List.range q).all fun p=>R1 ops a p q||Q1N ops (ops.getD (a.getD p 0) default) (ops.getD (a.getD q 0) default)
theorem Nl {α:Type} {R:α→α→Prop}: ∀(a b:List α) {L:List α},L=b++a→(∀b q a,L=b++q::a→ ∀p∈a,R q p)→a.Pairwise R
 | [],_,_,_,_=>List.Pairwise.nil
 | q::a,b,L,c,h=>List.pairwise_cons.2 ⟨h b q a c,Nl a (b++[q]) (by rw[c];simp) h⟩
theorem Q2t {P:Program} {ops:Array Oper} {J1:List Value→World→Prop} {l0:List Value} {ord L:List Nat} {bit:Nat→Nat→Bool} (ha:Arr ops.toList ord L) (hosl:(Y6 ops.toList ord).length=ops.toList.length) (hn:Qh (O5 (Y6 ops.toList ord))=true) (hbit: ∀p q,R1 ops.toList ord p q=true→bit p q=true)
 (hsq: ∀p q,p<q→q<ops.toList.length→(bit p q||Q1N ops.toList (ops.toList.getD (ord.getD p 0) default) (ops.toList.getD (ord.getD q 0) default))=true) (hpair:L.Pairwise fun q p=>p<q→bit p q=false) (w:World)
 (h:Y2 P ops.toList J1 (Y6 ops.toList ord) l0 w):Y2 P ops.toList J1 (L.filterMap ((Y6 ops.toList ord)[·]?)) l0 w:=by
 refine Q6a (Y6 ops.toList ord) bit (fun p q a b' hpq hpa hqb hb=>?_) _ J1 L l0 w ha.hn rfl (fun q hq=>by rw[ha.hLl];exact ha.hlt q hq) (by rw[ha.hLl];exact Nat.le_refl _) hpair (by rw[ha.hLl,List.take_length];exact h)
 have hql:q<ops.toList.length:=by have:=(List.getElem?_eq_some_iff.1 hqb).1;omega
 have hpl:p<ops.toList.length:=by omega
 have hget: ∀i o,(Y6 ops.toList ord)[i]? =some o→ops.toList.getD (ord.getD i 0) default=o:=by
  intro i o hi
  unfold Y6 at hi
  rw[List.getElem?_map] at hi
  cases ho:ord[i]? with
  | none=>rw[ho] at hi;cases hi
  | some x=>
   rw[ho] at hi
   simp only[Option.map_some,Option.some.injEq] at hi
   rw[List.getD_eq_getElem?_getD (l:=ord),ho];exact hi
 have hnc:(P2 a b'||P2 b' a)=false:=by
  cases hx:P2 a b'||P2 b' a with
  | false=>rfl
  | true=>rw[hbit p q (ha.hclash p q a b' hpq hpa hqb hx)] at hb;cases hb
 rw[Bool.or_eq_false_iff] at hnc
 have hs:=hsq p q hpq hql
 rw[hb,Bool.false_or,hget p a hpa,hget q b' hqb] at hs
 simp only[Q1N,Bool.and_eq_true,Bool.or_eq_true] at hs
 obtain ⟨⟨g1,g2⟩,g3⟩:=hs
 have hga:a.guard=none:=by
  cases hx:a.guard with
  | none=>rfl
  | some _=>rw[hx] at g1;cases g1
 have c1: ∀d,a.dst=some d→d∉E6 b'∧b'.dst≠some d:=fun d hd=>by
  have:=hnc.1
  unfold P2 at this
  rw[hd] at this
  simp only[Bool.or_eq_false_iff] at this
  exact ⟨fun hm=>by simp[hm] at this,fun hm=>by simp[hm] at this⟩
 have c2: ∀d,b'.dst=some d→d∉E6 a:=fun d hd=>by
  have:=hnc.2
  unfold P2 at this
  rw[hd] at this
  simp only[Bool.or_eq_false_iff] at this
  exact fun hm=>by simp[hm] at this
 refine ⟨ha.hpl a (List.mem_of_getElem? hpa),ha.hpl b' (List.mem_of_getElem? hqb),hga,fun d hd'=>?_,fun d hd'=>?_,fun d hd'=>(c1 d hd').2,fun j c hbg=>?_,?_⟩
 ·rw[List.mem_append,not_or]
  refine ⟨fun hm=>?_,(c1 d hd').1⟩
  unfold N6 at hm
  cases hbg:b'.guard with
  | none=>rw[hbg] at hm;simp at hm
  | some q0=>
   obtain ⟨j,c⟩:=q0
   obtain ⟨p',hp',hpj,hbt⟩:=ha.hg q b' j c hqb hbg
   rw[hbg] at hm
   simp only at hm
   cases hjd:ops.toList[j]?.map (·.dst) with
   | none=>
    cases hj:ops.toList[j]? with
    | none=>rw[hj] at hm;simp at hm
    | some oj=>rw[hj] at hjd;cases hjd
   | some dj=>
    cases hj:ops.toList[j]? with
    | none=>rw[hj] at hjd;cases hjd
    | some oj=>
     rw[hj] at hm hpj
     simp only[Option.bind_some] at hm
     cases hdj:oj.dst with
     | none=>rw[hdj] at hm;simp at hm
     | some d2=>
      rw[hdj] at hm
      simp only[List.mem_singleton] at hm
      subst hm
      have:=Xm (Y6 ops.toList ord) hn p' p oj a d hpj hpa hdj hd'
      subst this
      rw[hbit _ _ hbt] at hb;cases hb
 ·rw[List.mem_append,not_or]
  exact ⟨fun hm=>by simp[N6,hga] at hm,c2 d hd'⟩
 ·rw[hbg] at g2
  simp only at g2
  cases hx:(ops.toList[j]?).bind (·.dst) with
  | none=>rw[hx] at g2;cases g2
  | some _=>rfl
 ·rcases g3 with ⟨g3,g5⟩ | g3
  ·have hn:b'.guard=none:=by
    cases hx:b'.guard with
    | none=>rfl
    | some _=>rw[hx] at g5;cases g5
   exact .inl (g3.imp (fun g=>⟨g.1,g.2,hn⟩) fun g=>⟨g.1,g.2,hn⟩)
  ·exact .inr g3
theorem X1B (P:Program) (ops:Array Oper) (J1:List Value→World→Prop) (m:List Value) (a:Uk ops.toList m.length=true) (g:Q74 ops.toList (L6 ops.toList)=true)
 (b:Bool) (t:Nat) (w:World) (h:Y2 P ops.toList J1 (Y6 ops.toList (L6 ops.toList)) m w):Y2 P ops.toList J1 ((Region.schedule b ops t).filterMap (ops[·]?)) m w:=by
 obtain ⟨L,l,i,f⟩:=Q3k a b t
 simp only[Uk,Bool.and_eq_true] at a
 obtain ⟨⟨⟨⟨⟨E,D⟩,u⟩,C⟩,⟨A,z⟩,y⟩,r⟩:=a
 generalize L6 ops.toList=c at*
 rw[l]
 refine Q2t i f u (bit:=R1 ops.toList c) (fun _ _ h=>h) (fun p q e k=>?_) ?_ w h
 ·simp only[Q74,Bool.and_eq_true] at g
  exact List.all_eq_true.1 (List.all_eq_true.1 g.2 q (by simpa using k)) p (by simpa using e)
 ·refine Nl L [] (L:=L) rfl fun j q d n p o e=>?_
  cases v:R1 ops.toList c p q with
  | false=>rfl
  | true=>
   have B:=i.hC j q d n p v (i.hlt p (by rw[n];simp[o]))
   have s:=i.hn
   rw[n] at s
   exact absurd rfl ((List.nodup_append.1 s).2.2 p B p (by simp[o]))
def X1r (b:List Nat) (a c:Nat):List Nat:=((b.erase a).takeWhile (· !=c))++a::((b.erase a).dropWhile (· !=c))
def Q40 (ops:List Oper) (d b:List Nat) (a c:Nat):Bool:=
 Q3O ops b&&Qh (O5 (Y6 ops b))&&
  ((List.range ops.length).all fun q=>(List.range q).all fun p=>(R1 ops d p q||(d.getD p 0==c&&d.getD q 0==a))||Q1N ops (ops.getD (d.getD p 0) default) (ops.getD (d.getD q 0) default))&&
  ((List.range ops.length).all fun q=>(List.range q).all fun p=>(R1 ops b p q||(b.getD p 0==a&&b.getD q 0==c))||Q1N ops (ops.getD (b.getD p 0) default) (ops.getD (b.getD q 0) default))
def Q6W (ops:List Oper):Option (List Nat):=
 match ops.any Q49&&ops.any Ac&&ops.any Ef with
 | true=>match ops.findIdx Ef !=ops.findIdx Ac&&Q40 ops (L6 ops) (X1r (L6 ops) (ops.findIdx Ef) (ops.findIdx Ac)) (ops.findIdx Ef) (ops.findIdx Ac) with
  | true=>some (X1r (L6 ops) (ops.findIdx Ef) (ops.findIdx Ac))
  | false=>none
 | false=>none
theorem X0b {ops:Array Oper} {a f:List Nat} {x y:Nat} (U:f.Nodup) (A: ∀i∈f,i<ops.toList.length∧a.getD (a.idxOf i) 0=i) (s:Arr ops.toList a (f.map (a.idxOf ·))) (m: ∀e n b,f≠e++y::(n++x::b)):
 (f.map (a.idxOf ·)).Pairwise fun q p=>p<q→(R1 ops.toList a p q||(a.getD p 0==x&&a.getD q 0==y))=false:=by
 refine Nl _ [] (L:=f.map (a.idxOf ·)) rfl fun e q b c p l D=>?_
 rw[Bool.or_eq_false_iff]
 constructor
 ·cases B:R1 ops.toList a p q with
  | false=>rfl
  | true=>
   have j:=s.hC e q b c p B (s.hlt p (by rw[c];simp[l]))
   have g:=s.hn
   rw[c] at g
   exact absurd rfl ((List.nodup_append.1 g).2.2 p j p (by simp[l]))
 ·rw[Bool.and_eq_false_iff]
  refine Classical.byContradiction fun d=>?_
  rw[not_or] at d
  obtain ⟨j,g⟩:=d
  have j:a.getD p 0=x:=by simpa using j
  have g:a.getD q 0=y:=by simpa using g
  rw[List.map_eq_append_iff] at c
  obtain ⟨h,u,E,_,v⟩:=c
  rw[List.map_eq_cons_iff] at v
  obtain ⟨i,o,N,O,r⟩:=v
  rw[←r,List.mem_map] at l
  obtain ⟨k,R,t⟩:=l
  obtain ⟨C,M,Q⟩:=List.append_of_mem R
  subst N E Q
  have z:=(A i (by simp)).2
  have w:=(A k (by simp)).2
  rw[O] at z
  rw[t] at w
  have J:i=y:=by rw[←z];exact g
  have H:k=x:=by rw[←w];exact j
  subst J H
  exact m h C M rfl
theorem X0s (P:Program) (ops:Array Oper) (J1:List Value→World→Prop) (D:List Value) (C:Uk ops.toList D.length=true) {d:List Nat} {a c:Nat} (ae:a≠c) (A:Q40 ops.toList (L6 ops.toList) d a c=true)
 (b:Bool) (t:Nat) (w:World) (h1:Y2 P ops.toList J1 (Y6 ops.toList (L6 ops.toList)) D w) (h2:Y2 P ops.toList J1 (Y6 ops.toList d) D w):Y2 P ops.toList J1 ((Region.schedule b ops t).filterMap (ops[·]?)) D w:=by
 simp only[Uk,Bool.and_eq_true] at C
 obtain ⟨⟨⟨⟨⟨W,V⟩,X⟩,hd⟩,⟨v,u⟩,r⟩,o⟩:=C
 simp only[Q40,Bool.and_eq_true] at A
 obtain ⟨⟨⟨j,M⟩,J⟩,H⟩:=A
 by_cases n: ∃g i f,Region.schedule b ops t=g++a::(i++c::f)
 ·obtain ⟨Q,z,E,B,N⟩:=Bl W V v u r j b t
  rw[Q]
  refine Q2t z E M (bit:=fun p q=>R1 ops.toList d p q||(d.getD p 0==a&&d.getD q 0==c)) (fun p q h=>by rw[h];rfl) (fun p q l k=>?_) (X0b B N z fun g i f e=>?_) w h2
  ·exact List.all_eq_true.1 (List.all_eq_true.1 H q (by simpa using k)) p (by simpa using l)
  ·obtain ⟨R,U,O,e'⟩:=n
   have s: ∀{L p m q:List Nat} {x y:Nat},L=p++x::(m++y::q)→L[p.length]? =some x∧L[p.length+1+m.length]? =some y∧p.length+1+m.length<L.length:=by
    rintro L p m q x y rfl
    refine ⟨by simp,?_,by simp;omega⟩
    rw[List.getElem?_append_right (by omega),show p.length+1+m.length-p.length=m.length+1 by omega,List.getElem?_cons_succ]
    simp
   obtain ⟨g1,Y,g3⟩:=s e
   obtain ⟨g4,Z,g6⟩:=s e'
   have k1:=(List.getElem?_inj (by omega) B).1 (g1.trans Z.symm)
   have k2:=(List.getElem?_inj (by omega) B).1 (Y.trans g4.symm)
   omega
 ·obtain ⟨Q,z,E,B,N⟩:=Bl W V v u r o b t
  rw[Q]
  refine Q2t z E X (bit:=fun p q=>R1 ops.toList (L6 ops.toList) p q||((L6 ops.toList).getD p 0==c&&(L6 ops.toList).getD q 0==a)) (fun p q h=>by rw[h];rfl) (fun p q l k=>?_) (X0b B N z fun g i f e=>n ⟨g,i,f,e⟩) w h1
  exact List.all_eq_true.1 (List.all_eq_true.1 J q (by simpa using k)) p (by simpa using l)
theorem X1N (P:Program) (ops:Array Oper) (J1:List Value→World→Prop) (d:List Value) (e:Uk ops.toList d.length=true) {a:List Nat} (c:Q6W ops.toList=some a)
 (b:Bool) (t:Nat) (w:World) (h:Y2 P ops.toList J1 (Y6 ops.toList (L6 ops.toList)) d w∧Y2 P ops.toList J1 (Y6 ops.toList a) d w):Y2 P ops.toList J1 ((Region.schedule b ops t).filterMap (ops[·]?)) d w:=by
 unfold Q6W at c
 split at c
 ·split at c
  ·rename_i f
   cases c
   rw[Bool.and_eq_true] at f
   exact X0s P ops J1 d e (by simpa using f.1) f.2 b t w h.1 h.2
  ·cases c
 ·cases c
theorem X0d: ∃f:World→(World→Prop)→Prop,f=fun w A=>A w.drew:=⟨_,rfl⟩
noncomputable def sq:World→(World→Prop)→Prop:=Classical.choose X0d
theorem X07:sq=fun w A=>A w.drew:=Classical.choose_spec X0d
def Q3H:List Ent→Nat→Ent→(List Ent→Prop)→Prop
 | [],_,_,k=>k []
 | _::l,0,e,k=>k (e::l)
 | x::l,n+1,e,k=>Q3H l n e (fun l'=>k (x::l'))
def Q1x (S:List Ent) (d:Option Nat) (e:Ent) (k:List Ent→Prop):Prop:=
 match d with
 | some d=>Q3H S d e k
 | none=>k S
def Q7z:List Ent→Nat→(Ent→Prop)→Prop
 | [],_,k=>k (.val undef)
 | x::_,0,k=>k x
 | _::l,n+1,k=>Q7z l n k
def Q7U (S:List Ent) (x:Operand) (k:Ent→Prop):Prop:=
 match x with
 | .tmp t=>Q7z S t k
 | .const v=>k (.val v)
 | .global g=>k (.val (.pointer (some ⟨g,0,none⟩)))
 | .func f=>k (.val (.func (.func f) #[] #[]))
def Q0h (u:Nat→Value):List Ent→(List Value→Prop)→Prop
 | [],k=>k []
 | .val v::S,k=>Q0h u S (fun l=>k (v::l))
 | .ref j::S,k=>Q0h u S (fun l=>k (u j::l))
def Q4F:List Value→(List Ent→Prop)→Prop
 | [],k=>k []
 | v::l,k=>Q4F l (fun S=>k (.val v::S))
theorem Q52: ∀(S:List Ent) (n:Nat) (e:Ent) (k:List Ent→Prop),Q3H S n e k=k (Q1j S n e)
 | [],_,_,_=>rfl
 | _::_,0,_,_=>rfl
 | _::l,n+1,e,k=>by simp only[Q3H,Q1j,Q52 l n e]
theorem Q1k (S:List Ent) (d:Option Nat) (e:Ent) (k:List Ent→Prop):Q1x S d e k=k (putE S d e):=by
 cases d with
 | none=>rfl
 | some d=>exact Q52 S d e k
theorem Q4g: ∀(S:List Ent) (n:Nat) (k:Ent→Prop),Q7z S n k=k (getE S n)
 | [],_,_=>rfl
 | _::_,0,_=>rfl
 | _::l,n+1,k=>Q4g l n k
theorem Q7Y (S:List Ent) (x:Operand) (k:Ent→Prop):Q7U S x k=k (entOf S x):=by
 cases x with
 | tmp t=>exact Q4g S t k
 | _=>rfl
theorem Q1f (u:Nat→Value): ∀(S:List Ent) (k:List Value→Prop),Q0h u S k=k (G7 u S)
 | [],_=>rfl
 | .val v::S,k=>by simp only[Q0h,Q1f u S];rfl
 | .ref j::S,k=>by simp only[Q0h,Q1f u S];rfl
theorem Q2B: ∀(l:List Value) (k:List Ent→Prop),Q4F l k=k (l.map .val)
 | [],_=>rfl
 | v::l,k=>by simp only[Q4F,Q2B l];rfl
noncomputable def Lw (P:Program) (r:Bool) (ops:List Oper) (T:World→World→Prop) (B:World→Prop) (J1:List Value→World→Prop) (tail:List Oper):Nat→List Oper→List Ent→He→List Nat→Prop
 | _,[],S,b,done=>Hh done (fun _=>undef) fun u=>Sw r fun c=> ∀w,B w→Q0d b u c w (Q0h u S fun l=>F7 P ops J1 tail l w) done
 | i,o::a,S,b,done=>
  match mv o with
  | some x=>Q7U S x fun e=>Q1x S o.dst e fun S=>Lw P r ops T B J1 tail (i+1) a S b done
  | none=>match Q49 o with
   | true=>Q16 T (fun φ=>Hh (refs ops S o) (fun _=>undef) fun u=>Sw r fun c=> ∀w,B w→Hq b u c w (runOp P ops (G7 u S) o w (dk T (φ ((refs ops S o).map u)) w)) (refs ops S o))
    (fun φ=>Q1x S o.dst (.ref i) fun d=>Lw P r ops T B J1 tail (i+1) a d (b++[(i,refs ops S o,fun xs (_:Iv)=>φ xs)]) (done++[i]))
   | false=>match Q6M r o with
    | true=>Q2g T (fun φ=>Hh (refs ops S o) (fun _=>undef) fun u=>Sw r fun c=> ∀w,B w→Hq b u c w (runOp P ops (G7 u S) o w (dkR T φ w)) (refs ops S o))
     (fun φ=>Q1x S o.dst (.ref i) fun d=>Lw P r ops T B J1 tail (i+1) a d (b++[(i,[],fun (_:List Value)=>φ)]) (done++[i]))
    | false=>Q7 T (fun φ=>Hh (refs ops S o) (fun _=>undef) fun u=>Sw r fun c=> ∀w,B w→Hq b u c w (runOp P ops (G7 u S) o w (dk T φ w)) (refs ops S o))
     (fun φ=>Q1x S o.dst (.ref i) fun d=>Lw P r ops T B J1 tail (i+1) a d (b++[(i,[],fun (_:List Value) (_:Iv)=>φ)]) (done++[i]))
theorem Oj (P:Program) (r:Bool) (ops:List Oper) (T:World→World→Prop) (B:World→Prop) (J1:List Value→World→Prop) (tail:List Oper): ∀(a:List Oper) (i:Nat) (S:List Ent) (b:He) (done:List Nat),
 Lw P r ops T B J1 tail i a S b done=chain P r ops T B J1 tail i a S b done
 | [],i,S,b,done=>by simp only[Lw,chain,Q1f]
 | o::a,i,S,b,done=>by
  simp only[Lw,chain]
  split
  ·rw[Q7Y,Q1k,Oj]
  ·split
   ·congr 1
    funext φ
    rw[Q1k,Oj]
   ·split<;>
    ·congr 1
     funext φ
     rw[Q1k,Oj]
def X28 (ops:List Oper):Bool:=ops.any fun o=>(match o.op with | .build .. =>true | _=>false)&&decide (2≤((E6 o).filter fun s=>ops.any fun c=>Ac c&&c.dst==some s).length)
noncomputable def Q8E (P:Program) (ops:List Oper) (J1:List Value→World→Prop) (l:List Value) (w:World):Prop:=
 drR w fun T B=>Q4F l fun S=>Lw P true ops T B J1 ((Y6 ops (L6 ops)).drop (La ops (L6 ops) ops.length)) 0 ((Y6 ops (L6 ops)).take (La ops (L6 ops) ops.length)) S [] []
noncomputable def X0e (P:Program) (ops:List Oper) (J1:List Value→World→Prop) (l:List Value) (w:World):Prop:=
 dr w fun T B=>Q4F l fun S=>Lw P false ops T B J1 ((Y6 ops (L6 ops)).drop (La ops (L6 ops) ops.length)) 0 ((Y6 ops (L6 ops)).take (La ops (L6 ops) ops.length)) S [] []
def Q07 (a b:List Nat):Bool:=a.all (b.contains ·)&&b.all (a.contains ·)
theorem Hc {a b:List Nat} (h:Q07 a b=true) (i:Nat):a.contains i=b.contains i:=by
 simp only[Q07,Bool.and_eq_true,List.all_eq_true] at h
 rw[Bool.eq_iff_iff]
 constructor
 ·intro c;exact h.1 i (by simpa using c)
 ·intro c;exact h.2 i (by simpa using c)
abbrev V1:=List (Option (List Nat×List Nat))
def V1.slots (a:V1):List (Option (List Nat)):=a.map (·.map (·.1))
theorem V1.slots_get (a:V1) (k:Nat):a.slots.getD k none=(a.getD k none).map (·.1):=by
 simp only[V1.slots,List.getD_eq_getElem?_getD,List.getElem?_map]
 cases a[k]? <;>rfl
noncomputable def Ut (P:Program) (b:V1) (a:List (Option (List Nat))):Nat→Code→Oy→List Value→World→Prop
 | _, .skip,Q,l,w=>Q .normal l w
 | _, .label _,Q,l,w=>Q .normal l w
 | _, .exit id,Q,l,w=>Q (.exit id) l w
 | _, .ret,Q,l,w=>Q .ret l w
 | _, .region _ ops false,Q,l,w=>F7 P ops.toList (fun l w=>Q .normal l w) ops.toList l w
 | _, .region _ ops true,Q,l,w=>match Uk ops.toList l.length with
  | true=>match Q74 ops.toList (L6 ops.toList) with
   | true=>sq w fun w=>F7 P ops.toList (fun l w=>Q .normal l w) (Y6 ops.toList (L6 ops.toList)) l w
   | false=>match Q6W ops.toList with
    | some h=>sq w fun w=>F7 P ops.toList (fun l w=>Q .normal l w) (Y6 ops.toList (L6 ops.toList)) l w∧F7 P ops.toList (fun l w=>Q .normal l w) (Y6 ops.toList h) l w
    | none=>match X28 ops.toList with
     | true=>Q8E P ops.toList (fun l w=>Q .normal l w) l w
     | false=>X0e P ops.toList (fun l w=>Q .normal l w) l w
  | false=>False
 | k, .seq x y,Q,l,w=>match b.getD k none with
  | none=>Ut P b a (k+1) x (thn (fun l w=>Ut P b a (k+1+K6 x) y Q l w) Q) l w
  | some (f,g)=>match Q07 g (L2 a (k+1) x) with
   | true=>jn w (fun J w=>Ut P b a (k+1) x (thn (fun l' w'=>J (Na l' f) w') Q) l w)
    (fun z d w=>Cz f g z d 0 l fun l=>Ut P b a (k+1+K6 x) y Q l w)
   | false=>False
 | k, .cond c x y,Q,l,w=>X1 (ev l c) (Ut P b a k x Q l w) (Ut P b a (k+K6 x) y Q l w)
 | k, .block id c,Q,l,w=>Ut P b a k c (Q1m id Q) l w
 | k, .loop c,Q,l,w=>match b.getD k none with
  | none=>False
  | some (f,g)=>match Q07 g (L2 a (k+1) c) with
   | true=>lp (Na l f) w (fun e x d w=>Cz f g x d 0 l fun l=>Ut P b a (k+1) c (thn (fun l' w'=>e (Na l' f) w') Q) l w)
   | false=>False
 | _,_,_,_,_=>False
theorem Pk {next a:List Value→World→Prop} {Q b:Oy} (d: ∀l w,next l w→a l w) (c: ∀e l w,Q e l w→b e l w): ∀e l w,thn next Q e l w→thn a b e l w:=by
 intro e l w h;cases e<;>first | exact d _ _ h | exact c _ _ _ h
theorem Q9r (P:Program) (m:V1) (c:Code): ∀(k:Nat) (Q j:Oy) (l:List Value) (w:World),(∀e l w,Q e l w→j e l w)→
 Ut P m m.slots k c Q l w→Ms P m.slots k c j l w:=by
 induction c with
 | skip=>intro k Q j l w g h;exact g _ _ _ h
 | label n=>intro k Q j l w g h;exact g _ _ _ h
 | exit id=>intro k Q j l w g h;exact g _ _ _ h
 | ret=>intro k Q j l w g h;exact g _ _ _ h
 | goto n=>intro k Q j l w g h;exact h.elim
 | refuse s=>intro k Q j l w g h;exact h.elim
 | scope c=>intro k Q j l w g h;exact h.elim
 | rangeFunc f p a b=>intro k Q j l w g h;exact h.elim
 | region id ops A=>
  intro k Q j l w g h
  cases A with
  | true=>
   simp only[Ut] at h
   split at h
   ·rename_i u
    intro t
    have v:Y2 P ops.toList (fun l w=>Q .normal l w) ((Region.schedule (P.follows .mixedOrders) ops t).filterMap (ops[·]?)) l w.drew:=by
     split at h
     ·rename_i X
      simp only[X07,Dt] at h
      exact X1B P ops _ l u X _ t _ h
     ·split at h
      ·rename_i aa W
       simp only[X07,Dt] at h
       exact X1N P ops _ l u W _ t _ h
      ·split at h
       ·simp only[Q8E,Q8i,Q4d,Q2B,Oj] at h
        obtain ⟨T,B,M,R,hM,h⟩:=h
        exact Q67 P true ops T B _ l u R hM h (P.follows .mixedOrders) t w.drew M
       ·simp only[X0e,Q9P,Q6D,Q2B,Oj] at h
        obtain ⟨T,B,M,R,h⟩:=h
        exact Q67 P false ops T B _ l u R (fun _ _ _=>Nat.le_refl _) h (P.follows .mixedOrders) t w.drew M
    refine Zu P _ _ _ (O5 ops.toList) l _ _ _ ?_ (P5.refl _ _) (fun l w H _=>g _ _ _ H) v
    intro o D d v
    simp only[List.mem_filterMap] at D
    obtain ⟨i,_,hi⟩:=D
    simp only[O5,List.contains_eq_mem,List.mem_filterMap,decide_eq_true_eq]
    exact ⟨o,by simpa using Array.mem_of_getElem? hi,v⟩
   ·exact h.elim
  | false=>
   simp only[Ut] at h
   rw[Dt] at h
   refine Zu P _ _ _ (O5 ops.toList) l _ _ _ ?_ (P5.refl _ _) (fun l w H _=>g _ _ _ H) h
   intro o D d v
   simp only[O5,List.contains_eq_mem,List.mem_filterMap,decide_eq_true_eq]
   exact ⟨o,D,v⟩
 | seq x y r q=>
  intro k Q j l w g h
  simp only[Ut,Ms] at h⊢
  rw[V1.slots_get]
  split at h
  ·rename_i C
   simp only[C,Option.map_none]
   exact r _ _ _ _ _ (Pk (fun l w h=>q _ _ _ _ _ g h) g) h
  ·rename_i sl wr C
   simp only[C,Option.map_some]
   split at h
   ·rename_i O
    obtain ⟨J,h1,W⟩:=Q4G h
    refine G6 J (r _ _ _ _ _ (Pk (fun l w h=>h) g) h1) fun z d w hz=>?_
    have Z:=W z d w hz
    rw[Q3h,Sd _ _ _ (Hc O)] at Z
    exact q _ _ _ _ _ g Z
   ·exact h.elim
 | cond c x y r q=>
  intro k Q j l w g h
  exact Q3f (r k _ _ _ _ g) (q _ _ _ _ _ g) h
 | block id c V=>
  intro k Q j l w g h
  refine V k _ _ _ _ ?_ h
  intro e l' w' E
  cases e with
  | exit ah=>simp only[Q1m] at E⊢;split<;>rename_i U<;>simp only[U,if_true,if_false] at E<;>exact g _ _ _ E
  | _=>exact g _ _ _ E
 | loop c V=>
  intro k Q j l w g h
  simp only[Ut,Ms] at h⊢
  split at h
  ·exact h.elim
  ·rename_i sl wr C
   have N:(m.slots.getD k none).getD []=sl:=by rw[V1.slots_get,C];rfl
   split at h
   ·rename_i O
    subst N
    refine Q3g (fun L x d w Y=>?_) h
    rw[Q3h,Sd _ _ _ (Hc O)] at Y
    exact V _ _ _ _ _ (Pk (fun l w h=>h) g) Y
   ·exact h.elim
def Q1t (P:Program) (t:TypeId) (a:Value) (w:World) (K:Value→Prop):Prop:= ∃v,(do loadVar t (←asAddr a):Sem Value).run P w= .ok v w∧K v
theorem Q1Z: ∃f:Program→TypeId→Value→World→(Value→Prop)→Prop,f=Q1t:=⟨_,rfl⟩
noncomputable def V7:Program→TypeId→Value→World→(Value→Prop)→Prop:=Classical.choose Q1Z
theorem Q1V:V7=Q1t:=Classical.choose_spec Q1Z
noncomputable def Q4T (P:Program) (l:List Value) (K:List Value→World→Prop):List ResultVar→List Value→World→Prop
 | [],b,w=>K b.reverse w
 | .tmp t::c,b,w=>Q4T P l K c (get l t::b) w
 | .cell a t::c,b,w=>V7 P t (get l a) w fun v=>Q4T P l K c (v::b) w
def Q1R:List Value→Value
 | [v]=>v
 | vs=> .tuple vs.toArray
noncomputable def results (P:Program) (a:List ResultVar) (K:Value→World→Prop) (l:List Value) (w:World):Prop:=
 Q4T P l (fun vs w=>K (Q1R vs) w) a [] w
noncomputable def Q7m (P:Program) (fn:Func) (K:Value→World→Prop):Oy
 | .normal,l,w | .ret,l,w=>results P fn.results.toList K l w
 | _,_,_=>False
def Q8S (K:Value→World→Prop) (e:Ending) (w:World):Prop:=match e with | .returned v=>K v w | _=>False
theorem Q4k (a:Array Value) (t:Nat):a.getD t undef=get a.toList t:=by
 simp[get,List.getD_eq_getElem?_getD]
theorem Q7F (vs:List Value):(if h:vs.toArray.size=1 then vs.toArray[0] else Value.tuple vs.toArray)=Q1R vs:=by
 match vs with
 | []=>rfl
 | [v]=>rfl
 | _::_::_=>rfl
theorem Q10 (P:Program) (l:List Value) (K:List Value→World→Prop) (f:ResultVar→Sem Value)
 (d: ∀t,f (.tmp t)=Pure.pure (get l t)) (c: ∀a t,f (.cell a t)=(do loadVar t (←asAddr (get l a)))): ∀(e:List ResultVar) (b:List Value) (w:World),Q4T P l K e b w→
 ∃vs,(e.mapM f).run P w= .ok vs w∧K (b.reverse++vs) w
 | [],b,w,h=>⟨[],by simp,by rw[List.append_nil];exact h⟩
 | .tmp t::e,b,w,h=>by
  obtain ⟨vs,g,i⟩:=Q10 P l K f d c e _ w h
  refine ⟨get l t::vs,?_,by simpa using i⟩
  rw[List.mapM_cons,d]
  simp[g]
 | .cell a t::e,b,w,h=>by
  simp only[Q4T,Q1V] at h
  obtain ⟨v,j,h⟩:=h
  obtain ⟨vs,g,i⟩:=Q10 P l K f d c e _ w h
  refine ⟨v::vs,?_,by simpa using i⟩
  rw[List.mapM_cons,c,Sem.run_bind,j]
  simp[g]
def X1j (a:Array Value):ResultVar→Sem Value
 | .tmp t=>Pure.pure (a.getD t undef)
 | .cell b t=>do loadVar t (←asAddr (a.getD b undef))
theorem Q53 (fn:Func) (a:Array Value):Go.results fn a=(do
 let vs←fn.results.mapM (X1j a)
 Pure.pure (if h:vs.size=1 then vs[0] else .tuple vs)):=by
 unfold Go.results
 congr 1
theorem Q0v (P:Program) (fn:Func) (K:Value→World→Prop) (a:Array Value) (w:World) (h:results P fn.results.toList K a.toList w):
 ∃v,(Go.results fn a).run P w= .ok v w∧K v w:=by
 rw[Q53,Array.mapM_eq_mapM_toList]
 obtain ⟨vs,b,c⟩:=Q10 P a.toList (fun vs w=>K (Q1R vs) w) (X1j a) (fun t=>by rw[←Q4k];rfl) (fun d t=>by rw[←Q4k];rfl) fn.results.toList [] w h
 refine ⟨Q1R vs,?_,by simpa using c⟩
 rw[Sem.run_bind,Sem.run_map,b]
 simp only[Result.andThen_ok,Sem.run_pure,Q7F]
def Pr (fn:Func) (a:List Value):List Value:=a++List.replicate (fn.ntmps-a.length) undef
theorem Q4t {P:Program} {f:FuncId} {fn:Func} {c:Code} {b:List Value} {w:World} {K:Value→World→Prop} (d:List (Option (List Nat)))
 (j:P.funcs[f]? =some fn) (k:fn.body=some c) (h:Ms P d 0 c (Q7m P fn K) (Pr fn b) w):Calls P f b.toArray w (Q8S K):=by
 refine calls_of_wp j k (wp_mono (Q82 P d c 0 (Q7m P fn K) _ w rfl ?_) ?_)
 ·have:(b.toArray++Array.replicate (fn.ntmps-b.toArray.size) undef).toList=Pr fn b:=by simp[Pr]
  simp only[this];exact h
 ·intro e a w ⟨i,g⟩
  cases e with
  | normal=>exact ⟨i,Q0v P fn K _ _ g⟩
  | ret=>exact ⟨i,Q0v P fn K _ _ g⟩
  | _=>exact g.elim
theorem Ur {P:Program} {f:FuncId} {fn:Func} {a:List Value} {w:World} {K:Value→World→Prop}
 (g:P.funcs[f]? =some fn) (d:fn.body.isSome=true) (j:(fn.name== "runtime.NumGoroutine")=false) (h:Calls P f a.toArray w (Q8S K)):Q1 P f a w K:=by
 have k:(callFunc f a.toArray).run P w= .ok (.enter f a.toArray) w:=by
  unfold callFunc
  simp only[Sem.run_bind,run_program,Result.andThen_ok,g,j,Bool.false_eq_true,if_false]
  cases b:fn.body with
  | none=>rw[b] at d;cases d
  | some c=>simp
 unfold Q1
 rw[Xb]
 unfold Qf
 rw[k]
 refine h.mono fun e w' i=>?_
 cases e<;>exact i
theorem Q2m {P:Program} {f:FuncId} {fn:Func} {a:List Value} {w:World} {K:Value→World→Prop}
 (g:P.funcs[f]? =some fn) (d:fn.body.isSome=true) (j:(fn.name== "runtime.NumGoroutine")=false) (h:Q1 P f a w K):Calls P f a.toArray w (Q8S K):=by
 have k:(callFunc f a.toArray).run P w= .ok (.enter f a.toArray) w:=by
  unfold callFunc
  simp only[Sem.run_bind,run_program,Result.andThen_ok,g,j,Bool.false_eq_true,if_false]
  cases b:fn.body with
  | none=>rw[b] at d;cases d
  | some c=>simp
 unfold Q1 at h
 rw[Xb] at h
 unfold Qf at h
 rw[k] at h
 refine Calls.mono h fun e w' i=>?_
 cases e<;>exact i
theorem X11 {P:Program} {f:FuncId} {fn:Func} {b:List Value} {w:World} {K:Value→World→Prop} (a:V1)
 (d:P.funcs[f]? =some fn) (e:fn.body.isSome=true) (i:(fn.name== "runtime.NumGoroutine")=false)
 (h:Ut P a a.slots 0 (fn.body.getD .skip) (Q7m P fn K) (Pr fn b) w):Q1 P f b w K:=by
 refine Ur d e i ?_
 obtain ⟨c,g⟩:=Option.isSome_iff_exists.1 e
 rw[g] at h
 exact Q4t a.slots d g (Q9r P a c 0 _ _ _ _ (fun _ _ _ h=>h) h)
theorem Q9 {P:Program} {f:FuncId} {fn:Func} {a:List Value} {w:World} {K:Value→World→Prop} {g:Prop} (b:V1)
 (c:P.funcs[f]? =some fn) (i:fn.body.isSome=true) (e:(fn.name== "runtime.NumGoroutine")=false)
 (d:g=Ut P b b.slots 0 (fn.body.getD .skip) (Q7m P fn K) (Pr fn a) w) (h:g):Q1 P f a w K:=
 X11 b c i e (d▸h)
theorem Y7 {P:Program} {f:FuncId} {first caps:List Value} {a:List Value} {w:World} {K:Value→World→Prop} (h:Q1 P f (first++a++caps) w K):Y9 P (.func (.func f) first.toArray caps.toArray) a w K:=by
 simpa [Y9,Q1,Deferred.ofValue,invoke,pure_bind,List.append_toArray] using h
end Go.Emb

namespace Go.Proofs.YtfppjenblllfaaaGreatDoor
noncomputable abbrev P : Program := Tryz.prog
namespace F
abbrev bH : Nat := 9
abbrev aU : Nat := 10
abbrev ay : Nat := 11
abbrev cp : Nat := 13
abbrev aC : Nat := 15
abbrev cC : Nat := 16
abbrev b3 : Nat := 18
abbrev cP : Nat := 19
abbrev v : Nat := 20
abbrev cD : Nat := 23
abbrev bk : Nat := 24
abbrev cI : Nat := 25
abbrev au : Nat := 26
abbrev bt : Nat := 27
abbrev bI : Nat := 28
abbrev aD : Nat := 29
abbrev aE : Nat := 31
abbrev a0 : Nat := 32
abbrev aV : Nat := 34
abbrev b : Nat := 35
abbrev cq : Nat := 36
abbrev aj : Nat := 37
abbrev bl : Nat := 38
abbrev a1 : Nat := 39
abbrev ab : Nat := 40
abbrev k : Nat := 41
abbrev ai : Nat := 42
abbrev ca : Nat := 43
abbrev cr : Nat := 44
abbrev cb : Nat := 45
abbrev cc : Nat := 46
abbrev aW : Nat := 47
abbrev n : Nat := 48
abbrev b4 : Nat := 49
abbrev b5 : Nat := 50
abbrev aQ : Nat := 51
abbrev b6 : Nat := 52
abbrev b7 : Nat := 53
abbrev c : Nat := 54
abbrev aX : Nat := 55
abbrev az : Nat := 56
abbrev aM : Nat := 57
abbrev aR : Nat := 58
abbrev a9 : Nat := 59
abbrev h : Nat := 60
abbrev bm : Nat := 61
abbrev ac : Nat := 62
abbrev bu : Nat := 63
abbrev aP : Nat := 64
abbrev cf : Nat := 65
abbrev c7 : Nat := 66
abbrev cs : Nat := 67
abbrev cg : Nat := 68
abbrev cJ : Nat := 69
abbrev bv : Nat := 70
abbrev a2 : Nat := 71
abbrev aw : Nat := 72
abbrev ch : Nat := 73
abbrev cK : Nat := 74
abbrev c4 : Nat := 75
abbrev ct : Nat := 76
abbrev ci : Nat := 77
abbrev cj : Nat := 78
abbrev c8 : Nat := 79
abbrev cA : Nat := 80
abbrev cu : Nat := 81
abbrev cB : Nat := 82
abbrev ck : Nat := 83
abbrev cl : Nat := 84
abbrev c9 : Nat := 85
abbrev b8 : Nat := 86
abbrev cQ : Nat := 87
abbrev bQ : Nat := 88
abbrev ae : Nat := 89
abbrev cL : Nat := 90
abbrev c5 : Nat := 91
abbrev ad : Nat := 92
abbrev bi : Nat := 93
abbrev cv : Nat := 94
abbrev cd : Nat := 95
abbrev a6 : Nat := 96
abbrev bJ : Nat := 97
abbrev aS : Nat := 98
abbrev t : Nat := 99
abbrev bK : Nat := 100
abbrev d : Nat := 101
abbrev u : Nat := 102
abbrev ax : Nat := 103
abbrev b9 : Nat := 104
abbrev af : Nat := 105
abbrev ag : Nat := 106
abbrev aL : Nat := 107
abbrev a : Nat := 108
abbrev aA : Nat := 109
abbrev bR : Nat := 110
abbrev aY : Nat := 111
abbrev bn : Nat := 112
abbrev ba : Nat := 113
abbrev bb : Nat := 114
abbrev bc : Nat := 115
abbrev aF : Nat := 116
abbrev aZ : Nat := 117
abbrev cE : Nat := 118
abbrev bd : Nat := 119
abbrev i : Nat := 120
abbrev aG : Nat := 121
abbrev cN : Nat := 122
abbrev bF : Nat := 123
abbrev c6 : Nat := 125
abbrev a4 : Nat := 126
abbrev cw : Nat := 130
abbrev bo : Nat := 132
abbrev ar : Nat := 135
abbrev bp : Nat := 138
abbrev be : Nat := 139
abbrev bG : Nat := 140
abbrev bS : Nat := 141
abbrev aa : Nat := 142
abbrev bX : Nat := 143
abbrev bY : Nat := 144
abbrev a3 : Nat := 145
abbrev aH : Nat := 146
abbrev bZ : Nat := 147
abbrev av : Nat := 148
abbrev c0 : Nat := 149
abbrev al : Nat := 150
abbrev c1 : Nat := 151
abbrev am : Nat := 152
abbrev bj : Nat := 153
abbrev bw : Nat := 154
abbrev ah : Nat := 155
abbrev aT : Nat := 156
abbrev a7 : Nat := 157
abbrev a8 : Nat := 158
abbrev s : Nat := 159
abbrev bL : Nat := 160
abbrev j : Nat := 161
abbrev b0 : Nat := 162
abbrev bT : Nat := 163
abbrev g : Nat := 164
abbrev cM : Nat := 165
abbrev aI : Nat := 166
abbrev o : Nat := 167
abbrev cm : Nat := 168
abbrev aJ : Nat := 169
abbrev e : Nat := 170
abbrev r : Nat := 171
abbrev w : Nat := 172
abbrev x : Nat := 173
abbrev aN : Nat := 174
abbrev aB : Nat := 175
abbrev bq : Nat := 176
abbrev ak : Nat := 177
abbrev ce : Nat := 178
abbrev bU : Nat := 179
abbrev a5 : Nat := 183
abbrev bM : Nat := 184
abbrev cn : Nat := 185
abbrev bN : Nat := 186
abbrev an : Nat := 187
abbrev bV : Nat := 188
abbrev c2 : Nat := 189
abbrev f : Nat := 190
abbrev bO : Nat := 191
abbrev bA : Nat := 192
abbrev bB : Nat := 193
abbrev bx : Nat := 194
abbrev b1 : Nat := 195
abbrev ao : Nat := 196
abbrev b2 : Nat := 197
abbrev cx : Nat := 198
abbrev ap : Nat := 199
abbrev cR : Nat := 203
abbrev aK : Nat := 204
abbrev aO : Nat := 205
abbrev bP : Nat := 206
abbrev cy : Nat := 207
abbrev cS : Nat := 211
abbrev c3 : Nat := 212
abbrev l : Nat := 213
abbrev bC : Nat := 214
abbrev bW : Nat := 215
abbrev cF : Nat := 216
abbrev m : Nat := 217
abbrev bD : Nat := 218
abbrev bf : Nat := 221
abbrev br : Nat := 222
abbrev aq : Nat := 223
abbrev y : Nat := 224
abbrev cG : Nat := 225
abbrev bz : Nat := 226
abbrev co : Nat := 227
abbrev cH : Nat := 228
abbrev z : Nat := 229
abbrev bg : Nat := 232
abbrev bh : Nat := 233
abbrev cz : Nat := 234
abbrev bE : Nat := 235
abbrev q : Nat := 236
abbrev cO : Nat := 237
abbrev bs : Nat := 240
abbrev p : Nat := 242
end F
namespace T
abbrev x : Nat := 0
abbrev a6 : Nat := 2
abbrev e : Nat := 3
abbrev n : Nat := 4
abbrev y : Nat := 5
abbrev b : Nat := 9
abbrev ao : Nat := 12
abbrev ag : Nat := 21
abbrev d : Nat := 22
abbrev h : Nat := 24
abbrev r : Nat := 25
abbrev g : Nat := 26
abbrev s : Nat := 31
abbrev k : Nat := 37
abbrev o : Nat := 38
abbrev c : Nat := 40
abbrev l : Nat := 42
abbrev al : Nat := 43
abbrev z : Nat := 48
abbrev t : Nat := 51
abbrev u : Nat := 68
abbrev j : Nat := 71
abbrev w : Nat := 76
abbrev v : Nat := 78
abbrev i : Nat := 79
abbrev f : Nat := 80
abbrev a : Nat := 82
abbrev m : Nat := 89
abbrev a1 : Nat := 92
abbrev a0 : Nat := 94
abbrev ai : Nat := 104
abbrev a4 : Nat := 107
abbrev ah : Nat := 116
abbrev aj : Nat := 121
abbrev q : Nat := 124
abbrev a2 : Nat := 127
abbrev a8 : Nat := 128
abbrev a5 : Nat := 133
abbrev a3 : Nat := 152
abbrev aa : Nat := 155
abbrev p : Nat := 159
abbrev ab : Nat := 180
abbrev ac : Nat := 183
abbrev am : Nat := 186
abbrev ae : Nat := 188
abbrev ap : Nat := 199
abbrev an : Nat := 200
abbrev ad : Nat := 202
abbrev af : Nat := 203
abbrev a7 : Nat := 206
abbrev a9 : Nat := 207
abbrev ak : Nat := 214
abbrev aq : Nat := 217
abbrev ar : Nat := 220
end T
namespace G
abbrev b : Nat := 0
abbrev e : Nat := 1
abbrev d : Nat := 2
abbrev c : Nat := 3
abbrev a : Nat := 4
end G
end Go.Proofs.YtfppjenblllfaaaGreatDoor

set_option maxRecDepth 100000
namespace Go.Proofs.YtfppjenblllfaaaGreatDoor
open Go.Emb
def Zm (f h:Value) (w:World) (K:Value→World→Prop):Prop:= nilCheck P f w fun g w=>fieldAddr P T.v g 1 w fun b w=>Q2 P T.w b w fun d w=>lookup P T.w d h true w fun a w=>ext P a 0 w fun e w=>ext P a 1 w fun c w=>K c w
theorem Nx {a b:Value} {w:World} {K:Value→World→Prop} (h:Zm a b w K):Q1 P F.k [a,b] w K:=Q9 (List.replicate 3 none) Tryz.func41 rfl (by decide) (by kernel_rfl) h
def Q4X:V1:=[none,none,none,none,some ([1,10],[1,3,10,11,12,13,14,15,16,17,18]),none,none,none,none,none]
def Th (w:World) (K:Value→World→Prop):Prop:= O7 P T.a [(0,(.string ⟨#[79,98,106,101,99,116]⟩))] w fun k w=>O7 P T.m [(0,(.string ⟨#[119,104,97,116]⟩)),(1,(.string ⟨#[116,101,120,116]⟩))] w fun m w=>buildSlice P T.i 1 [(0,m)] w fun i w=>O7 P T.a [(0,(.string ⟨#[70,97,117,108,116]⟩)),(1,(.string ⟨#[79,98,106,101,99,116]⟩)),(6,i)] w fun j w=>buildSlice P T.g 2 [(0,k),(1,j)] w fun l w=>Q2 P T.ah (.pointer (some ⟨G.b,0,none⟩)) w fun n w=>lp (α:=Value×Value) (l,(.int .i64 0)) w fun a b o w=>Q3 P .lss T.e (.tmp 10) (.const (.int .i64 6)) b.2 (.int .i64 6) w fun g w=>X1 g (E1 P T.ah n b.2 w fun e w=>O7 P T.a [(0,e),(1,(.string ⟨#[70,97,117,108,116]⟩)),(5,(.bool true))] w fun f w=>buildSlice P T.g 1 [(0,f)] w fun d w=>X5 P .append [T.g,T.g] T.g [false,false] [b.1,d] w fun h w=>Q3 P .add T.e (.tmp 10) (.const (.int .i64 1)) b.2 (.int .i64 1) w fun c w=>a (h,c) w) (K b.1 w)
theorem Q4W {w:World} {K:Value→World→Prop} (h:Th w K):Q1 P F.cr [] w K:=Q9 Q4X Tryz.func44 rfl (by decide) (by kernel_rfl) h
def Q5b:V1:=[none,none,none,some ([8],[2,4,8,9,10,11,12,13,14,15,16,17,18,19,20,21,22,23,24,25,26,27,28,29,30,31,32,33]),none,none,none,none,none,none,none]
def Au (Y:Value) (w:World) (K:Value→World→Prop):Prop:= box P T.a Y w fun b w=>fieldAddr P T.a b 7 w fun t5 w=>Q2 P T.f t5 w fun W w=>X5 P .len [T.f] T.e [false] [W] w fun X w=>lp (α:=Value) (.int .i64 0) w fun g v d_ w=>Q3 P .lss T.e (.tmp 8) (.tmp 7) v X w fun Z w=>X1 Z (indexAddr P T.f W v w fun i w=>Q2 P T.c i w fun R w=>W7 P T.c w fun a w=>Z4 P T.c a R w fun _u w=>fieldAddr P T.c a 1 w fun l w=>Q2 P T.d l w fun U w=>X5 P .len [T.d] T.e [false] [U] w fun p w=>Q3 P .gtr T.e (.tmp 14) (.const (.int .i64 32)) p (.int .i64 32) w fun c w=>Q0 c false w (fieldAddr P T.c a 6) fun n w=>Q0 c false w (Q2 P T.o n) fun z w=>Q0 c false w (X5 P .len [T.o] T.e [false] [z]) fun t w=>Q0 c false w (Q3 P .gtr T.e (.tmp 19) (.const (.int .i64 32)) t (.int .i64 32)) fun E w=>pick P c (.bool true) E w fun e w=>Q0 e false w (fieldAddr P T.c a 5) fun L w=>Q0 e false w (Q2 P T.k L) fun O w=>Q0 e false w (X5 P .len [T.k] T.e [false] [O]) fun r w=>Q0 e false w (Q3 P .gtr T.e (.tmp 25) (.const (.int .i64 200)) r (.int .i64 200)) fun C w=>pick P e (.bool true) C w fun h w=>Q0 h false w (fieldAddr P T.c a 4) fun N w=>Q0 h false w (Q2 P T.e N) fun y w=>Q0 h false w (Q3 P .gtr T.e (.tmp 30) (.const (.int .i64 64)) y (.int .i64 64)) fun j w=>pick P h (.bool true) j w fun H w=>X1 H (K (.bool true) w) (Q3 P .add T.e (.tmp 8) (.const (.int .i64 1)) v (.int .i64 1) w fun Q w=>g Q w)) (fieldAddr P T.a b 2 w fun A w=>Q2 P T.d A w fun o w=>X5 P .len [T.d] T.e [false] [o] w fun V w=>Q3 P .gtr T.e (.tmp 36) (.const (.int .i64 32)) V (.int .i64 32) w fun f w=>Q0 f false w (fieldAddr P T.a b 6) fun m w=>Q0 f false w (Q2 P T.i m) fun k w=>Q0 f false w (X5 P .len [T.i] T.e [false] [k]) fun J w=>Q0 f false w (Q3 P .gtr T.e (.tmp 41) (.const (.int .i64 32)) J (.int .i64 32)) fun s w=>pick P f (.bool true) s w fun d w=>Q0 d false w (fieldAddr P T.a b 7) fun B w=>Q0 d false w (Q2 P T.f B) fun D w=>Q0 d false w (X5 P .len [T.f] T.e [false] [D]) fun u w=>Q0 d false w (Q3 P .gtr T.e (.tmp 47) (.const (.int .i64 32)) u (.int .i64 32)) fun M w=>pick P d (.bool true) M w fun q w=>K q w)
theorem Q4c {a:Value} {w:World} {K:Value→World→Prop} (h:Au a w K):Q1 P F.cv [a] w K:=Q9 Q5b Tryz.func94 rfl (by decide) (by kernel_rfl) h
def Q7A:V1:=[none,none,none,some ([],[4,6,9,10,11,12,13,14,15]),none,none,none,none,none,none]
def Q1O (g i:Value) (w:World) (K:Value→World→Prop):Prop:= rng P T.b g w fun h w=>lp (α:=Unit) () w fun a k j w=>J1 P h true T.x w fun f w=>ext P f 0 w fun b w=>X1 b (ext P f 2 w fun e w=>Y9 P i [e] w fun c w=>J5 P .not c w fun d w=>X1 d (K (.bool false) w) (a () w)) (K (.bool true) w)
theorem Q7q {a b:Value} {w:World} {K:Value→World→Prop} (h:Q1O a b w K):Q1 P F.cn [a,b] w K:=Q9 Q7A Tryz.func185 rfl (by decide) (by kernel_rfl) h
def An (b:Value) (w:World) (K:Value→World→Prop):Prop:= Q3 P .geq T.ag (.tmp 3) (.const (.int .i32 65)) b (.int .i32 65) w fun a w=>Q0 a true w (fun w J=>J b w) fun c w=>Q0 a true w (Q3 P .leq T.ag (.tmp 6) (.const (.int .i32 90)) c (.int .i32 90)) fun d w=>pick P a d (.bool false) w fun e w=>K e w
theorem Q5e {a:Value} {w:World} {K:Value→World→Prop} (h:An a w K):Q1 P F.bS [a] w K:=Q9 (List.replicate 2 none) Tryz.func141 rfl (by decide) (by kernel_rfl) h
def Td (b:Value) (w:World) (K:Value→World→Prop):Prop:= Q3 P .geq T.ag (.tmp 3) (.const (.int .i32 97)) b (.int .i32 97) w fun a w=>Q0 a true w (fun w J=>J b w) fun c w=>Q0 a true w (Q3 P .leq T.ag (.tmp 6) (.const (.int .i32 122)) c (.int .i32 122)) fun d w=>pick P a d (.bool false) w fun e w=>K e w
theorem Q3R {a:Value} {w:World} {K:Value→World→Prop} (h:Td a w K):Q1 P F.bU [a] w K:=Q9 (List.replicate 2 none) Tryz.func179 rfl (by decide) (by kernel_rfl) h
def Il (c:Value) (w:World) (K:Value→World→Prop):Prop:= Q1 P F.bS [c] w fun d w=>Q0 d false w (fun w J=>J c w) fun k w=>Q0 d false w (Q1 P F.bU [k]) fun l w=>pick P d (.bool true) l w fun b w=>Q0 b false w (fun w J=>J c w) fun e w=>Q0 b false w (Q3 P .geq T.ag (.tmp 10) (.const (.int .i32 48)) e (.int .i32 48)) fun i w=>Q0 b false w (fun w J=>J i w) fun a w=>Q0 a true w (fun w J=>J c w) fun j w=>Q0 a true w (Q3 P .leq T.ag (.tmp 13) (.const (.int .i32 57)) j (.int .i32 57)) fun f w=>Q0 b false w (pick P a f (.bool false)) fun h w=>pick P b (.bool true) h w fun g w=>K g w
theorem Q3s {a:Value} {w:World} {K:Value→World→Prop} (h:Il a w K):Q1 P F.bN [a] w K:=Q9 (List.replicate 2 none) Tryz.func186 rfl (by decide) (by kernel_rfl) h
def Q0E (c:Value) (w:World) (K:Value→World→Prop):Prop:= Q3 P .eql T.b (.tmp 3) (.const (.string ⟨#[]⟩)) c (.string ⟨#[]⟩) w fun d w=>Q0 d false w (fun w J=>J c w) fun o w=>Q0 d false w (X5 P .len [T.b] T.e [false] [o]) fun n w=>Q0 d false w (Q3 P .gtr T.e (.tmp 7) (.const (.int .i64 32)) n (.int .i64 32)) fun p w=>pick P d (.bool true) p w fun b w=>Q0 b false w (fun w J=>J c w) fun l w=>Q0 b false w (E1 P T.b l (.int .i64 0)) fun e w=>Q0 b false w (Q3 P .geq T.y (.tmp 12) (.const (.int .u8 48)) e (.int .u8 48)) fun m w=>Q0 b false w (fun w J=>J m w) fun a w=>Q0 a true w (fun w J=>J c w) fun f w=>Q0 a true w (E1 P T.b f (.int .i64 0)) fun k w=>Q0 a true w (Q3 P .leq T.y (.tmp 16) (.const (.int .u8 57)) k (.int .u8 57)) fun g w=>Q0 b false w (pick P a g (.bool false)) fun j w=>pick P b (.bool true) j w fun i w=>X1 i (K (.bool false) w) (Q1 P F.cn [c,(.func (.func F.bN) #[] #[])] w fun h w=>K h w)
theorem Q5U {a:Value} {w:World} {K:Value→World→Prop} (h:Q0E a w K):Q1 P F.bG [a] w K:=Q9 (List.replicate 5 none) Tryz.func140 rfl (by decide) (by kernel_rfl) h
def Pu (c:Value) (w:World) (K:Value→World→Prop):Prop:= Q1 P F.bG [c] w fun a w=>Q0 a true w (fun w J=>J c w) fun d w=>Q0 a true w (E1 P T.b d (.int .i64 0)) fun e w=>Q0 a true w (conv P T.y T.ag e) fun f w=>Q0 a true w (Q1 P F.bS [f]) fun g w=>pick P a g (.bool false) w fun b w=>K b w
theorem Q42 {a:Value} {w:World} {K:Value→World→Prop} (h:Pu a w K):Q1 P F.ad [a] w K:=Q9 (List.replicate 2 none) Tryz.func92 rfl (by decide) (by kernel_rfl) h
def Qk:V1:=[none,none,none,some ([8],[4,5,8,9,10,11,12,13,14,15,16,17,18]),none,none,none,none,none,none,none]
def R0 (g j:Value) (w:World) (K:Value→World→Prop):Prop:= X5 P .len [T.f] T.e [false] [g] w fun h w=>lp (α:=Value) (.int .i64 0) w fun a b k w=>Q3 P .lss T.e (.tmp 8) (.tmp 7) b h w fun i w=>X1 i (indexAddr P T.f g b w fun c w=>Q2 P T.c c w fun f w=>Y9 P j [f] w fun e w=>X1 e (K b w) (Q3 P .add T.e (.tmp 8) (.const (.int .i64 1)) b (.int .i64 1) w fun d w=>a d w)) (K (.int .i64 (-1)) w)
theorem Qr {a b:Value} {w:World} {K:Value→World→Prop} (h:R0 a b w K):Q1 P F.g [a,b] w K:=Q9 Qk Tryz.func164 rfl (by decide) (by kernel_rfl) h
def E4 (b d:Value) (w:World) (K:Value→World→Prop):Prop:= Q1 P F.g [b,d] w fun a w=>Q3 P .geq T.e (.tmp 7) (.const (.int .i64 0)) a (.int .i64 0) w fun c w=>K c w
theorem K4 {a b:Value} {w:World} {K:Value→World→Prop} (h:E4 a b w K):Q1 P F.a [a,b] w K:=Q9 (List.replicate 2 none) Tryz.func108 rfl (by decide) (by kernel_rfl) h
def Lq:V1:=[none,none,none,some ([8],[4,5,8,9,10,11,12,13,14,15,16,17,18]),none,none,none,none,none,none,none]
def T0 (g j:Value) (w:World) (K:Value→World→Prop):Prop:= X5 P .len [T.d] T.e [false] [g] w fun h w=>lp (α:=Value) (.int .i64 0) w fun a b k w=>Q3 P .lss T.e (.tmp 8) (.tmp 7) b h w fun i w=>X1 i (indexAddr P T.d g b w fun c w=>Q2 P T.b c w fun f w=>Q3 P .eql T.b (.tmp 11) (.tmp 15) j f w fun e w=>X1 e (K b w) (Q3 P .add T.e (.tmp 8) (.const (.int .i64 1)) b (.int .i64 1) w fun d w=>a d w)) (K (.int .i64 (-1)) w)
theorem Wx {a b:Value} {w:World} {K:Value→World→Prop} (h:T0 a b w K):Q1 P F.an [a,b] w K:=Q9 Lq Tryz.func187 rfl (by decide) (by kernel_rfl) h
def G9 (b d:Value) (w:World) (K:Value→World→Prop):Prop:= Q1 P F.an [b,d] w fun a w=>Q3 P .geq T.e (.tmp 7) (.const (.int .i64 0)) a (.int .i64 0) w fun c w=>K c w
theorem Uc {a b:Value} {w:World} {K:Value→World→Prop} (h:G9 a b w K):Q1 P F.aa [a,b] w K:=Q9 (List.replicate 2 none) Tryz.func142 rfl (by decide) (by kernel_rfl) h
def Rk (c:Value) (w:World) (K:Value→World→Prop):Prop:= box P T.c c w fun a w=>fieldAddr P T.c a 3 w fun d w=>Q2 P T.n d w fun b w=>K b w
theorem Q1J {a:Value} {w:World} {K:Value→World→Prop} (h:Rk a w K):Q1 P F.bX [a] w K:=Q9 (List.replicate 2 none) Tryz.func143 rfl (by decide) (by kernel_rfl) h
def Re (c:Value) (w:World) (K:Value→World→Prop):Prop:= box P T.c c w fun a w=>fieldAddr P T.c a 3 w fun e w=>Q2 P T.n e w fun b w=>J5 P .not b w fun d w=>K d w
theorem Q1D {a:Value} {w:World} {K:Value→World→Prop} (h:Re a w K):Q1 P F.bY [a] w K:=Q9 (List.replicate 2 none) Tryz.func144 rfl (by decide) (by kernel_rfl) h
def Ju:V1:=[none,none,none,some ([8],[4,5,8,9,10,11,12,13,14,15,16,17,18]),none,none,none,none,none,none,none]
def G4 (g j:Value) (w:World) (K:Value→World→Prop):Prop:= X5 P .len [T.d] T.e [false] [g] w fun h w=>lp (α:=Value) (.int .i64 0) w fun a b k w=>Q3 P .lss T.e (.tmp 8) (.tmp 7) b h w fun i w=>X1 i (indexAddr P T.d g b w fun c w=>Q2 P T.b c w fun f w=>Y9 P j [f] w fun e w=>X1 e (K b w) (Q3 P .add T.e (.tmp 8) (.const (.int .i64 1)) b (.int .i64 1) w fun d w=>a d w)) (K (.int .i64 (-1)) w)
theorem Jv {a b:Value} {w:World} {K:Value→World→Prop} (h:G4 a b w K):Q1 P F.s [a,b] w K:=Q9 Ju Tryz.func159 rfl (by decide) (by kernel_rfl) h
def B8 (b d:Value) (w:World) (K:Value→World→Prop):Prop:= Q1 P F.s [b,d] w fun a w=>Q3 P .geq T.e (.tmp 7) (.const (.int .i64 0)) a (.int .i64 0) w fun c w=>K c w
theorem Yr {a b:Value} {w:World} {K:Value→World→Prop} (h:B8 a b w K):Q1 P F.d [a,b] w K:=Q9 (List.replicate 2 none) Tryz.func101 rfl (by decide) (by kernel_rfl) h
def Ug (d e:Value) (w:World) (K:Value→World→Prop):Prop:= Q2 P T.z e w fun c w=>Y9 P c [d] w fun a w=>J5 P .not a w fun b w=>K b w
theorem Ss {a b:Value} {w:World} {K:Value→World→Prop} (h:Ug a b w K):Q1 P F.bV [a,b] w K:=Q9 (List.replicate 2 none) Tryz.func188 rfl (by decide) (by kernel_rfl) h
def Wc (d f:Value) (w:World) (K:Value→World→Prop):Prop:= box P T.z f w fun a w=>M4 P (.func F.bV) [] [a] w fun b w=>Q1 P F.d [d,b] w fun c w=>J5 P .not c w fun e w=>K e w
theorem Bo {a b:Value} {w:World} {K:Value→World→Prop} (h:Wc a b w K):Q1 P F.a3 [a,b] w K:=Q9 (List.replicate 2 none) Tryz.func145 rfl (by decide) (by kernel_rfl) h
def Vt (o l n:Value) (w:World) (K:Value→World→Prop):Prop:= dr w fun a b=>Q7 a (fun d=> ∀w,b w→Q2 P T.a5 l w (dk a d w)) fun d=>Q7 a (fun f=> ∀c w,b w→d c w→Y9 P c [o] w (dk a f w)) fun f=>Q7 a (fun h=> ∀w,b w→Q2 P T.a5 l w (dk a h w)) fun h=>Q7 a (fun i=> ∀w,b w→Q2 P T.b n w (dk a i w)) fun i=>∀c j k m w,b w→d c w→f j w→h k w→i m w→ Y9 P k [m] w fun e w=>Q3 P .eql T.b (.tmp 7) (.tmp 10) j e w fun g w=>K g w
theorem Ci {b c a:Value} {w:World} {K:Value→World→Prop} (h:Vt b c a w K):Q1 P F.c2 [b,c,a] w K:=Q9 (List.replicate 2 none) Tryz.func189 rfl (by decide) (by kernel_rfl) h
def Kq:V1:=[none,none,none,some ([9],[4,5,6,9,10,11,12,13,14,15,16,17,18,19]),none,none,none,none,none,none,none]
def Mk (i n:Value) (w:World) (K:Value→World→Prop):Prop:= box P T.a5 n w fun a w=>X5 P .len [T.d] T.e [false] [i] w fun m w=>lp (α:=Value) (.int .i64 0) w fun c d o w=>Q3 P .lss T.e (.tmp 9) (.tmp 8) d m w fun e w=>X1 e (indexAddr P T.d i d w fun j w=>Q2 P T.b j w fun g w=>W7 P T.b w fun b w=>Z4 P T.b b g w fun _u w=>E9 P T.d i none (some d) none w fun h w=>M4 P (.func F.c2) [] [a,b] w fun l w=>Q1 P F.d [h,l] w fun f w=>X1 f (K (.bool false) w) (Q3 P .add T.e (.tmp 9) (.const (.int .i64 1)) d (.int .i64 1) w fun k w=>c k w)) (K (.bool true) w)
theorem Iw {a b:Value} {w:World} {K:Value→World→Prop} (h:Mk a b w K):Q1 P F.aH [a,b] w K:=Q9 Kq Tryz.func146 rfl (by decide) (by kernel_rfl) h
def Q1T (a:Value) (w:World) (K:Value→World→Prop):Prop:= K a w
theorem Q1F {a:Value} {w:World} {K:Value→World→Prop} (h:Q1T a w K):Q1 P F.bZ [a] w K:=Q9 (List.replicate 2 none) Tryz.func147 rfl (by decide) (by kernel_rfl) h
def Xh:V1:=[none,none,none,some ([8],[4,5,8,9,10,11,12,13,14,15,16,17,18]),none,none,none,none,none,none,none]
def C0 (g j:Value) (w:World) (K:Value→World→Prop):Prop:= X5 P .len [T.i] T.e [false] [g] w fun h w=>lp (α:=Value) (.int .i64 0) w fun a b k w=>Q3 P .lss T.e (.tmp 8) (.tmp 7) b h w fun i w=>X1 i (indexAddr P T.i g b w fun c w=>Q2 P T.m c w fun f w=>Y9 P j [f] w fun e w=>X1 e (K b w) (Q3 P .add T.e (.tmp 8) (.const (.int .i64 1)) b (.int .i64 1) w fun d w=>a d w)) (K (.int .i64 (-1)) w)
theorem Xd {a b:Value} {w:World} {K:Value→World→Prop} (h:C0 a b w K):Q1 P F.j [a,b] w K:=Q9 Xh Tryz.func161 rfl (by decide) (by kernel_rfl) h
def H6 (b d:Value) (w:World) (K:Value→World→Prop):Prop:= Q1 P F.j [b,d] w fun a w=>Q3 P .geq T.e (.tmp 7) (.const (.int .i64 0)) a (.int .i64 0) w fun c w=>K c w
theorem Qc {a b:Value} {w:World} {K:Value→World→Prop} (h:H6 a b w K):Q1 P F.f [a,b] w K:=Q9 (List.replicate 2 none) Tryz.func190 rfl (by decide) (by kernel_rfl) h
def Zo (q p r:Value) (w:World) (K:Value→World→Prop):Prop:= box P T.m q w fun b w=>dr w fun a c=>Q7 a (fun d=> ∀w,c w→Q2 P T.a3 p w (dk a d w)) fun d=>Q7 a (fun e=> ∀w,c w→Q2 P T.m b w (dk a e w)) fun e=>Q7 a (fun i=> ∀g f w,c w→d g w→e f w→Y9 P g [f] w (dk a i w)) fun i=>Q7 a (fun j=> ∀w,c w→Q2 P T.a3 p w (dk a j w)) fun j=>Q7 a (fun l=> ∀w,c w→Q2 P T.m r w (dk a l w)) fun l=>∀g f m o n w,c w→d g w→e f w→i m w→j o w→l n w→ Y9 P o [n] w fun h w=>Q3 P .eql T.b (.tmp 7) (.tmp 10) m h w fun k w=>K k w
theorem Ee {b c a:Value} {w:World} {K:Value→World→Prop} (h:Zo b c a w K):Q1 P F.bO [b,c,a] w K:=Q9 (List.replicate 2 none) Tryz.func191 rfl (by decide) (by kernel_rfl) h
def Sf:V1:=[none,none,none,some ([9],[4,5,6,9,10,11,12,13,14,15,16,17,18,19]),none,none,none,none,none,none,none]
def Ua (i n:Value) (w:World) (K:Value→World→Prop):Prop:= box P T.a3 n w fun a w=>X5 P .len [T.i] T.e [false] [i] w fun m w=>lp (α:=Value) (.int .i64 0) w fun c d o w=>Q3 P .lss T.e (.tmp 9) (.tmp 8) d m w fun e w=>X1 e (indexAddr P T.i i d w fun j w=>Q2 P T.m j w fun g w=>W7 P T.m w fun b w=>Z4 P T.m b g w fun _u w=>E9 P T.i i none (some d) none w fun h w=>M4 P (.func F.bO) [] [a,b] w fun l w=>Q1 P F.f [h,l] w fun f w=>X1 f (K (.bool false) w) (Q3 P .add T.e (.tmp 9) (.const (.int .i64 1)) d (.int .i64 1) w fun k w=>c k w)) (K (.bool true) w)
theorem Sg {a b:Value} {w:World} {K:Value→World→Prop} (h:Ua a b w K):Q1 P F.av [a,b] w K:=Q9 Sf Tryz.func148 rfl (by decide) (by kernel_rfl) h
def Rv (c:Value) (w:World) (K:Value→World→Prop):Prop:= box P T.m c w fun a w=>fieldAddr P T.m a 0 w fun d w=>Q2 P T.b d w fun b w=>K b w
theorem Q21 {a:Value} {w:World} {K:Value→World→Prop} (h:Rv a w K):Q1 P F.c0 [a] w K:=Q9 (List.replicate 2 none) Tryz.func149 rfl (by decide) (by kernel_rfl) h
def Yh (q p r:Value) (w:World) (K:Value→World→Prop):Prop:= box P T.c q w fun b w=>dr w fun a c=>Q7 a (fun d=> ∀w,c w→Q2 P T.a2 p w (dk a d w)) fun d=>Q7 a (fun e=> ∀w,c w→Q2 P T.c b w (dk a e w)) fun e=>Q7 a (fun i=> ∀g f w,c w→d g w→e f w→Y9 P g [f] w (dk a i w)) fun i=>Q7 a (fun j=> ∀w,c w→Q2 P T.a2 p w (dk a j w)) fun j=>Q7 a (fun l=> ∀w,c w→Q2 P T.c r w (dk a l w)) fun l=>∀g f m o n w,c w→d g w→e f w→i m w→j o w→l n w→ Y9 P o [n] w fun h w=>Q3 P .eql T.b (.tmp 7) (.tmp 10) m h w fun k w=>K k w
theorem Df {b c a:Value} {w:World} {K:Value→World→Prop} (h:Yh b c a w K):Q1 P F.bA [b,c,a] w K:=Q9 (List.replicate 2 none) Tryz.func192 rfl (by decide) (by kernel_rfl) h
def Hx:V1:=[none,none,none,some ([9],[4,5,6,9,10,11,12,13,14,15,16,17,18,19]),none,none,none,none,none,none,none]
def Jm (i n:Value) (w:World) (K:Value→World→Prop):Prop:= box P T.a2 n w fun a w=>X5 P .len [T.f] T.e [false] [i] w fun m w=>lp (α:=Value) (.int .i64 0) w fun c d o w=>Q3 P .lss T.e (.tmp 9) (.tmp 8) d m w fun e w=>X1 e (indexAddr P T.f i d w fun j w=>Q2 P T.c j w fun g w=>W7 P T.c w fun b w=>Z4 P T.c b g w fun _u w=>E9 P T.f i none (some d) none w fun h w=>M4 P (.func F.bA) [] [a,b] w fun l w=>Q1 P F.a [h,l] w fun f w=>X1 f (K (.bool false) w) (Q3 P .add T.e (.tmp 9) (.const (.int .i64 1)) d (.int .i64 1) w fun k w=>c k w)) (K (.bool true) w)
theorem Hz {a b:Value} {w:World} {K:Value→World→Prop} (h:Jm a b w K):Q1 P F.al [a,b] w K:=Q9 Hx Tryz.func150 rfl (by decide) (by kernel_rfl) h
def Rz (c:Value) (w:World) (K:Value→World→Prop):Prop:= box P T.c c w fun a w=>fieldAddr P T.c a 0 w fun d w=>Q2 P T.b d w fun b w=>K b w
theorem Q1M {a:Value} {w:World} {K:Value→World→Prop} (h:Rz a w K):Q1 P F.c1 [a] w K:=Q9 (List.replicate 2 none) Tryz.func151 rfl (by decide) (by kernel_rfl) h
def Ym (e g:Value) (w:World) (K:Value→World→Prop):Prop:= box P T.m e w fun a w=>Q2 P T.aa g w fun d w=>Q2 P T.m a w fun f w=>Y9 P d [f] w fun b w=>J5 P .not b w fun c w=>K c w
theorem Dm {a b:Value} {w:World} {K:Value→World→Prop} (h:Ym a b w K):Q1 P F.bB [a,b] w K:=Q9 (List.replicate 2 none) Tryz.func193 rfl (by decide) (by kernel_rfl) h
def Jn (d f:Value) (w:World) (K:Value→World→Prop):Prop:= box P T.aa f w fun a w=>M4 P (.func F.bB) [] [a] w fun b w=>Q1 P F.f [d,b] w fun c w=>J5 P .not c w fun e w=>K e w
theorem Hw {a b:Value} {w:World} {K:Value→World→Prop} (h:Jn a b w K):Q1 P F.am [a,b] w K:=Q9 (List.replicate 2 none) Tryz.func152 rfl (by decide) (by kernel_rfl) h
def Pm (c:Value) (w:World) (K:Value→World→Prop):Prop:= Q3 P .eql T.b (.tmp 3) (.const (.string ⟨#[105,110,116]⟩)) c (.string ⟨#[105,110,116]⟩) w fun a w=>Q0 a false w (fun w J=>J c w) fun g w=>Q0 a false w (Q3 P .eql T.b (.tmp 6) (.const (.string ⟨#[98,111,111,108]⟩)) g (.string ⟨#[98,111,111,108]⟩)) fun h w=>pick P a (.bool true) h w fun d w=>Q0 d false w (fun w J=>J c w) fun b w=>Q0 d false w (Q3 P .eql T.b (.tmp 10) (.const (.string ⟨#[116,101,120,116]⟩)) b (.string ⟨#[116,101,120,116]⟩)) fun f w=>pick P d (.bool true) f w fun e w=>K e w
theorem Q3V {a:Value} {w:World} {K:Value→World→Prop} (h:Pm a w K):Q1 P F.ab [a] w K:=Q9 (List.replicate 2 none) Tryz.func40 rfl (by decide) (by kernel_rfl) h
def Jp (e f:Value) (w:World) (K:Value→World→Prop):Prop:= X5 P .len [T.b] T.e [false] [e] w fun n w=>X5 P .len [T.b] T.e [false] [f] w fun o w=>Q3 P .geq T.e (.tmp 6) (.tmp 8) n o w fun a w=>Q0 a true w (fun w J=>J e w) fun k w=>Q0 a true w (fun w J=>J e w) fun g w=>Q0 a true w (X5 P .len [T.b] T.e [false] [g]) fun l w=>Q0 a true w (fun w J=>J f w) fun c w=>Q0 a true w (X5 P .len [T.b] T.e [false] [c]) fun i w=>Q0 a true w (Q3 P .sub T.e (.tmp 13) (.tmp 15) l i) fun d w=>Q0 a true w (E9 P T.b k (some d) none none) fun m w=>Q0 a true w (fun w J=>J f w) fun b w=>Q0 a true w (Q3 P .eql T.b (.tmp 17) (.tmp 18) m b) fun j w=>pick P a j (.bool false) w fun h w=>K h w
theorem Rc {a b:Value} {w:World} {K:Value→World→Prop} (h:Jp a b w K):Q1 P F.a5 [a,b] w K:=Q9 (List.replicate 2 none) Tryz.func183 rfl (by decide) (by kernel_rfl) h
def Mh (b c:Value) (w:World) (K:Value→World→Prop):Prop:= Q1 P F.a5 [b,c] w fun a w=>K a w
theorem Kk {a b:Value} {w:World} {K:Value→World→Prop} (h:Mh a b w K):Q1 P F.bp [a,b] w K:=Q9 (List.replicate 2 none) Tryz.func138 rfl (by decide) (by kernel_rfl) h
def Ys (a f:Value) (w:World) (K:Value→World→Prop):Prop:= Q1 P F.a5 [a,f] w fun g w=>X1 g (X5 P .len [T.b] T.e [false] [a] w fun c w=>X5 P .len [T.b] T.e [false] [f] w fun d w=>Q3 P .sub T.e (.tmp 10) (.tmp 12) c d w fun e w=>E9 P T.b a none (some e) none w fun b w=>K b w) (K a w)
theorem Ei {a b:Value} {w:World} {K:Value→World→Prop} (h:Ys a b w K):Q1 P F.bM [a,b] w K:=Q9 (List.replicate 5 none) Tryz.func184 rfl (by decide) (by kernel_rfl) h
def Wl (b c:Value) (w:World) (K:Value→World→Prop):Prop:= Q1 P F.bM [b,c] w fun a w=>K a w
theorem Gw {a b:Value} {w:World} {K:Value→World→Prop} (h:Wl a b w K):Q1 P F.be [a,b] w K:=Q9 (List.replicate 2 none) Tryz.func139 rfl (by decide) (by kernel_rfl) h
def Q5m:V1:=[none,none,none,some ([0,4],[0,4,5,6,7,8,9,10]),none,none,none]
def Q0M (e:Value) (w:World) (K:Value→World→Prop):Prop:= lp (α:=Value×Value) (e,(.int .i64 0)) w fun a b g w=>Q1 P F.bp [b.1,(.string ⟨#[91,93]⟩)] w fun d w=>X1 d (Q1 P F.be [b.1,(.string ⟨#[91,93]⟩)] w fun f w=>Q3 P .add T.e (.tmp 9) (.const (.int .i64 1)) b.2 (.int .i64 1) w fun c w=>a (f,c) w) (K (.tuple #[b.1,b.2]) w)
theorem Q5M {a:Value} {w:World} {K:Value→World→Prop} (h:Q0M a w K):Q1 P F.c5 [a] w K:=Q9 Q5m Tryz.func91 rfl (by decide) (by kernel_rfl) h
def Al (k:Value) (w:World) (K:Value→World→Prop):Prop:= Q1 P F.c5 [k] w fun i w=>ext P i 0 w fun j w=>ext P i 1 w fun l w=>Q3 P .leq T.e (.tmp 10) (.const (.int .i64 3)) l (.int .i64 3) w fun a w=>Q0 a true w (fun w J=>J j w) fun g w=>Q0 a true w (Q1 P F.ab [g]) fun d w=>Q0 a true w (fun w J=>J d w) fun b w=>Q0 b false w (fun w J=>J j w) fun e w=>Q0 b false w (Q1 P F.ad [e]) fun h w=>Q0 a true w (pick P b (.bool true) h) fun c w=>pick P a c (.bool false) w fun f w=>K f w
theorem Q5c {a:Value} {w:World} {K:Value→World→Prop} (h:Al a w K):Q1 P F.a1 [a] w K:=Q9 (List.replicate 3 none) Tryz.func39 rfl (by decide) (by kernel_rfl) h
def Cc (b:Value) (w:World) (K:Value→World→Prop):Prop:= Q1 P F.bG [b] w fun a w=>Q0 a true w (fun w J=>J b w) fun c w=>Q0 a true w (Q1 P F.ad [c]) fun d w=>Q0 a true w (J5 P .not d) fun e w=>pick P a e (.bool false) w fun f w=>K f w
theorem Q2v {a:Value} {w:World} {K:Value→World→Prop} (h:Cc a w K):Q1 P F.bw [a] w K:=Q9 (List.replicate 2 none) Tryz.func154 rfl (by decide) (by kernel_rfl) h
def Rj (f:Value) (w:World) (K:Value→World→Prop):Prop:= box P T.m f w fun a w=>fieldAddr P T.m a 0 w fun i w=>Q2 P T.b i w fun e w=>Q1 P F.bw [e] w fun b w=>Q0 b true w (fieldAddr P T.m a 1) fun d w=>Q0 b true w (Q2 P T.b d) fun g w=>Q0 b true w (Q1 P F.a1 [g]) fun h w=>pick P b h (.bool false) w fun c w=>K c w
theorem Q1q {a:Value} {w:World} {K:Value→World→Prop} (h:Rj a w K):Q1 P F.bj [a] w K:=Q9 (List.replicate 2 none) Tryz.func153 rfl (by decide) (by kernel_rfl) h
def Xp (e g:Value) (w:World) (K:Value→World→Prop):Prop:= box P T.c e w fun a w=>Q2 P T.a8 g w fun d w=>Q2 P T.c a w fun f w=>Y9 P d [f] w fun b w=>J5 P .not b w fun c w=>K c w
theorem Ox {a b:Value} {w:World} {K:Value→World→Prop} (h:Xp a b w K):Q1 P F.bx [a,b] w K:=Q9 (List.replicate 2 none) Tryz.func194 rfl (by decide) (by kernel_rfl) h
def Zi (d f:Value) (w:World) (K:Value→World→Prop):Prop:= box P T.a8 f w fun a w=>M4 P (.func F.bx) [] [a] w fun b w=>Q1 P F.a [d,b] w fun c w=>J5 P .not c w fun e w=>K e w
theorem Hk {a b:Value} {w:World} {K:Value→World→Prop} (h:Zi a b w K):Q1 P F.ah [a,b] w K:=Q9 (List.replicate 2 none) Tryz.func155 rfl (by decide) (by kernel_rfl) h
def Hr (B A:Value) (w:World) (K:Value→World→Prop):Prop:= box P T.p B w fun a w=>fieldAddr P T.p a 0 w fun D w=>Q2 P T.e D w fun H w=>Q3 P .geq T.e (.tmp 5) (.const (.int .i64 0)) H (.int .i64 0) w fun f w=>Q0 f true w (fieldAddr P T.p a 1) fun E w=>Q0 f true w (Q2 P T.e E) fun C w=>Q0 f true w (fieldAddr P T.p a 0) fun g w=>Q0 f true w (Q2 P T.e g) fun y w=>Q0 f true w (Q3 P .gtr T.e (.tmp 9) (.tmp 11) C y) fun h w=>pick P f h (.bool false) w fun c w=>Q0 c true w (fieldAddr P T.p a 1) fun i w=>Q0 c true w (Q2 P T.e i) fun p w=>Q0 c true w (Q2 P T.e A) fun j w=>Q0 c true w (Q3 P .leq T.e (.tmp 16) (.tmp 17) p j) fun m w=>pick P c m (.bool false) w fun d w=>Q0 d true w (fieldAddr P T.p a 2) fun l w=>Q0 d true w (Q2 P T.e l) fun z w=>Q0 d true w (Q3 P .geq T.e (.tmp 22) (.const (.int .i64 0)) z (.int .i64 0)) fun t w=>pick P d t (.bool false) w fun b w=>Q0 b true w (fieldAddr P T.p a 2) fun r w=>Q0 b true w (Q2 P T.e r) fun q w=>Q0 b true w (Q2 P T.e A) fun o w=>Q0 b true w (Q3 P .lss T.e (.tmp 27) (.tmp 28) q o) fun u w=>pick P b u (.bool false) w fun e w=>Q0 e true w (fieldAddr P T.p a 3) fun s w=>Q0 e true w (Q2 P T.b s) fun v w=>Q0 e true w (Q1 P F.ad [v]) fun n w=>pick P e n (.bool false) w fun k w=>K k w
theorem Q1d {a b:Value} {w:World} {K:Value→World→Prop} (h:Hr a b w K):Q1 P F.b1 [a,b] w K:=Q9 (List.replicate 2 none) Tryz.func195 rfl (by decide) (by kernel_rfl) h
def Xo:V1:=[none,none,none,some ([8],[4,5,8,9,10,11,12,13,14,15,16,17,18]),none,none,none,none,none,none,none]
def C1 (g j:Value) (w:World) (K:Value→World→Prop):Prop:= X5 P .len [T.k] T.e [false] [g] w fun h w=>lp (α:=Value) (.int .i64 0) w fun a b k w=>Q3 P .lss T.e (.tmp 8) (.tmp 7) b h w fun i w=>X1 i (indexAddr P T.k g b w fun c w=>Q2 P T.l c w fun f w=>Y9 P j [f] w fun e w=>X1 e (K b w) (Q3 P .add T.e (.tmp 8) (.const (.int .i64 1)) b (.int .i64 1) w fun d w=>a d w)) (K (.int .i64 (-1)) w)
theorem Xl {a b:Value} {w:World} {K:Value→World→Prop} (h:C1 a b w K):Q1 P F.y [a,b] w K:=Q9 Xo Tryz.func224 rfl (by decide) (by kernel_rfl) h
def H4 (b d:Value) (w:World) (K:Value→World→Prop):Prop:= Q1 P F.y [b,d] w fun a w=>Q3 P .geq T.e (.tmp 7) (.const (.int .i64 0)) a (.int .i64 0) w fun c w=>K c w
theorem Qa {a b:Value} {w:World} {K:Value→World→Prop} (h:H4 a b w K):Q1 P F.l [a,b] w K:=Q9 (List.replicate 2 none) Tryz.func213 rfl (by decide) (by kernel_rfl) h
def Yl (e g:Value) (w:World) (K:Value→World→Prop):Prop:= box P T.l e w fun a w=>Q2 P T.ac g w fun d w=>Q2 P T.l a w fun f w=>Y9 P d [f] w fun b w=>J5 P .not b w fun c w=>K c w
theorem Dn {a b:Value} {w:World} {K:Value→World→Prop} (h:Yl a b w K):Q1 P F.bC [a,b] w K:=Q9 (List.replicate 2 none) Tryz.func214 rfl (by decide) (by kernel_rfl) h
def Jk (d f:Value) (w:World) (K:Value→World→Prop):Prop:= box P T.ac f w fun a w=>M4 P (.func F.bC) [] [a] w fun b w=>Q1 P F.l [d,b] w fun c w=>J5 P .not c w fun e w=>K e w
theorem Ra {a b:Value} {w:World} {K:Value→World→Prop} (h:Jk a b w K):Q1 P F.ao [a,b] w K:=Q9 (List.replicate 2 none) Tryz.func196 rfl (by decide) (by kernel_rfl) h
def Zk:V1:=[none,none,none,some ([8],[4,5,8,9,10,11,12,13,14,15,16,17,18]),none,none,none,none,none,none,none]
def F3 (g j:Value) (w:World) (K:Value→World→Prop):Prop:= X5 P .len [T.ak] T.e [false] [g] w fun h w=>lp (α:=Value) (.int .i64 0) w fun a b k w=>Q3 P .lss T.e (.tmp 8) (.tmp 7) b h w fun i w=>X1 i (indexAddr P T.ak g b w fun c w=>Q2 P T.a7 c w fun f w=>Y9 P j [f] w fun e w=>X1 e (K b w) (Q3 P .add T.e (.tmp 8) (.const (.int .i64 1)) b (.int .i64 1) w fun d w=>a d w)) (K (.int .i64 (-1)) w)
theorem Yz {a b:Value} {w:World} {K:Value→World→Prop} (h:F3 a b w K):Q1 P F.q [a,b] w K:=Q9 Zk Tryz.func236 rfl (by decide) (by kernel_rfl) h
def Ie (e g:Value) (w:World) (K:Value→World→Prop):Prop:= box P T.a7 e w fun a w=>fieldAddr P T.a7 a 0 w fun d w=>Q2 P T.b d w fun f w=>Q2 P T.b g w fun b w=>Q3 P .eql T.b (.tmp 5) (.tmp 6) f b w fun c w=>K c w
theorem Q3x {a b:Value} {w:World} {K:Value→World→Prop} (h:Ie a b w K):Q1 P F.cO [a,b] w K:=Q9 (List.replicate 2 none) Tryz.func237 rfl (by decide) (by kernel_rfl) h
def Q0A (c:Value) (w:World) (K:Value→World→Prop):Prop:= box P T.b c w fun a w=>E9 P T.a9 (.pointer (some ⟨G.a,0,none⟩)) none none none w fun e w=>M4 P (.func F.cO) [] [a] w fun b w=>Q1 P F.q [e,b] w fun d w=>K d w
theorem Q5t {a:Value} {w:World} {K:Value→World→Prop} (h:Q0A a w K):Q1 P F.cG [a] w K:=Q9 (List.replicate 2 none) Tryz.func225 rfl (by decide) (by kernel_rfl) h
def Pj (p:Value) (w:World) (K:Value→World→Prop):Prop:= Q1 P F.cG [p] w fun o w=>Q3 P .lss T.e (.tmp 8) (.const (.int .i64 0)) o (.int .i64 0) w fun q w=>X1 q (K (.tuple #[(.bool false),(.bool false),(.bool false)]) w) (dr w fun a j=>Q7 a (fun c=> ∀w,j w→indexAddr P T.a9 (.pointer (some ⟨G.a,0,none⟩)) o w (dk a c w)) fun c=>Q7 a (fun f=> ∀i w,j w→c i w→fieldAddr P T.a7 i 1 w (dk a f w)) fun f=>Q7 a (fun b=> ∀w,j w→indexAddr P T.a9 (.pointer (some ⟨G.a,0,none⟩)) o w (dk a b w)) fun b=>Q7 a (fun g=> ∀e w,j w→b e w→fieldAddr P T.a7 e 2 w (dk a g w)) fun g=>Q7 a (fun k=> ∀d w,j w→f d w→Q2 P T.n d w (dk a k w)) fun k=>Q7 a (fun l=> ∀h w,j w→g h w→Q2 P T.n h w (dk a l w)) fun l=>∀i d e h n m w,j w→c i w→f d w→b e w→g h w→k n w→l m w→ K (.tuple #[n,m,(.bool true)]) w)
theorem Q4N {a:Value} {w:World} {K:Value→World→Prop} (h:Pj a w K):Q1 P F.bW [a] w K:=Q9 (List.replicate 6 none) Tryz.func215 rfl (by decide) (by kernel_rfl) h
def Jo (b c:Value) (w:World) (K:Value→World→Prop):Prop:= Q1 P F.bE [b,c] w fun a w=>K a w
theorem Hy {a b:Value} {w:World} {K:Value→World→Prop} (h:Jo a b w K):Q1 P F.aq [a,b] w K:=Q9 (List.replicate 2 none) Tryz.func223 rfl (by decide) (by kernel_rfl) h
def Pg:V1:=[none,none,none,none,none,none,none,none,none,none,none,none,none,none,none,none,none,some ([8,10],[4,8,10,11,12,13,57,58,59,60,61,62,63,64,65,66,67,68,69,70,71,72,73,74,75,76,77,78,79,80,81,82,83,84,85,86,87,88,89,90,91,92,93,94,95,96,97,98,99,100,101,102,103,104,105,106,107,108,109,110,111,112,113,114,115,116,117,118,119,120,121,122,123,124,125,126,127,128,129,130,131,132,133,134,135,136,137,138,139,140,141,142]),none,none,some ([8],[4,8,11,60,61,62,63,64,65,66,67,68,69,70,71,72,73,74,75,76,77]),none,none,none,none,none,none,none,none,none,none,none,none,none,none,none,none,none,none,none,none,none,none,none]
def Mw (h m:Value) (w:World) (K:Value→World→Prop):Prop:= X5 P .len [T.b] T.e [false] [m] w fun c w=>Q3 P .eql T.e (.tmp 17) (.const (.int .i64 0)) c (.int .i64 0) w fun k w=>Q0 k false w (fun w J=>J m w) fun bd w=>Q0 k false w (fun w J=>J h w) fun ac w=>Q0 k false w (Q3 P .eql T.b (.tmp 20) (.tmp 21) bd ac) fun ay w=>pick P k (.bool true) ay w fun am w=>X1 am (K (.int .i64 0) w) (Q3 P .eql T.e (.tmp 25) (.const (.int .i64 1)) c (.int .i64 1) w fun bb w=>X1 bb (E1 P T.b m (.int .i64 0) w fun ap w=>Q1 P F.aq [h,ap] w fun ah w=>K ah w) (X5 P .len [T.b] T.e [false] [h] w fun a8 w=>Q3 P .geq T.e (.tmp 32) (.tmp 34) c a8 w fun aa w=>X1 aa (K (.int .i64 (-1)) w) (Q2 P T.e (.pointer (some ⟨G.c,0,none⟩)) w fun ak w=>Q3 P .leq T.e (.tmp 37) (.tmp 38) c ak w fun l w=>Q0 l true w (fun w J=>J h w) fun bc w=>Q0 l true w (X5 P .len [T.b] T.e [false] [bc]) fun a5 w=>Q0 l true w (Q3 P .leq T.e (.tmp 42) (.const (.int .i64 64)) a5 (.int .i64 64)) fun ab w=>pick P l ab (.bool false) w fun ar w=>X1 ar (Q1 P F.c3 [h,m] w fun ad w=>K ad w) (E1 P T.b m (.int .i64 0) w fun Q w=>E1 P T.b m (.int .i64 1) w fun af w=>X5 P .len [T.b] T.e [false] [h] w fun aq w=>Q3 P .sub T.e (.tmp 53) (.tmp 54) aq c w fun a2 w=>Q3 P .add T.e (.tmp 55) (.const (.int .i64 1)) a2 (.int .i64 1) w fun q w=>lp (α:=Value×Value) ((.int .i64 0),(.int .i64 0)) w fun i g d_ w=>Q3 P .lss T.e (.tmp 57) (.tmp 58) g.1 q w fun az w=>X1 az (jn (α:=Value) w (fun H w=>E1 P T.b h g.1 w fun ae w=>Q3 P .neq T.y (.tmp 62) (.tmp 63) ae Q w fun ax w=>X1 ax (Q3 P .add T.e (.tmp 66) (.const (.int .i64 1)) g.1 (.int .i64 1) w fun a4 w=>E9 P T.b h (some a4) (some q) none w fun an w=>Q1 P F.aq [an,Q] w fun V w=>Q3 P .lss T.e (.tmp 72) (.const (.int .i64 0)) V (.int .i64 0) w fun a7 w=>X1 a7 (K (.int .i64 (-1)) w) (Q3 P .add T.e (.tmp 75) (.const (.int .i64 1)) V (.int .i64 1) w fun aw w=>Q3 P .add T.e (.tmp 74) (.tmp 76) g.1 aw w fun a9 w=>H a9 w)) (H g.1 w)) fun j d_ w=>Q3 P .add T.e (.tmp 79) (.const (.int .i64 1)) j (.int .i64 1) w fun ag w=>E1 P T.b h ag w fun av w=>Q3 P .eql T.y (.tmp 81) (.tmp 82) av af w fun b w=>Q0 b true w (fun w J=>J h w) fun ai w=>Q0 b true w (fun w J=>J j w) fun a6 w=>Q0 b true w (fun w J=>J j w) fun ao w=>Q0 b true w (fun w J=>J c w) fun bf w=>Q0 b true w (Q3 P .add T.e (.tmp 87) (.tmp 88) ao bf) fun aj w=>Q0 b true w (E9 P T.b ai (some a6) (some aj) none) fun a3 w=>Q0 b true w (fun w J=>J m w) fun be w=>Q0 b true w (Q3 P .eql T.b (.tmp 90) (.tmp 91) a3 be) fun al w=>pick P b al (.bool false) w fun ba w=>X1 ba (K j w) (Q3 P .add T.e (.tmp 95) (.const (.int .i64 1)) j (.int .i64 1) w fun e w=>Q3 P .add T.e (.tmp 97) (.const (.int .i64 1)) g.2 (.int .i64 1) w fun p w=>Q2 P T.e (.pointer (some ⟨G.c,0,none⟩)) w fun u w=>Q3 P .leq T.e (.tmp 99) (.tmp 100) c u w fun d w=>Q0 d true w (fun w J=>J p w) fun O w=>Q0 d true w (fun w J=>J e w) fun A w=>Q0 d true w (Q1 P F.cS [A]) fun L w=>Q0 d true w (Q3 P .gtr T.e (.tmp 103) (.tmp 105) O L) fun X w=>pick P d X (.bool false) w fun C w=>X1 C (E9 P T.b h (some e) none none w fun z w=>Q1 P F.c3 [z,m] w fun o w=>Q3 P .geq T.e (.tmp 113) (.const (.int .i64 0)) o (.int .i64 0) w fun y w=>X1 y (Q3 P .add T.e (.tmp 115) (.tmp 116) o e w fun B w=>K B w) (K (.int .i64 (-1)) w)) (Q2 P T.e (.pointer (some ⟨G.c,0,none⟩)) w fun r w=>Q3 P .gtr T.e (.tmp 118) (.tmp 119) c r w fun a w=>Q0 a true w (fun w J=>J p w) fun Z w=>Q0 a true w (fun w J=>J e w) fun U w=>Q0 a true w (Q3 P .shr T.e (.tmp 123) (.const (.int .u64 4)) U (.int .u64 4)) fun E w=>Q0 a true w (Q3 P .add T.e (.const (.int .i64 4)) (.tmp 124) (.int .i64 4) E) fun R w=>Q0 a true w (Q3 P .geq T.e (.tmp 122) (.tmp 125) Z R) fun N w=>pick P a N (.bool false) w fun f w=>Q0 f true w (fun w J=>J e w) fun M w=>Q0 f true w (fun w J=>J q w) fun t w=>Q0 f true w (Q3 P .lss T.e (.tmp 129) (.tmp 130) M t) fun Y w=>pick P f Y (.bool false) w fun W w=>X1 W (E9 P T.b h (some e) none none w fun v w=>Q1 P F.cz [v,m] w fun n w=>Q3 P .lss T.e (.tmp 138) (.const (.int .i64 0)) n (.int .i64 0) w fun s w=>X1 s (K (.int .i64 (-1)) w) (Q3 P .add T.e (.tmp 140) (.tmp 141) e n w fun D w=>K D w)) (i (e,p) w)))) (K (.int .i64 (-1)) w)))))
theorem Kh {a b:Value} {w:World} {K:Value→World→Prop} (h:Mw a b w K):Q1 P F.br [a,b] w K:=Q9 Pg Tryz.func222 rfl (by decide) (by kernel_rfl) h
def Dc (l n:Value) (w:World) (K:Value→World→Prop):Prop:= Q1 P F.br [l,n] w fun g w=>Q3 P .geq T.e (.tmp 11) (.const (.int .i64 0)) g (.int .i64 0) w fun m w=>X1 m (dr w fun e i=>Q7 e (fun h=> ∀w,i w→E9 P T.b l none (some g) none w (dk e h w)) fun h=>Q7 e (fun b=> ∀w,i w→X5 P .len [T.b] T.e [false] [n] w (dk e b w)) fun b=>Q7 e (fun a=> ∀d w,i w→b d w→Q3 P .add T.e (.tmp 17) (.tmp 19) g d w (dk e a w)) fun a=>Q7 e (fun f=> ∀c w,i w→a c w→E9 P T.b l (some c) none none w (dk e f w)) fun f=>∀k d c j w,i w→h k w→b d w→a c w→f j w→ K (.tuple #[k,j,(.bool true)]) w) (K (.tuple #[l,(.string ⟨#[]⟩),(.bool false)]) w)
theorem Q0q {a b:Value} {w:World} {K:Value→World→Prop} (h:Dc a b w K):Q1 P F.cy [a,b] w K:=Q9 (List.replicate 6 none) Tryz.func207 rfl (by decide) (by kernel_rfl) h
def Ip (e f:Value) (w:World) (K:Value→World→Prop):Prop:= Q1 P F.cy [e,f] w fun d w=>ext P d 0 w fun a w=>ext P d 1 w fun c w=>ext P d 2 w fun b w=>K (.tuple #[a,c,b]) w
theorem Q3u {a b:Value} {w:World} {K:Value→World→Prop} (h:Ip a b w K):Q1 P F.ce [a,b] w K:=Q9 (List.replicate 2 none) Tryz.func178 rfl (by decide) (by kernel_rfl) h
def Py (t:Value) (w:World) (K:Value→World→Prop):Prop:= Q1 P F.ce [t,(.string ⟨#[46]⟩)] w fun d w=>ext P d 0 w fun f w=>ext P d 1 w fun e w=>ext P d 2 w fun r w=>J5 P .not r w fun b w=>Q0 b false w (fun w J=>J f w) fun h w=>Q0 b false w (Q1 P F.ad [h]) fun k w=>Q0 b false w (J5 P .not k) fun i w=>pick P b (.bool true) i w fun c w=>Q0 c false w (fun w J=>J e w) fun g w=>Q0 c false w (Q1 P F.bG [g]) fun o w=>Q0 c false w (J5 P .not o) fun q w=>pick P c (.bool true) q w fun a w=>Q0 a false w (fun w J=>J e w) fun m w=>Q0 a false w (E1 P T.b m (.int .i64 0)) fun l w=>Q0 a false w (conv P T.y T.ag l) fun p w=>Q0 a false w (Q1 P F.bU [p]) fun j w=>Q0 a false w (J5 P .not j) fun s w=>pick P a (.bool true) s w fun n w=>X1 n (K (.tuple #[(.string ⟨#[]⟩),(.string ⟨#[]⟩),(.int .i64 30)]) w) (K (.tuple #[f,e,(.int .i64 0)]) w)
theorem Q4H {a:Value} {w:World} {K:Value→World→Prop} (h:Py a w K):Q1 P F.cw [a] w K:=Q9 (List.replicate 6 none) Tryz.func130 rfl (by decide) (by kernel_rfl) h
end Go.Proofs.YtfppjenblllfaaaGreatDoor

set_option maxRecDepth 100000
namespace Go.Proofs.YtfppjenblllfaaaGreatDoor
open Go.Emb
def Q0P (d:Value) (w:World) (K:Value→World→Prop):Prop:= Q1 P F.c5 [d] w fun c w=>ext P c 0 w fun f w=>ext P c 1 w fun e w=>Q1 P F.a1 [d] w fun b w=>J5 P .not b w fun a w=>X1 a (K (.int .i64 0) w) (K e w)
theorem Q5H {a:Value} {w:World} {K:Value→World→Prop} (h:Q0P a w K):Q1 P F.cH [a] w K:=Q9 (List.replicate 6 none) Tryz.func228 rfl (by decide) (by kernel_rfl) h
def Q5k:V1:=[none,none,none,none,none,none,none,some ([27],[27,28,29]),none,none,none,none,none,none]
def Q0Q (g c:Value) (w:World) (K:Value→World→Prop):Prop:= Q3 P .eql T.b (.tmp 8) (.const (.string ⟨#[119,111,114,100]⟩)) g (.string ⟨#[119,111,114,100]⟩) w fun i w=>X1 i (X5 P .len [T.b] T.e [false] [c] w fun k w=>Q3 P .leq T.e (.tmp 12) (.const (.int .i64 64)) k (.int .i64 64) w fun f w=>Q0 f true w (fun w J=>J c w) fun l w=>Q0 f true w (Q1 P F.bz [l]) fun y w=>pick P f y (.bool false) w fun b w=>Q0 b true w (fun w J=>J c w) fun r w=>Q0 b true w (Q1 P F.co [r,(.string ⟨#[10]⟩)]) fun A w=>Q0 b true w (J5 P .not A) fun o w=>pick P b o (.bool false) w fun j w=>K j w) (Q3 P .eql T.b (.tmp 8) (.const (.string ⟨#[110,101,119]⟩)) g (.string ⟨#[110,101,119]⟩) w fun C w=>X1 C (Q1 P F.ad [c] w fun z w=>K z w) (jn (α:=Value) w (fun L w=>Q3 P .eql T.b (.tmp 8) (.const (.string ⟨#[105,115]⟩)) g (.string ⟨#[105,115]⟩) w fun h w=>X1 h (L h w) (Q3 P .eql T.b (.tmp 8) (.const (.string ⟨#[99,97,115,116]⟩)) g (.string ⟨#[99,97,115,116]⟩) w fun B w=>L B w)) fun M Q w=>X1 M (Q1 P F.a1 [c] w fun d w=>Q0 d true w (fun w J=>J c w) fun D w=>Q0 d true w (Q1 P F.ab [D]) fun u w=>Q0 d true w (J5 P .not u) fun m w=>pick P d m (.bool false) w fun q w=>K q w) (Q3 P .eql T.b (.tmp 8) (.const (.string ⟨#[97,114,114,97,121]⟩)) g (.string ⟨#[97,114,114,97,121]⟩) w fun t w=>X1 t (Q1 P F.a1 [c] w fun a w=>Q0 a true w (fun w J=>J c w) fun p w=>Q0 a true w (Q1 P F.cH [p]) fun n w=>Q0 a true w (Q3 P .lss T.e (.tmp 43) (.const (.int .i64 3)) n (.int .i64 3)) fun H w=>pick P a H (.bool false) w fun v w=>K v w) (Q1 P F.cw [c] w fun e w=>ext P e 0 w fun O w=>ext P e 1 w fun N w=>ext P e 2 w fun s w=>Q3 P .eql T.s (.tmp 52) (.const (.int .i64 0)) s (.int .i64 0) w fun E w=>K E w))))
theorem Q5g {a b:Value} {w:World} {K:Value→World→Prop} (h:Q0Q a b w K):Q1 P F.cF [a,b] w K:=Q9 Q5k Tryz.func216 rfl (by decide) (by kernel_rfl) h
def Q47:V1:=[none,none,none,none,none,some ([16],[16,17,18,19,20,21,22,23,24,25,26,27,28,29,30,31,32,33,34,35,36,37,38,39]),none,none,none,none]
def Pz (B:Value) (w:World) (K:Value→World→Prop):Prop:= box P T.l B w fun a w=>fieldAddr P T.l a 0 w fun A w=>Q2 P T.b A w fun D w=>Q1 P F.bW [D] w fun l w=>ext P l 0 w fun g w=>ext P l 1 w fun b w=>ext P l 2 w fun i w=>J5 P .not i w fun j w=>X1 j (K (.int .i64 40) w) (jn (α:=Value) w (fun o w=>J5 P .not g w fun d w=>Q0 d true w (fieldAddr P T.l a 1) fun t w=>Q0 d true w (Q2 P T.a6 t) fun n w=>Q0 d true w (Q3 P .neq T.a6 (.tmp 21) (.const (.int .i64 0)) n (.int .i64 0)) fun h w=>pick P d h (.bool false) w fun f w=>X1 f (o f w) (J5 P .not b w fun c w=>Q0 c true w (fieldAddr P T.l a 2) fun s w=>Q0 c true w (Q2 P T.b s) fun q w=>Q0 c true w (Q3 P .neq T.b (.tmp 28) (.const (.string ⟨#[]⟩)) q (.string ⟨#[]⟩)) fun u w=>pick P c u (.bool false) w fun e w=>X1 e (o e w) (Q0 b true w (fieldAddr P T.l a 0) fun v w=>Q0 b true w (Q2 P T.b v) fun p w=>Q0 b true w (fieldAddr P T.l a 2) fun m w=>Q0 b true w (Q2 P T.b m) fun y w=>Q0 b true w (Q1 P F.cF [p,y]) fun z w=>Q0 b true w (J5 P .not z) fun r w=>pick P b r (.bool false) w fun k w=>o k w))) fun C E w=>X1 C (K (.int .i64 41) w) (K (.int .i64 0) w))
theorem Q4y {a:Value} {w:World} {K:Value→World→Prop} (h:Pz a w K):Q1 P F.cx [a] w K:=Q9 Q47 Tryz.func198 rfl (by decide) (by kernel_rfl) h
def Ep (c:Value) (w:World) (K:Value→World→Prop):Prop:= box P T.l c w fun a w=>Q2 P T.l a w fun e w=>Q1 P F.cx [e] w fun b w=>Q3 P .eql T.s (.tmp 4) (.const (.int .i64 0)) b (.int .i64 0) w fun d w=>K d w
theorem Q1b {a:Value} {w:World} {K:Value→World→Prop} (h:Ep a w K):Q1 P F.b2 [a] w K:=Q9 (List.replicate 2 none) Tryz.func197 rfl (by decide) (by kernel_rfl) h
def Xa:V1:=[none,none,none,some ([8],[4,5,8,9,10,11,12,13,14,15,16,17,18]),none,none,none,none,none,none,none]
def R6 (g j:Value) (w:World) (K:Value→World→Prop):Prop:= X5 P .len [T.o] T.e [false] [g] w fun h w=>lp (α:=Value) (.int .i64 0) w fun a b k w=>Q3 P .lss T.e (.tmp 8) (.tmp 7) b h w fun i w=>X1 i (indexAddr P T.o g b w fun c w=>Q2 P T.p c w fun f w=>Y9 P j [f] w fun e w=>X1 e (K b w) (Q3 P .add T.e (.tmp 8) (.const (.int .i64 1)) b (.int .i64 1) w fun d w=>a d w)) (K (.int .i64 (-1)) w)
theorem Xn {a b:Value} {w:World} {K:Value→World→Prop} (h:R6 a b w K):Q1 P F.z [a,b] w K:=Q9 Xa Tryz.func229 rfl (by decide) (by kernel_rfl) h
def H5 (b d:Value) (w:World) (K:Value→World→Prop):Prop:= Q1 P F.z [b,d] w fun a w=>Q3 P .geq T.e (.tmp 7) (.const (.int .i64 0)) a (.int .i64 0) w fun c w=>K c w
theorem Qb {a b:Value} {w:World} {K:Value→World→Prop} (h:H5 a b w K):Q1 P F.m [a,b] w K:=Q9 (List.replicate 2 none) Tryz.func217 rfl (by decide) (by kernel_rfl) h
def Yj (e g:Value) (w:World) (K:Value→World→Prop):Prop:= box P T.p e w fun a w=>Q2 P T.ab g w fun d w=>Q2 P T.p a w fun f w=>Y9 P d [f] w fun b w=>J5 P .not b w fun c w=>K c w
theorem Dk {a b:Value} {w:World} {K:Value→World→Prop} (h:Yj a b w K):Q1 P F.bD [a,b] w K:=Q9 (List.replicate 2 none) Tryz.func218 rfl (by decide) (by kernel_rfl) h
def Jq (d f:Value) (w:World) (K:Value→World→Prop):Prop:= box P T.ab f w fun a w=>M4 P (.func F.bD) [] [a] w fun b w=>Q1 P F.m [d,b] w fun c w=>J5 P .not c w fun e w=>K e w
theorem Rb {a b:Value} {w:World} {K:Value→World→Prop} (h:Jq a b w K):Q1 P F.ap [a,b] w K:=Q9 (List.replicate 2 none) Tryz.func199 rfl (by decide) (by kernel_rfl) h
def Cu (a0:Value) (w:World) (K:Value→World→Prop):Prop:= box P T.c a0 w fun c w=>fieldAddr P T.c c 0 w fun t5 w=>Q2 P T.b t5 w fun t6 w=>Q1 P F.bw [t6] w fun t7 w=>J5 P .not t7 w fun i w=>Q0 i false w (fieldAddr P T.c c 1) fun m w=>Q0 i false w (Q2 P T.d m) fun aj w=>Q0 i false w (Q1 P F.a3 [aj,(.func (.func F.a1) #[] #[])]) fun o w=>Q0 i false w (J5 P .not o) fun ac w=>pick P i (.bool true) ac w fun b w=>Q0 b false w (fieldAddr P T.c c 2) fun Q w=>Q0 b false w (Q2 P T.b Q) fun r w=>Q0 b false w (Q3 P .neq T.b (.tmp 17) (.const (.string ⟨#[]⟩)) r (.string ⟨#[]⟩)) fun L w=>Q0 b false w (fun w J=>J L w) fun d w=>Q0 d true w (fieldAddr P T.c c 2) fun X w=>Q0 d true w (Q2 P T.b X) fun y w=>Q0 d true w (Q1 P F.a1 [y]) fun am w=>Q0 d true w (J5 P .not am) fun aa w=>Q0 b false w (pick P d aa (.bool false)) fun af w=>pick P b (.bool true) af w fun A w=>X1 A (K (.bool false) w) (fieldAddr P T.c c 3 w fun V w=>Q2 P T.n V w fun U w=>X1 U (fieldAddr P T.c c 4 w fun O w=>Q2 P T.e O w fun ad w=>Q3 P .eql T.e (.tmp 29) (.const (.int .i64 0)) ad (.int .i64 0) w fun e w=>Q0 e true w (fieldAddr P T.c c 5) fun Y w=>Q0 e true w (Q2 P T.k Y) fun ag w=>Q0 e true w (X5 P .len [T.k] T.e [false] [ag]) fun M w=>Q0 e true w (Q3 P .eql T.e (.tmp 34) (.const (.int .i64 0)) M (.int .i64 0)) fun u w=>pick P e u (.bool false) w fun g w=>Q0 g true w (fieldAddr P T.c c 6) fun N w=>Q0 g true w (Q2 P T.o N) fun q w=>Q0 g true w (X5 P .len [T.o] T.e [false] [q]) fun n w=>Q0 g true w (Q3 P .eql T.e (.tmp 40) (.const (.int .i64 0)) n (.int .i64 0)) fun Z w=>pick P g Z (.bool false) w fun B w=>K B w) (fieldAddr P T.c c 5 w fun v w=>Q2 P T.k v w fun ai w=>X5 P .len [T.k] T.e [false] [ai] w fun R w=>W7 P T.e w fun D w=>Z4 P T.e D R w fun _u w=>M4 P (.func F.b1) [] [D] w fun W w=>Q2 P T.e D w fun C w=>Q3 P .gtr T.e (.tmp 47) (.const (.int .i64 0)) C (.int .i64 0) w fun a w=>Q0 a true w (fieldAddr P T.c c 4) fun s w=>Q0 a true w (Q2 P T.e s) fun E w=>Q0 a true w (fieldAddr P T.c c 1) fun z w=>Q0 a true w (Q2 P T.d z) fun ah w=>Q0 a true w (X5 P .len [T.d] T.e [false] [ah]) fun H w=>Q0 a true w (Q3 P .gtr T.e (.tmp 51) (.tmp 54) E H) fun p w=>pick P a p (.bool false) w fun h w=>Q0 h true w (fieldAddr P T.c c 5) fun ae w=>Q0 h true w (Q2 P T.k ae) fun k w=>Q0 h true w (Q1 P F.ao [k,(.func (.func F.b2) #[] #[])]) fun j w=>pick P h j (.bool false) w fun f w=>Q0 f true w (fieldAddr P T.c c 6) fun ak w=>Q0 f true w (Q2 P T.o ak) fun al w=>Q0 f true w (fun w J=>J W w) fun l w=>Q0 f true w (Q1 P F.ap [al,l]) fun ab w=>pick P f ab (.bool false) w fun t w=>K t w))
theorem Q2z {a:Value} {w:World} {K:Value→World→Prop} (h:Cu a w K):Q1 P F.aT [a] w K:=Q9 (List.replicate 10 none) Tryz.func156 rfl (by decide) (by kernel_rfl) h
def Im (a0:Value) (w:World) (K:Value→World→Prop):Prop:= box P T.a a0 w fun b w=>fieldAddr P T.a b 0 w fun t7 w=>Q2 P T.b t7 w fun t8 w=>fieldAddr P T.a b 1 w fun t9 w=>Q2 P T.b t9 w fun v w=>buildSlice P T.d 2 [(0,t8),(1,v)] w fun ah w=>fieldAddr P T.a b 2 w fun am w=>Q2 P T.d am w fun bc w=>X5 P .append [T.d,T.d] T.d [false,false] [ah,bc] w fun p w=>dr w fun o u=>Q7 o (fun n=> ∀w,u w→E9 P T.d p (some (.int .i64 1)) none none w (dk o n w)) fun n=>Q7 o (fun j=> ∀w,u w→fieldAddr P T.a b 0 w (dk o j w)) fun j=>Q7 o (fun m=> ∀f w,u w→j f w→Q2 P T.b f w (dk o m w)) fun m=>∀s f q w,u w→n s w→j f w→m q w→ Q1 P F.aa [s,q] w fun N w=>fieldAddr P T.a b 7 w fun a6 w=>Q2 P T.f a6 w fun M w=>Q1 P F.a [M,(.func (.func F.bX) #[] #[])] w fun ak w=>fieldAddr P T.a b 7 w fun aa w=>Q2 P T.f aa w fun a9 w=>Q1 P F.a [a9,(.func (.func F.bY) #[] #[])] w fun av w=>Q1 P F.a3 [p,(.func (.func F.ad) #[] #[])] w fun Z w=>J5 P .not Z w fun r w=>Q0 r false w (fun w J=>J N w) fun aj w=>pick P r (.bool true) aj w fun e w=>Q0 e false w (fieldAddr P T.a b 2) fun a1 w=>Q0 e false w (Q2 P T.d a1) fun D w=>Q0 e false w (Q1 P F.aH [D,(.func (.func F.bZ) #[] #[])]) fun ai w=>Q0 e false w (J5 P .not ai) fun bd w=>pick P e (.bool true) bd w fun W w=>X1 W (K (.bool false) w) (fieldAddr P T.a b 3 w fun B w=>Q2 P T.n B w fun a w=>Q0 a true w (fieldAddr P T.a b 4) fun E w=>Q0 a true w (Q2 P T.n E) fun ag w=>Q0 a true w (J5 P .not ag) fun az w=>Q0 a true w (fun w J=>J az w) fun i w=>Q0 i false w (fieldAddr P T.a b 1) fun O w=>Q0 i false w (Q2 P T.b O) fun a7 w=>Q0 i false w (Q3 P .neq T.b (.tmp 48) (.const (.string ⟨#[79,98,106,101,99,116]⟩)) a7 (.string ⟨#[79,98,106,101,99,116]⟩)) fun ar w=>Q0 a true w (pick P i (.bool true) ar) fun ao w=>Q0 a true w (fun w J=>J ao w) fun c w=>Q0 c false w (fieldAddr P T.a b 6) fun aq w=>Q0 c false w (Q2 P T.i aq) fun af w=>Q0 c false w (X5 P .len [T.i] T.e [false] [af]) fun ay w=>Q0 c false w (Q3 P .gtr T.e (.tmp 54) (.const (.int .i64 0)) ay (.int .i64 0)) fun an w=>Q0 a true w (pick P c (.bool true) an) fun V w=>Q0 a true w (fun w J=>J V w) fun t w=>Q0 t false w (fun w J=>J av w) fun a8 w=>Q0 a true w (pick P t (.bool true) a8) fun al w=>pick P a al (.bool false) w fun y w=>X1 y (K (.bool false) w) (fieldAddr P T.a b 4 w fun Q w=>Q2 P T.n Q w fun l w=>Q0 l true w (fieldAddr P T.a b 5) fun z w=>Q0 l true w (Q2 P T.n z) fun ac w=>pick P l ac (.bool false) w fun k w=>Q0 k false w (fun w J=>J ak w) fun ad w=>Q0 k false w (fun w J=>J ad w) fun h w=>Q0 h true w (fieldAddr P T.a b 4) fun ax w=>Q0 h true w (Q2 P T.n ax) fun ab w=>Q0 h true w (J5 P .not ab) fun a2 w=>Q0 k false w (pick P h a2 (.bool false)) fun U w=>pick P k (.bool true) U w fun ap w=>X1 ap (K (.bool false) w) (fieldAddr P T.a b 6 w fun a4 w=>Q2 P T.i a4 w fun X w=>Q1 P F.av [X,(.func (.func F.c0) #[] #[])] w fun H w=>J5 P .not H w fun d w=>Q0 d false w (fieldAddr P T.a b 7) fun a3 w=>Q0 d false w (Q2 P T.f a3) fun L w=>Q0 d false w (Q1 P F.al [L,(.func (.func F.c1) #[] #[])]) fun C w=>Q0 d false w (J5 P .not C) fun R w=>pick P d (.bool true) R w fun aw w=>X1 aw (K (.bool false) w) (fieldAddr P T.a b 6 w fun ae w=>Q2 P T.i ae w fun bb w=>Q1 P F.am [bb,(.func (.func F.bj) #[] #[])] w fun g w=>Q0 g true w (fieldAddr P T.a b 7) fun ba w=>Q0 g true w (Q2 P T.f ba) fun Y w=>Q0 g true w (Q1 P F.ah [Y,(.func (.func F.aT) #[] #[])]) fun a5 w=>pick P g a5 (.bool false) w fun A w=>K A w))))
theorem Q3D {a:Value} {w:World} {K:Value→World→Prop} (h:Im a w K):Q1 P F.cd [a] w K:=Q9 (List.replicate 15 none) Tryz.func95 rfl (by decide) (by kernel_rfl) h
def Ig (d:Value) (w:World) (K:Value→World→Prop):Prop:= box P T.a d w fun a w=>Q2 P T.a a w fun c w=>Q1 P F.cv [c] w fun f w=>X1 f (K (.int .i64 51) w) (Q2 P T.a a w fun b w=>Q1 P F.cd [b] w fun e w=>J5 P .not e w fun g w=>X1 g (K (.int .i64 50) w) (K (.int .i64 0) w))
theorem Q3v {a:Value} {w:World} {K:Value→World→Prop} (h:Ig a w K):Q1 P F.cb [a] w K:=Q9 (List.replicate 7 none) Tryz.func45 rfl (by decide) (by kernel_rfl) h
def C3 (a:Value) (w:World) (K:Value→World→Prop):Prop:= Q3 P .eql T.d (.tmp 3) (.const (.slice none 0 0)) a (.slice none 0 0) w fun c w=>X1 c (K (.slice none 0 0) w) (buildSlice P T.d 0 [] w fun d w=>X5 P .append [T.d,T.d] T.d [false,false] [d,a] w fun b w=>K b w)
theorem P7 {a:Value} {w:World} {K:Value→World→Prop} (h:C3 a w K):Q1 P F.b [a] w K:=Q9 (List.replicate 5 none) Tryz.func35 rfl (by decide) (by kernel_rfl) h
def F4 (a:Value) (w:World) (K:Value→World→Prop):Prop:= Q3 P .eql T.i (.tmp 3) (.const (.slice none 0 0)) a (.slice none 0 0) w fun c w=>X1 c (K (.slice none 0 0) w) (buildSlice P T.i 0 [] w fun d w=>X5 P .append [T.i,T.i] T.i [false,false] [d,a] w fun b w=>K b w)
theorem Yy {a:Value} {w:World} {K:Value→World→Prop} (h:F4 a w K):Q1 P F.a6 [a] w K:=Q9 (List.replicate 5 none) Tryz.func96 rfl (by decide) (by kernel_rfl) h
def F5 (a:Value) (w:World) (K:Value→World→Prop):Prop:= Q3 P .eql T.k (.tmp 3) (.const (.slice none 0 0)) a (.slice none 0 0) w fun c w=>X1 c (K (.slice none 0 0) w) (buildSlice P T.k 0 [] w fun d w=>X5 P .append [T.k,T.k] T.k [false,false] [d,a] w fun b w=>K b w)
theorem Yt {a:Value} {w:World} {K:Value→World→Prop} (h:F5 a w K):Q1 P F.a7 [a] w K:=Q9 (List.replicate 5 none) Tryz.func157 rfl (by decide) (by kernel_rfl) h
def F2 (a:Value) (w:World) (K:Value→World→Prop):Prop:= Q3 P .eql T.o (.tmp 3) (.const (.slice none 0 0)) a (.slice none 0 0) w fun c w=>X1 c (K (.slice none 0 0) w) (buildSlice P T.o 0 [] w fun d w=>X5 P .append [T.o,T.o] T.o [false,false] [d,a] w fun b w=>K b w)
theorem Yw {a:Value} {w:World} {K:Value→World→Prop} (h:F2 a w K):Q1 P F.a8 [a] w K:=Q9 (List.replicate 5 none) Tryz.func158 rfl (by decide) (by kernel_rfl) h
def Ic (D:Value) (w:World) (K:Value→World→Prop):Prop:= box P T.c D w fun a w=>W7 P T.c w fun A w=>dr w fun b c=>Q7 b (fun l=> ∀w,c w→fieldAddr P T.c a 1 w (dk b l w)) fun l=>Q7 b (fun o=> ∀w,c w→fieldAddr P T.c a 5 w (dk b o w)) fun o=>Q7 b (fun s=> ∀w,c w→fieldAddr P T.c a 6 w (dk b s w)) fun s=>Q7 b (fun k=> ∀n w,c w→l n w→Q2 P T.d n w (dk b k w)) fun k=>Q7 b (fun v=> ∀r w,c w→k r w→Q1 P F.b [r] w (dk b v w)) fun v=>Q7 b (fun p=> ∀q w,c w→o q w→Q2 P T.k q w (dk b p w)) fun p=>Q7 b (fun y=> ∀j w,c w→p j w→Q1 P F.a7 [j] w (dk b y w)) fun y=>Q7 b (fun e=> ∀m w,c w→s m w→Q2 P T.o m w (dk b e w)) fun e=>Q7 b (fun g=> ∀w,c w→fieldAddr P T.c a 1 w (dk b g w)) fun g=>Q7 b (fun f=> ∀d w,c w→e d w→Q1 P F.a8 [d] w (dk b f w)) fun f=>∀n q m r C j B d h i w,c w→l n w→o q w→s m w→k r w→v C w→p j w→y B w→e d w→g h w→f i w→ Z4 P T.d h C w fun _u w=>fieldAddr P T.c a 5 w fun z w=>Z4 P T.k z B w fun _u w=>fieldAddr P T.c a 6 w fun u w=>Z4 P T.o u i w fun _u w=>Q2 P T.c a w fun t w=>Z4 P T.c A t w fun _u w=>V7 P T.c A w fun E=>K E w
theorem Q3z {a:Value} {w:World} {K:Value→World→Prop} (h:Ic a w K):Q1 P F.bJ [a] w K:=Q9 (List.replicate 3 none) Tryz.func97 rfl (by decide) (by kernel_rfl) h
def Q3F:V1:=[none,none,none,none,none,some ([3,17],[3,5,17,18,19,20,21,22,23,24,25,26]),none,none,none,none,none,none]
def Ih (Q:Value) (w:World) (K:Value→World→Prop):Prop:= box P T.a Q w fun a w=>W7 P T.a w fun N w=>dr w fun b g=>Q7 b (fun p=> ∀w,g w→fieldAddr P T.a a 2 w (dk b p w)) fun p=>Q7 b (fun s=> ∀w,g w→fieldAddr P T.a a 6 w (dk b s w)) fun s=>Q7 b (fun q=> ∀r w,g w→p r w→Q2 P T.d r w (dk b q w)) fun q=>Q7 b (fun E=> ∀n w,g w→q n w→Q1 P F.b [n] w (dk b E w)) fun E=>Q7 b (fun f=> ∀o w,g w→s o w→Q2 P T.i o w (dk b f w)) fun f=>Q7 b (fun i=> ∀w,g w→fieldAddr P T.a a 2 w (dk b i w)) fun i=>Q7 b (fun h=> ∀d w,g w→f d w→Q1 P F.a6 [d] w (dk b h w)) fun h=>∀r o n O d k m w,g w→p r w→s o w→q n w→E O w→f d w→i k w→h m w→ Z4 P T.d k O w fun _u w=>fieldAddr P T.a a 6 w fun L w=>Z4 P T.i L m w fun _u w=>fieldAddr P T.a a 7 w fun t w=>Q2 P T.f t w fun l w=>X5 P .len [T.f] T.e [false] [l] w fun A w=>lp (α:=Value×Value) ((.slice none 0 0),(.int .i64 0)) w fun e j U w=>Q3 P .lss T.e (.tmp 17) (.tmp 16) j.2 A w fun y w=>X1 y (indexAddr P T.f l j.2 w fun v w=>Q2 P T.c v w fun C w=>W7 P T.c w fun c w=>Z4 P T.c c C w fun _u w=>Q2 P T.c c w fun M w=>Q1 P F.bJ [M] w fun D w=>buildSlice P T.f 1 [(0,D)] w fun J w=>X5 P .append [T.f,T.f] T.f [false,false] [j.1,J] w fun u w=>Q3 P .add T.e (.tmp 17) (.const (.int .i64 1)) j.2 (.int .i64 1) w fun B w=>e (u,B) w) (fieldAddr P T.a a 7 w fun z w=>Z4 P T.f z j.1 w fun _u w=>Q2 P T.a a w fun H w=>Z4 P T.a N H w fun _u w=>V7 P T.a N w fun R=>K R w)
theorem Q3y {a:Value} {w:World} {K:Value→World→Prop} (h:Ih a w K):Q1 P F.cc [a] w K:=Q9 Q3F Tryz.func46 rfl (by decide) (by kernel_rfl) h
def Wk (r v:Value) (w:World) (K:Value→World→Prop):Prop:= W7 P T.a w fun s w=>dr w fun a h=>Q7 a (fun l=> ∀w,h w→nilCheck P r w (dk a l w)) fun l=>Q7 a (fun m=> ∀n w,h w→l n w→fieldAddr P T.v n 0 w (dk a m w)) fun m=>Q7 a (fun e=> ∀w,h w→nilCheck P r w (dk a e w)) fun e=>Q7 a (fun c=> ∀b w,h w→e b w→fieldAddr P T.v b 1 w (dk a c w)) fun c=>Q7 a (fun q=> ∀k w,h w→m k w→Q2 P T.g k w (dk a q w)) fun q=>Q7 a (fun f=> ∀g w,h w→c g w→Q2 P T.w g w (dk a f w)) fun f=>Q7 a (fun i=> ∀d w,h w→f d w→lookup P T.w d v false w (dk a i w)) fun i=>∀n k b g t d j w,h w→l n w→m k w→e b w→c g w→q t w→f d w→i j w→ indexAddr P T.g t j w fun o w=>Q2 P T.a o w fun p w=>Z4 P T.a s p w fun _u w=>V7 P T.a s w fun u=>K u w
theorem Bq {a b:Value} {w:World} {K:Value→World→Prop} (h:Wk a b w K):Q1 P F.h [a,b] w K:=Q9 (List.replicate 2 none) Tryz.func60 rfl (by decide) (by kernel_rfl) h
def Cg:V1:=[none,none,none,none,none,none,some ([29],[4,6,29,30,31,32,33,34,35,36,37,38,39,40,41,42,43,44]),none,none,none,none,none,none,none]
def Uw (f R:Value) (w:World) (K:Value→World→Prop):Prop:= box P T.a R w fun a w=>fieldAddr P T.a a 1 w fun Q w=>Q2 P T.b Q w fun O w=>Q1 P F.k [f,O] w fun i w=>J5 P .not i w fun d w=>Q0 d false w (fun w J=>J f w) fun M w=>Q0 d false w (fieldAddr P T.a a 1) fun p w=>Q0 d false w (Q2 P T.b p) fun l w=>Q0 d false w (Q1 P F.h [M,l]) fun A w=>Q0 d false w (We P T.a A 3) fun n w=>pick P d (.bool true) n w fun c w=>Q0 c false w (fun w J=>J f w) fun C w=>Q0 c false w (fieldAddr P T.a a 1) fun r w=>Q0 c false w (Q2 P T.b r) fun j w=>Q0 c false w (Q1 P F.h [C,j]) fun E w=>Q0 c false w (We P T.a E 5) fun H w=>pick P c (.bool true) H w fun s w=>X1 s (K (.int .i64 61) w) (fieldAddr P T.a a 2 w fun B w=>Q2 P T.d B w fun g w=>X5 P .len [T.d] T.e [false] [g] w fun z w=>lp (α:=Value) (.int .i64 0) w fun e v U w=>Q3 P .lss T.e (.tmp 29) (.tmp 28) v z w fun u w=>X1 u (indexAddr P T.d g v w fun N w=>Q2 P T.b N w fun h w=>Q1 P F.k [f,h] w fun o w=>J5 P .not o w fun b w=>Q0 b false w (fun w J=>J f w) fun y w=>Q0 b false w (fun w J=>J h w) fun m w=>Q0 b false w (Q1 P F.h [y,m]) fun k w=>Q0 b false w (We P T.a k 3) fun D w=>Q0 b false w (J5 P .not D) fun t w=>pick P b (.bool true) t w fun q w=>X1 q (K (.int .i64 62) w) (Q3 P .add T.e (.tmp 29) (.const (.int .i64 1)) v (.int .i64 1) w fun L w=>e L w)) (K (.int .i64 0) w))
theorem Cw {a b:Value} {w:World} {K:Value→World→Prop} (h:Uw a b w K):Q1 P F.aW [a,b] w K:=Q9 Cg Tryz.func47 rfl (by decide) (by kernel_rfl) h
def Xj:V1:=[none,none,none,some ([8],[4,5,8,9,10,11,12,13,14,15,16,17,18]),none,none,none,none,none,none,none]
def R4 (g j:Value) (w:World) (K:Value→World→Prop):Prop:= X5 P .len [T.g] T.e [false] [g] w fun h w=>lp (α:=Value) (.int .i64 0) w fun a b k w=>Q3 P .lss T.e (.tmp 8) (.tmp 7) b h w fun i w=>X1 i (indexAddr P T.g g b w fun c w=>Q2 P T.a c w fun f w=>Y9 P j [f] w fun e w=>X1 e (K b w) (Q3 P .add T.e (.tmp 8) (.const (.int .i64 1)) b (.int .i64 1) w fun d w=>a d w)) (K (.int .i64 (-1)) w)
theorem Xf {a b:Value} {w:World} {K:Value→World→Prop} (h:R4 a b w K):Q1 P F.n [a,b] w K:=Q9 Xj Tryz.func48 rfl (by decide) (by kernel_rfl) h
def Gb:V1:=[none,none,none,some ([7],[6,7,9,10,11,12,16,17,18,19,20,21,22,23,24,25,26,27,28,29,30,31,32,33,34,35,36,37,38,39,40,41,42,43,44,45,46,47,48,49,50,51,52]),none,none,none,none,none,none,none,none,none,none,none,none,none]
def Lf (R W U:Value) (w:World) (K:Value→World→Prop):Prop:= buildSlice P T.d 1 [(0,W)] w fun z w=>Ru P T.w none w fun q w=>lp (α:=Value) z w fun b D X w=>X5 P .len [T.d] T.e [false] [D] w fun v w=>Q3 P .gtr T.e (.tmp 17) (.const (.int .i64 0)) v (.int .i64 0) w fun E w=>X1 E (indexAddr P T.d D (.int .i64 0) w fun L w=>Q2 P T.b L w fun h w=>E9 P T.d D (some (.int .i64 1)) none none w fun u w=>lookup P T.w q h true w fun t w=>ext P t 0 w fun V w=>ext P t 1 w fun d w=>Q0 d false w (fun w J=>J R w) fun M w=>Q0 d false w (fun w J=>J h w) fun O w=>Q0 d false w (Q1 P F.k [M,O]) fun H w=>Q0 d false w (J5 P .not H) fun y w=>pick P d (.bool true) y w fun C w=>X1 C (b u w) (mapUpdate P T.w q h (.int .i64 1) w fun _u w=>Q1 P F.h [R,h] w fun N w=>W7 P T.a w fun a w=>Z4 P T.a a N w fun _u w=>Q2 P T.a a w fun A w=>Y9 P U [A] w fun Q w=>X1 Q (K (.bool true) w) (dr w fun c o=>Q7 c (fun l=> ∀w,o w→fieldAddr P T.a a 1 w (dk c l w)) fun l=>Q7 c (fun g=> ∀w,o w→fieldAddr P T.a a 2 w (dk c g w)) fun g=>Q7 c (fun m=> ∀j w,o w→l j w→Q2 P T.b j w (dk c m w)) fun m=>Q7 c (fun e=> ∀i w,o w→m i w→buildSlice P T.d 1 [(0,i)] w (dk c e w)) fun e=>Q7 c (fun p=> ∀k w,o w→e k w→X5 P .append [T.d,T.d] T.d [false,false] [u,k] w (dk c p w)) fun p=>Q7 c (fun n=> ∀f w,o w→g f w→Q2 P T.d f w (dk c n w)) fun n=>∀j f i k r s w,o w→l j w→g f w→m i w→e k w→p r w→n s w→ X5 P .append [T.d,T.d] T.d [false,false] [r,s] w fun B w=>b B w))) (K (.bool false) w)
theorem Fb {b c a:Value} {w:World} {K:Value→World→Prop} (h:Lf b c a w K):Q1 P F.t [b,c,a] w K:=Q9 Gb Tryz.func99 rfl (by decide) (by kernel_rfl) h
def Yu (e h:Value) (w:World) (K:Value→World→Prop):Prop:= box P T.a e w fun a w=>fieldAddr P T.a a 0 w fun d w=>Q2 P T.b d w fun g w=>fieldAddr P T.a h 0 w fun b w=>Q2 P T.b b w fun c w=>Q3 P .eql T.b (.tmp 5) (.tmp 7) g c w fun f w=>K f w
theorem Hj {a b:Value} {w:World} {K:Value→World→Prop} (h:Yu a b w K):Q1 P F.bK [a,b] w K:=Q9 (List.replicate 2 none) Tryz.func100 rfl (by decide) (by kernel_rfl) h
def Ud (c f b:Value) (w:World) (K:Value→World→Prop):Prop:= Q2 P T.r f w fun e w=>M4 P (.func F.bK) [] [b] w fun a w=>Q1 P F.t [e,c,a] w fun d w=>K d w
theorem Sm {b c a:Value} {w:World} {K:Value→World→Prop} (h:Ud b c a w K):Q1 P F.aS [b,c,a] w K:=Q9 (List.replicate 2 none) Tryz.func98 rfl (by decide) (by kernel_rfl) h
def Wq (j m:Value) (w:World) (K:Value→World→Prop):Prop:= box P T.r j w fun c w=>box P T.a m w fun a w=>M4 P (.func F.aS) [] [c,a] w fun i w=>fieldAddr P T.a a 1 w fun k w=>Q2 P T.b k w fun l w=>Y9 P i [l] w fun b w=>Q0 b false w (fieldAddr P T.a a 2) fun f w=>Q0 b false w (Q2 P T.d f) fun h w=>Q0 b false w (fun w J=>J i w) fun d w=>Q0 b false w (Q1 P F.d [h,d]) fun g w=>pick P b (.bool true) g w fun e w=>K e w
theorem Gy {a b:Value} {w:World} {K:Value→World→Prop} (h:Wq a b w K):Q1 P F.b4 [a,b] w K:=Q9 (List.replicate 3 none) Tryz.func49 rfl (by decide) (by kernel_rfl) h
def Ht:V1:=[none,none,none,some ([8],[4,5,8,9,10,11,12,13,14,15,16,17,18]),none,none,none,none,none,none,none]
def Zn (g j:Value) (w:World) (K:Value→World→Prop):Prop:= X5 P .len [T.t] T.e [false] [g] w fun h w=>lp (α:=Value) (.int .i64 0) w fun a b k w=>Q3 P .lss T.e (.tmp 8) (.tmp 7) b h w fun i w=>X1 i (indexAddr P T.t g b w fun c w=>Q2 P T.e c w fun f w=>Q3 P .eql T.e (.tmp 11) (.tmp 15) j f w fun e w=>X1 e (K b w) (Q3 P .add T.e (.tmp 8) (.const (.int .i64 1)) b (.int .i64 1) w fun d w=>a d w)) (K (.int .i64 (-1)) w)
theorem Hu {a b:Value} {w:World} {K:Value→World→Prop} (h:Zn a b w K):Q1 P F.bL [a,b] w K:=Q9 Ht Tryz.func160 rfl (by decide) (by kernel_rfl) h
def Qx (b d:Value) (w:World) (K:Value→World→Prop):Prop:= Q1 P F.bL [b,d] w fun a w=>Q3 P .geq T.e (.tmp 7) (.const (.int .i64 0)) a (.int .i64 0) w fun c w=>K c w
theorem Oa {a b:Value} {w:World} {K:Value→World→Prop} (h:Qx a b w K):Q1 P F.ax [a,b] w K:=Q9 (List.replicate 2 none) Tryz.func103 rfl (by decide) (by kernel_rfl) h
def Sp:V1:=[none,none,none,none,some ([35],[7,35,36,37,38,39,40,41,42,43,44,45,46,47]),none,none,none,none]
def T5 (a0 a1 a2 a3 a4:Value) (w:World) (K:Value→World→Prop):Prop:= Q2 P T.e a1 w fun t9 w=>Q3 P .lss T.e (.tmp 8) (.tmp 9) a0 t9 w fun c w=>Q0 c false w (Q2 P T.t a2) fun ag w=>Q0 c false w (fun w J=>J a0 w) fun aw w=>Q0 c false w (Q1 P F.ax [ag,aw]) fun aj w=>pick P c (.bool true) aj w fun ah w=>X1 ah (K (.tuple #[]) w) (dr w fun a b=>Q7 a (fun o=> ∀w,b w→Q2 P T.r a3 w (dk a o w)) fun o=>Q7 a (fun H=> ∀v w,b w→o v w→nilCheck P v w (dk a H w)) fun H=>Q7 a (fun i=> ∀h w,b w→H h w→fieldAddr P T.v h 0 w (dk a i w)) fun i=>Q7 a (fun A=> ∀u w,b w→i u w→Q2 P T.g u w (dk a A w)) fun A=>Q7 a (fun R=> ∀q w,b w→A q w→indexAddr P T.g q a0 w (dk a R w)) fun R=>Q7 a (fun B=> ∀m w,b w→R m w→fieldAddr P T.a m 1 w (dk a B w)) fun B=>Q7 a (fun s=> ∀V w,b w→B V w→Q2 P T.b V w (dk a s w)) fun s=>Q7 a (fun Z=> ∀L w,b w→s L w→buildSlice P T.d 1 [(0,L)] w (dk a Z w)) fun Z=>Q7 a (fun M=> ∀w,b w→Q2 P T.r a3 w (dk a M w)) fun M=>Q7 a (fun l=> ∀n w,b w→M n w→nilCheck P n w (dk a l w)) fun l=>Q7 a (fun C=> ∀D w,b w→l D w→fieldAddr P T.v D 0 w (dk a C w)) fun C=>Q7 a (fun U=> ∀z w,b w→C z w→Q2 P T.g z w (dk a U w)) fun U=>Q7 a (fun Q=> ∀y w,b w→U y w→indexAddr P T.g y a0 w (dk a Q w)) fun Q=>Q7 a (fun j=> ∀t w,b w→Q t w→fieldAddr P T.a t 2 w (dk a j w)) fun j=>Q7 a (fun Y=> ∀e w,b w→j e w→Q2 P T.d e w (dk a Y w)) fun Y=>∀v h u q m V L ae n D z y t e ad w,b w→o v w→H h w→i u w→A q w→R m w→B V w→s L w→Z ae w→M n w→l D w→C z w→U y w→Q t w→j e w→Y ad w→ X5 P .append [T.d,T.d] T.d [false,false] [ae,ad] w fun af w=>X5 P .len [T.d] T.e [false] [af] w fun ao w=>lp (α:=Value) (.int .i64 0) w fun d x4 d_ w=>Q3 P .lss T.e (.tmp 35) (.tmp 34) x4 ao w fun ax w=>X1 ax (indexAddr P T.d af x4 w fun ap w=>Q2 P T.b ap w fun an w=>dr w fun a b=>Q7 a (fun X=> ∀w,b w→Q2 P T.aj a4 w (dk a X w)) fun X=>Q7 a (fun p=> ∀w,b w→Q2 P T.r a3 w (dk a p w)) fun p=>Q7 a (fun f=> ∀g w,b w→p g w→nilCheck P g w (dk a f w)) fun f=>Q7 a (fun N=> ∀E w,b w→f E w→fieldAddr P T.v E 1 w (dk a N w)) fun N=>Q7 a (fun O=> ∀r w,b w→N r w→Q2 P T.w r w (dk a O w)) fun O=>Q7 a (fun W=> ∀k w,b w→O k w→lookup P T.w k an false w (dk a W w)) fun W=>∀ab g E r k ac w,b w→X ab w→p g w→f E w→N r w→O k w→W ac w→ Y9 P ab [ac] w fun az w=>Q3 P .add T.e (.tmp 35) (.const (.int .i64 1)) x4 (.int .i64 1) w fun al w=>d al w) (Q2 P T.t a2 w fun av w=>buildSlice P T.t 1 [(0,a0)] w fun ai w=>X5 P .append [T.t,T.t] T.t [false,false] [av,ai] w fun am w=>Z4 P T.t a2 am w fun _u w=>K (.tuple #[]) w))
theorem Um {b e a d c:Value} {w:World} {K:Value→World→Prop} (h:T5 b e a d c w K):Q1 P F.u [b,e,a,d,c] w K:=Q9 Sp Tryz.func102 rfl (by decide) (by kernel_rfl) h
def Fi:V1:=[none,none,none,none,none,none,some ([7],[7,10,11,12,13,14,15,16,17,18,19,20,21]),none,none,none,none]
def Ws (p t:Value) (w:World) (K:Value→World→Prop):Prop:= box P T.r p w fun d w=>box P T.e t w fun b w=>W7 P T.t w fun c w=>W7 P T.aj w fun a w=>M4 P (.func F.u) [] [b,c,d,a] w fun s w=>Z4 P T.aj a s w fun _u w=>Q2 P T.e b w fun q w=>lp (α:=Value) q w fun e j u w=>Q2 P T.r d w fun m w=>nilCheck P m w fun f w=>fieldAddr P T.v f 0 w fun n w=>Q2 P T.g n w fun h w=>X5 P .len [T.g] T.e [false] [h] w fun g w=>Q3 P .lss T.e (.tmp 10) (.tmp 15) j g w fun l w=>X1 l (Q2 P T.aj a w fun i w=>Y9 P i [j] w fun r w=>Q3 P .add T.e (.tmp 17) (.const (.int .i64 1)) j (.int .i64 1) w fun k w=>e k w) (Q2 P T.t c w fun o w=>K o w)
theorem Gt {a b:Value} {w:World} {K:Value→World→Prop} (h:Ws a b w K):Q1 P F.b5 [a,b] w K:=Q9 Fi Tryz.func50 rfl (by decide) (by kernel_rfl) h
def Yf:V1:=[none,some ([2,3],[2,3,7,8,9,10,11,12,13,14,15,16,17,18,19,20,21,22,23,24,25,26,27]),none,none,none]
def B1 (j:Value) (w:World) (K:Value→World→Prop):Prop:= X5 P .len [T.g] T.e [false] [j] w fun t w=>Q3 P .sub T.e (.tmp 5) (.const (.int .i64 1)) t (.int .i64 1) w fun s w=>lp (α:=Value×Value) ((.int .i64 0),s) w fun b g u w=>Q3 P .lss T.e (.tmp 7) (.tmp 8) g.1 g.2 w fun r w=>X1 r (dr w fun f k=>Q7 f (fun a=> ∀w,k w→indexAddr P T.g j g.2 w (dk f a w)) fun a=>Q7 f (fun d=> ∀w,k w→indexAddr P T.g j g.1 w (dk f d w)) fun d=>Q7 f (fun i=> ∀c w,k w→a c w→Q2 P T.a c w (dk f i w)) fun i=>Q7 f (fun h=> ∀e w,k w→d e w→Q2 P T.a e w (dk f h w)) fun h=>∀c e l m w,k w→a c w→d e w→i l w→h m w→ indexAddr P T.g j g.1 w fun o w=>Z4 P T.a o l w fun _u w=>indexAddr P T.g j g.2 w fun n w=>Z4 P T.a n m w fun _u w=>Q3 P .add T.e (.tmp 10) (.const (.int .i64 1)) g.1 (.int .i64 1) w fun p w=>Q3 P .sub T.e (.tmp 12) (.const (.int .i64 1)) g.2 (.int .i64 1) w fun q w=>b (p,q) w) (K (.tuple #[]) w)
theorem Ye {a:Value} {w:World} {K:Value→World→Prop} (h:B1 a w K):Q1 P F.o [a] w K:=Q9 Yf Tryz.func167 rfl (by decide) (by kernel_rfl) h
def Kb:V1:=[none,none,none,none,some ([5,6],[5,6,8,9,10,11,12,13,14,15,16,17,18,19,20]),none,none,none,none,none]
def Mq (f j:Value) (w:World) (K:Value→World→Prop):Prop:= lp (α:=Value×Value) ((.slice none 0 0),j) w fun a b l w=>Q1 P F.k [f,b.2] w fun d w=>X1 d (Q1 P F.h [f,b.2] w fun c w=>buildSlice P T.g 1 [(0,c)] w fun h w=>X5 P .append [T.g,T.g] T.g [false,false] [b.1,h] w fun g w=>Q1 P F.h [f,b.2] w fun i w=>We P T.a i 1 w fun e w=>a (g,e) w) (Q1 P F.o [b.1] w fun k w=>K b.1 w)
theorem Ku {a b:Value} {w:World} {K:Value→World→Prop} (h:Mq a b w K):Q1 P F.aI [a,b] w K:=Q9 Kb Tryz.func166 rfl (by decide) (by kernel_rfl) h
def Bg:V1:=[none,none,none,none,some ([5,12],[5,7,12,13,14,15,16,17,18,19,20]),none,none,none,none,none]
def Vl (m n:Value) (w:World) (K:Value→World→Prop):Prop:= Q1 P F.aI [m,n] w fun c w=>X5 P .len [T.g] T.e [false] [c] w fun k w=>lp (α:=Value×Value) ((.slice none 0 0),(.int .i64 0)) w fun b d o w=>Q3 P .lss T.e (.tmp 12) (.tmp 11) d.2 k w fun g w=>X1 g (indexAddr P T.g c d.2 w fun f w=>Q2 P T.a f w fun i w=>W7 P T.a w fun a w=>Z4 P T.a a i w fun _u w=>fieldAddr P T.a a 6 w fun l w=>Q2 P T.i l w fun e w=>X5 P .append [T.i,T.i] T.i [false,false] [d.1,e] w fun j w=>Q3 P .add T.e (.tmp 12) (.const (.int .i64 1)) d.2 (.int .i64 1) w fun h w=>b (j,h) w) (K d.1 w)
theorem Cp {a b:Value} {w:World} {K:Value→World→Prop} (h:Vl a b w K):Q1 P F.b0 [a,b] w K:=Q9 Bg Tryz.func162 rfl (by decide) (by kernel_rfl) h
def Jz (e g:Value) (w:World) (K:Value→World→Prop):Prop:= box P T.m e w fun a w=>fieldAddr P T.m a 0 w fun d w=>Q2 P T.b d w fun f w=>Q2 P T.b g w fun b w=>Q3 P .eql T.b (.tmp 5) (.tmp 6) f b w fun c w=>K c w
theorem Se {a b:Value} {w:World} {K:Value→World→Prop} (h:Jz a b w K):Q1 P F.bT [a,b] w K:=Q9 (List.replicate 2 none) Tryz.func163 rfl (by decide) (by kernel_rfl) h
def Wo (e g d:Value) (w:World) (K:Value→World→Prop):Prop:= box P T.b d w fun a w=>Q1 P F.b0 [e,g] w fun f w=>M4 P (.func F.bT) [] [a] w fun b w=>Q1 P F.j [f,b] w fun c w=>K c w
theorem Bt {b c a:Value} {w:World} {K:Value→World→Prop} (h:Wo b c a w K):Q1 P F.b9 [b,c,a] w K:=Q9 (List.replicate 2 none) Tryz.func104 rfl (by decide) (by kernel_rfl) h
def T9 (b e:Value) (w:World) (K:Value→World→Prop):Prop:= nilCheck P b w fun a w=>indexAddr P T.a4 a e w fun c w=>Q2 P T.n c w fun d w=>K d w
theorem Lz {a b:Value} {w:World} {K:Value→World→Prop} (h:T9 a b w K):Q1 P F.ar [a,b] w K:=Q9 (List.replicate 2 none) Tryz.func135 rfl (by decide) (by kernel_rfl) h
def Ho:V1:=[none,some ([0],[0,5,6,7,8,9,10,11,12,13,14,15,16,17,18,19,20]),some ([0],[0,5,6,7,8,9,10,11,12,13,14,15,16,17,18,19,20]),none,none,none,none,none]
def Zd (m q:Value) (w:World) (K:Value→World→Prop):Prop:= jn (α:=Value) w (fun k w=>lp (α:=Value) m w fun a b p w=>X5 P .len [T.b] T.e [false] [b] w fun o w=>Q3 P .gtr T.e (.tmp 6) (.const (.int .i64 0)) o (.int .i64 0) w fun l w=>X1 l (X5 P .len [T.b] T.e [false] [b] w fun i w=>Q3 P .sub T.e (.tmp 11) (.const (.int .i64 1)) i (.int .i64 1) w fun c w=>E1 P T.b b c w fun j w=>Q1 P F.ar [q,j] w fun e w=>J5 P .not e w fun d w=>X1 d (k b w) (X5 P .len [T.b] T.e [false] [b] w fun g w=>Q3 P .sub T.e (.tmp 18) (.const (.int .i64 1)) g (.int .i64 1) w fun f w=>E9 P T.b b none (some f) none w fun h w=>a h w)) (k b w)) fun n p w=>K n w
theorem Ea {a b:Value} {w:World} {K:Value→World→Prop} (h:Zd a b w K):Q1 P F.ae [a,b] w K:=Q9 Ho Tryz.func89 rfl (by decide) (by kernel_rfl) h
end Go.Proofs.YtfppjenblllfaaaGreatDoor
