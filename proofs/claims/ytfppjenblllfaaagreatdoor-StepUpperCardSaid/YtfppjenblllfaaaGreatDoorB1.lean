/- Parts of a proof about the given program: its functions as texts of their own, what each computes, plain laws of that. The conditions of each stand in its statement. -/
import Derived.WalkKit
import Derived.Test.YtfppjenblllfaaaGreatDoorProg
import Derived.KernelRfl
set_option linter.unnecessarySimpa false
set_option linter.defProp false
set_option linter.unusedSectionVars false
set_option linter.unusedVariables false
set_option linter.unusedSimpArgs false
namespace Go.Emb
def T7 (P:Program) (s:Sem Next) (w:World) (K:Value→World→Prop):Prop:=
 match s.run P w with
 | .ok (.value v) w'=>K v w'
 | .ok .skip w'=>K undef w'
 | .ok (.enter f a) w'=>Calls P f a w' fun e b=>match e with | .returned v=>K v b | _=>False
 | .ok (.row row a) w'=>Rows P row a w' K
 | _=>False
theorem X07: ∃f:Program→Sem Next→World→(Value→World→Prop)→Prop,f=T7:=⟨_,rfl⟩
noncomputable def op:Program→Sem Next→World→(Value→World→Prop)→Prop:=Classical.choose X07
theorem Xg:op=T7:=Classical.choose_spec X07
theorem X1Z {P:Program} {o:Oper} {a:Act} {w:World} {next:Act→World→Prop} {Q:Exit→Act→World→Prop}
 (h:op P (execOp a.eval o) w (fun v w=>next (a.put o.dst v) w)):o.wp P a w next Q:=by
 unfold Oper.wp
 rw[Xg] at h
 unfold T7 at h
 cases b:(execOp a.eval o).run P w with
 | halt x w'=>rw[b] at h;exact h.elim
 | ok n w'=>
  rw[b] at h
  cases n<;>simp only at h<;>try exact h.elim
  ·exact h
  ·exact h
  ·refine Calls.mono h fun e d c=>?_
   cases e<;>first | exact c | exact c.elim
  ·exact h
theorem Dm {P:Program} {s:Sem Next} {K b:Value→World→Prop} {w:World} (a: ∀v w,K v w→b v w) (h:op P s w K):op P s w b:=by
 rw[Xg] at*
 unfold T7 at*
 cases d:s.run P w with
 | halt x w'=>rw[d] at h;exact h.elim
 | ok n w'=>
  rw[d] at h
  cases n<;>simp only at h⊢ <;>try exact h.elim
  ·exact a _ _ h
  ·exact a _ _ h
  ·refine Calls.mono h fun e f c=>?_
   cases e<;>first | exact a _ _ c | exact c.elim
  ·exact h.mono a
def sv (s:Sem Value):Sem Next:=do Pure.pure (.value (←s))
def su (s:Sem Unit):Sem Next:=do s;Pure.pure .skip
section
variable (P : Program)
noncomputable def pick (c a b:Value) (w:World) (K:Value→World→Prop):Prop:=op P (do Pure.pure (.value (if←asBool c then a else b))) w K
noncomputable def W6 (e:TypeId) (w:World) (K:Value→World→Prop):Prop:=op P (sv (Instr.alloc e true (.tuple #[]))) w K
noncomputable def box (e:TypeId) (x:Value) (w:World) (K:Value→World→Prop):Prop:=op P (sv (Instr.box e x)) w K
noncomputable def O5 (t:TypeId) (a:List (Nat×Value)) (w:World) (K:Value→World→Prop):Prop:=op P (sv (Instr.build t a.toArray)) w K
noncomputable def buildSlice (t:TypeId) (n:Nat) (a:List (Nat×Value)) (w:World) (K:Value→World→Prop):Prop:=op P (sv (Instr.buildSlice t n a.toArray)) w K
noncomputable def Q2 (t:TypeId) (a:Value) (w:World) (K:Value→World→Prop):Prop:=op P (sv (Instr.loadAt t a)) w K
noncomputable def Z4 (t:TypeId) (a x:Value) (w:World) (K:Value→World→Prop):Prop:=op P (su (Instr.storeAt t a x)) w K
noncomputable def nilCheck (x:Value) (w:World) (K:Value→World→Prop):Prop:=op P (execOp (fun _=>x) {dst:=none,op:= .nilCheck (.const x),type:=0,pos:= "",after:= #[],guard:=none}) w K
noncomputable def Q4 (o:BinOp) (t:TypeId) (a b:Operand) (x y:Value) (w:World) (K:Value→World→Prop):Prop:=op P (sv (do eqGuard o t a b x y;Go.binOp o t x y)) w K
noncomputable def Z8 (o:UnOp) (x:Value) (w:World) (K:Value→World→Prop):Prop:=op P (sv (Op.unary o x)) w K
noncomputable def conv (s d:TypeId) (x:Value) (w:World) (K:Value→World→Prop):Prop:=op P (sv (Go.convert s d x)) w K
noncomputable def X0d (t:TypeId) (x:Value) (w:World) (K:Value→World→Prop):Prop:=op P (sv (Instr.makeInterface t x)) w K
noncomputable def M6 (f:Fn) (first caps:List Value) (w:World) (K:Value→World→Prop):Prop:=op P (sv (Instr.makeFunc f first.toArray caps.toArray)) w K
noncomputable def Rb (t:TypeId) (r:Option Value) (w:World) (K:Value→World→Prop):Prop:=op P (sv (Instr.makeMap t r)) w K
noncomputable def Nb (t:TypeId) (n c:Value) (w:World) (K:Value→World→Prop):Prop:=op P (sv (Instr.makeSlice t n c)) w K
noncomputable def H4 (t:TypeId) (x:Value) (b c a:Option Value) (w:World) (K:Value→World→Prop):Prop:=op P (sv (Instr.sliceAt t x b c a)) w K
noncomputable def fieldAddr (t:TypeId) (x:Value) (f:Nat) (w:World) (K:Value→World→Prop):Prop:=op P (sv (Instr.fieldAt t x f)) w K
noncomputable def Vn (t:TypeId) (x:Value) (f:Nat) (w:World) (K:Value→World→Prop):Prop:=op P (sv (Instr.field t x f)) w K
noncomputable def indexAddr (t:TypeId) (x i:Value) (w:World) (K:Value→World→Prop):Prop:=op P (sv (Instr.indexAt t x i)) w K
noncomputable def E0 (t:TypeId) (x i:Value) (w:World) (K:Value→World→Prop):Prop:=op P (sv (Instr.index t x i)) w K
noncomputable def lookup (t:TypeId) (x i:Value) (ok:Bool) (w:World) (K:Value→World→Prop):Prop:=op P (sv (Instr.lookup t x i ok)) w K
noncomputable def mapUpdate (t:TypeId) (m k x:Value) (w:World) (K:Value→World→Prop):Prop:=op P (su (Instr.mapUpdate t m k x)) w K
noncomputable def mapEntry (t:TypeId) (m k:Value) (w:World) (K:Value→World→Prop):Prop:=op P (sv (Instr.mapEntry t m k)) w K
noncomputable def entryStore (t:TypeId) (m s x:Value) (w:World) (K:Value→World→Prop):Prop:=op P (su (Instr.entryStore t m s x)) w K
noncomputable def rng (t:TypeId) (x:Value) (w:World) (K:Value→World→Prop):Prop:=op P (sv (Instr.range t x)) w K
noncomputable def J7 (b:Value) (a:Bool) (t:TypeId) (w:World) (K:Value→World→Prop):Prop:=op P (sv (Instr.next b a t)) w K
noncomputable def Q6A (a:Value) (w:World) (K:Value→World→Prop):Prop:=op P (sv (Instr.entry a)) w K
noncomputable def pnc (x:Value) (w:World) (K:Value→World→Prop):Prop:=op P (sv (Instr.panic x)) w K
noncomputable def ext (x:Value) (i:Nat) (w:World) (K:Value→World→Prop):Prop:=op P (sv (Instr.extract x i)) w K
noncomputable def X5 (b:Builtin) (a:List TypeId) (t:TypeId) (cs:List Bool) (xs:List Value) (w:World) (K:Value→World→Prop):Prop:=op P (Go.builtin b a.toArray t cs.toArray xs.toArray) w K
noncomputable def Q1 (f:FuncId) (xs:List Value) (w:World) (K:Value→World→Prop):Prop:=op P (callFunc f xs.toArray) w K
noncomputable def Z1 (f:Value) (xs:List Value) (w:World) (K:Value→World→Prop):Prop:=op P (do let d←Deferred.ofValue f xs.toArray;invoke d.target d.args) w K
end
def get (l:List Value) (t:Nat):Value:=l.getD t undef
def ev (l:List Value):Operand→Value
 | .tmp t=>get l t
 | .const v=>v
 | .global g=> .pointer (some ⟨g,0,none⟩)
 | .func f=> .func (.func f) #[] #[]
def put (l:List Value) (d:Option Tmp) (v:Value):List Value:=
 match d with
 | some d=>l.set d v
 | none=>l
def Al (l:List Value) (xs:Array Operand):List Value:=xs.toList.map (ev l)
def evp (l:List Value) (xs:Array (Nat×Operand)):List (Nat×Value):=xs.toList.map fun p=>(p.1,ev l p.2)
def evo (l:List Value) (x:Option Operand):Option Value:=match x with | some x=>some (ev l x) | none=>none
def isC:Operand→Bool | .const _=>true | _=>false
noncomputable def Nc (P:Program) (l:List Value) (o:Oper) (c:Call) (w:World) (K:Value→World→Prop):Prop:=
 match c.callee with
 | .builtin b=>X5 P b c.argTypes.toList o.type (c.args.toList.map isC) (Al l c.args) w K
 | .value (.func f)=>Q1 P f (Al l c.args) w K
 | .value f=>Z1 P (ev l f) (Al l c.args) w K
 | _=>op P (execOp (ev l) o) w K
noncomputable def V2 (P:Program) (l:List Value) (o:Oper) (w:World) (K:Value→World→Prop):Prop:=
 match o.op with
 | .move x=>K (ev l x) w
 | .assign x=>K (ev l x) w
 | .pick c a b=>pick P (ev l c) (ev l a) (ev l b) w K
 | .alloc e=>W6 P e w K
 | .box e x=>box P e (ev l x) w K
 | .build t h=>O5 P t (evp l h) w K
 | .buildSlice t n h=>buildSlice P t n (evp l h) w K
 | .load t a=>Q2 P t (ev l a) w K
 | .store t a x=>Z4 P t (ev l a) (ev l x) w K
 | .nilCheck x=>nilCheck P (ev l x) w K
 | .binOp op t x y _=>Q4 P op t x y (ev l x) (ev l y) w K
 | .unOp op _ x=>Z8 P op (ev l x) w K
 | .convert s d x=>conv P s d (ev l x) w K
 | .makeInterface t x=>X0d P t (ev l x) w K
 | .makeFunc f first caps=>M6 P f (Al l first) (Al l caps) w K
 | .makeMap t r=>Rb P t (evo l r) w K
 | .makeSlice t n c=>Nb P t (ev l n) (ev l c) w K
 | .slice t x q u p=>H4 P t (ev l x) (evo l q) (evo l u) (evo l p) w K
 | .fieldAddr t x f=>fieldAddr P t (ev l x) f w K
 | .field t x f=>Vn P t (ev l x) f w K
 | .indexAddr t x i=>indexAddr P t (ev l x) (ev l i) w K
 | .index t x i=>E0 P t (ev l x) (ev l i) w K
 | .lookup t x i ok=>lookup P t (ev l x) (ev l i) ok w K
 | .mapUpdate t m k x=>mapUpdate P t (ev l m) (ev l k) (ev l x) w K
 | .insert t m k x=>mapUpdate P t (ev l m) (ev l k) (ev l x) w K
 | .mapEntry t m k=>mapEntry P t (ev l m) (ev l k) w K
 | .entryStore t m s x=>entryStore P t (ev l m) (ev l s) (ev l x) w K
 | .range t x=>rng P t (ev l x) w K
 | .next j g=>J7 P (ev l j) g o.type w K
 | .extract x i=>ext P (ev l x) i w K
 | .entry j=>Q6A P (ev l j) w K
 | .panic x=>pnc P (ev l x) w K
 | .call c=>Nc P l o c w K
 | _=>op P (execOp (ev l) o) w K
theorem Q6U {α β:Type} (f:α→β) (a:Array α):a.map f=(a.toList.map f).toArray:=by rw[←Array.toList_map,Array.toArray_toList]
theorem X0C (l:List Value) (x:Option Operand):x.map (ev l)=evo l x:=by cases x<;>rfl
theorem Q4R {P:Program} {l:List Value} {o:Oper} {c:Call} {K e:Value→World→Prop} {w:World} (a: ∀v w,K v w→e v w) (h:Nc P l o c w K):Nc P l o c w e:=by
 obtain ⟨d,g,i⟩:=c
 cases d with
 | builtin b=>exact Dm a h
 | invoke r m=>exact Dm a h
 | value f=>cases f<;>(simp only[Nc,Z1,Q1] at h⊢;exact Dm a h)
theorem B6 {P:Program} {l:List Value} {o:Oper} {K b:Value→World→Prop} {w:World} (a: ∀v w,K v w→b v w) (h:V2 P l o w K):V2 P l o w b:=by
 obtain ⟨d,p,e,pos,c,g⟩:=o
 cases p<;>first | exact a _ _ h | exact Q4R a h | exact Dm a h | (simp only[V2] at h⊢;exact Dm a h)
theorem Q5L {P:Program} {l:List Value} {o:Oper} {K:Value→World→Prop} {w:World} (h:V2 P l o w K):op P (execOp (ev l) o) w K:=by
 unfold V2 at h
 split at h<;>rename_i a
 all_goals first
  | exact h
  | (unfold execOp;rw[a];exact h)
  | (unfold execOp;rw[a];simp only[Q6U,X0C];exact h)
  | (unfold execOp;rw[a,Xg];exact h)
  | skip
 rename_i c
 unfold Nc at h
 split at h<;>rename_i b
 ·unfold execOp;rw[a];simp only[resolve,b,Q6U]
  simp only[pure_bind,invoke]
  unfold X5 at h
  simp only[Array.toArray_toList] at h
  refine (congrArg (fun z=>op P (builtin _ c.argTypes o.type (List.toArray z) _) w K) (List.map_congr_left (fun x _=>?_))).mp h
  cases x<;>rfl
 ·unfold execOp;rw[a];simp only[resolve,b,Q6U]
  simp only[ev,Deferred.ofValue,pure_bind,invoke]
  simpa [Q1,Al] using h
 ·unfold execOp;rw[a];simp only[resolve,b,Q6U]
  exact h
 ·exact h
def Wp (v:Value) (b:Bool) (w:World) (a:World→(Value→World→Prop)→Prop) (J:Value→World→Prop):Prop:=
 match v with
 | .bool c=>if c=b then a w J else J undef w
 | _=>J undef w
theorem Q7Q: ∃f:Value→Bool→World→(World→(Value→World→Prop)→Prop)→(Value→World→Prop)→Prop,f=Wp:=⟨_,rfl⟩
noncomputable def Q0:Value→Bool→World→(World→(Value→World→Prop)→Prop)→(Value→World→Prop)→Prop:=Classical.choose Q7Q
theorem Np:Q0=Wp:=Classical.choose_spec Q7Q
def Q1T (v:Value) (t e:Prop):Prop:=
 match v with
 | .bool true=>t
 | .bool false=>e
 | _=>False
theorem Q82: ∃f:Value→Prop→Prop→Prop,f=Q1T:=⟨_,rfl⟩
noncomputable def X1:Value→Prop→Prop→Prop:=Classical.choose Q82
theorem Q3M:X1=Q1T:=Classical.choose_spec Q82
noncomputable def Y3 (P:Program) (ops:List Oper) (next:List Value→World→Prop):List Oper→List Value→World→Prop
 | [],l,w=>next l w
 | o::a,l,w=>
  match o.guard with
  | none=>V2 P l o w (fun v w=>Y3 P ops next a (put l o.dst v) w)
  | some (j,b)=>match (ops[j]?).bind (·.dst) with
   | some d=>Q0 (get l d) b w (V2 P l o) (fun v w=>Y3 P ops next a (put l o.dst v) w)
   | none=>Y3 P ops next a (put l o.dst undef) w
def Ib:Nat→Type
 | 0=>Unit
 | 1=>Value
 | n+2=>Value×Ib (n+1)
def Ly (l:List Value):(a:List Nat)→Ib a.length
 | []=>()
 | [s]=>get l s
 | s::t::r=>(get l s,Ly l (t::r))
def De (i:Nat) (e:Value):(a:List Nat)→Ib a.length→Value
 | [],_=>e
 | [s],x=>if s=i then x else e
 | s::t::r,x=>if s=i then x.1 else De i e (t::r) x.2
def N4 (a b:List Nat) (x:Ib a.length) (d:Nat→Value):Nat→List Value→List Value
 | _,[]=>[]
 | i,v::l=>De i (if b.contains i then d i else v) a x::N4 a b x d (i+1) l
def X05 (α:Type) (c:α) (w:World) (a:(α→World→Prop)→α→(Nat→Value)→World→Prop):Prop:=
 ∃(I:α→World→Prop) (μ:α→World→Nat),I c w∧ ∀x d w,I x w→a (fun b w'=>I b w'∧μ b w'<μ x w) x d w
theorem Q9H: ∃f:(α:Type)→α→World→((α→World→Prop)→α→(Nat→Value)→World→Prop)→Prop,f=X05:=⟨_,rfl⟩
noncomputable def lp {α:Type}:α→World→((α→World→Prop)→α→(Nat→Value)→World→Prop)→Prop:=Classical.choose Q9H α
theorem Q9I {α:Type} (b:α) (w:World) (a:(α→World→Prop)→α→(Nat→Value)→World→Prop):lp b w a=X05 α b w a:=
 congrFun (congrFun (congrFun (congrFun (Classical.choose_spec Q9H) α) b) w) a
def Q9P (α:Type) (w:World) (A:(α→World→Prop)→World→Prop) (B:α→(Nat→Value)→World→Prop):Prop:=
 ∃I:α→World→Prop,A I w∧ ∀x d w,I x w→B x d w
theorem Q9Y: ∃f:(α:Type)→World→((α→World→Prop)→World→Prop)→(α→(Nat→Value)→World→Prop)→Prop,f=Q9P:=⟨_,rfl⟩
noncomputable def jn {α:Type}:World→((α→World→Prop)→World→Prop)→(α→(Nat→Value)→World→Prop)→Prop:=Classical.choose Q9Y α
theorem Q9O {α:Type} (w:World) (A:(α→World→Prop)→World→Prop) (B:α→(Nat→Value)→World→Prop):jn w A B=Q9P α w A B:=
 congrFun (congrFun (congrFun (congrFun (Classical.choose_spec Q9Y) α) w) A) B
theorem Zt {α:Type} {w:World} {A:(α→World→Prop)→World→Prop} {B:α→(Nat→Value)→World→Prop} (I:α→World→Prop) (h:A I w) (a: ∀x d w,I x w→B x d w):jn w A B:=by
 rw[Q9O];exact ⟨I,h,a⟩
theorem Q4M {α:Type} {w:World} {A:(α→World→Prop)→World→Prop} {B:α→(Nat→Value)→World→Prop} (h:jn w A B): ∃I:α→World→Prop,A I w∧ ∀x d w,I x w→B x d w:=by
 rw[Q9O] at h;exact h
theorem Zs {α:Type} {b:α} {w:World} {a:(α→World→Prop)→α→(Nat→Value)→World→Prop} (I:α→World→Prop) (μ:α→World→Nat) (f:I b w)
 (e: ∀x d w,I x w→a (fun c w'=>I c w'∧μ c w'<μ x w) x d w):lp b w a:=by
 rw[Q9I];exact ⟨I,μ,f,e⟩
theorem Q8b {α:Type} {b:α} {w:World} {a:(α→World→Prop)→α→(Nat→Value)→World→Prop} (h:lp b w a):
 ∃(I:α→World→Prop) (μ:α→World→Nat),I b w∧ ∀x d w,I x w→a (fun c w'=>I c w'∧μ c w'<μ x w) x d w:=by
 rw[Q9I] at h;exact h
def O4 (ops:List Oper):List Nat:=ops.filterMap (·.dst)
def K5:Code→Nat
 | .seq a b=>K5 a+K5 b+1
 | .cond _ a b=>K5 a+K5 b
 | .block _ c=>K5 c
 | .loop c=>K5 c+1
 | .scope c=>K5 c
 | _=>0
def W9 (d:List (Option (List Nat))):Nat→Code→List Nat
 | _, .region _ ops _=>O4 ops.toList
 | k, .seq a b=>(d.getD k none).getD []++(W9 d (k+1) a++W9 d (k+1+K5 a) b)
 | k, .cond _ a b=>W9 d k a++W9 d (k+K5 a) b
 | k, .block _ c=>W9 d k c
 | k, .loop c=>(d.getD k none).getD []++W9 d (k+1) c
 | k, .scope c=>W9 d k c
 | _,_=>[]
abbrev Oh:=Exit→List Value→World→Prop
def thn (next:List Value→World→Prop) (Q:Oh):Oh
 | .normal,a,w=>next a w
 | e,a,w=>Q e a w
def Q1u (id:Nat) (Q:Oh):Oh
 | .exit b,a,w=>if b=id then Q .normal a w else Q (.exit b) a w
 | e,a,w=>Q e a w
noncomputable def Mj (P:Program) (a:List (Option (List Nat))):Nat→Code→Oh→List Value→World→Prop
 | _, .skip,Q,l,w=>Q .normal l w
 | _, .label _,Q,l,w=>Q .normal l w
 | _, .exit id,Q,l,w=>Q (.exit id) l w
 | _, .ret,Q,l,w=>Q .ret l w
 | _, .region _ ops false,Q,l,w=>Y3 P ops.toList (fun l w=>Q .normal l w) ops.toList l w
 | _, .region _ ops true,Q,l,w=> ∀t,Y3 P ops.toList (fun l w=>Q .normal l w) ((Region.schedule (P.follows .mixedOrders) ops t).filterMap (ops[·]?)) l w.drew
 | k, .seq x y,Q,l,w=>match a.getD k none with
  | none=>Mj P a (k+1) x (thn (fun l w=>Mj P a (k+1+K5 x) y Q l w) Q) l w
  | some e=>jn w (fun J w=>Mj P a (k+1) x (thn (fun l' w'=>J (Ly l' e) w') Q) l w)
   (fun z d w=>Mj P a (k+1+K5 x) y Q (N4 e (W9 a (k+1) x) z d 0 l) w)
 | k, .cond c x y,Q,l,w=>X1 (ev l c) (Mj P a k x Q l w) (Mj P a (k+K5 x) y Q l w)
 | k, .block id c,Q,l,w=>Mj P a k c (Q1u id Q) l w
 | k, .loop c,Q,l,w=>
  lp (Ly l ((a.getD k none).getD [])) w (fun b x d w=>Mj P a (k+1) c (thn (fun l' w'=>b (Ly l' ((a.getD k none).getD [])) w') Q) (N4 ((a.getD k none).getD []) (W9 a (k+1) c) x d 0 l) w)
 | _,_,_,_,_=>False
theorem Q73 {ops:List Oper} {l:List Value} {o:Oper} {j:Nat} {b:Bool} (a:o.guard=some (j,b)) {d:Nat} (e:(ops[j]?).bind (·.dst)=some d):
 Region.wanted o (yielded ops.toArray l.toArray)=true↔get l d= .bool b:=by
 unfold Region.wanted yielded
 rw[a]
 simp only[List.getElem?_toArray]
 rw[e]
 simp only[Option.bind_some,get,List.getD_eq_getElem?_getD]
 have key: ∀x:Option Value,((match x with | some (.bool c)=>some c | _=>none)==some b)=true↔x.getD undef= .bool b:=by
  intro x
  cases x with
  | none=>simp[undef]
  | some v=>cases v<;>simp
 exact key _
theorem Q5d {ops:List Oper} {l:List Value} {o:Oper} {j:Nat} {b:Bool} (a:o.guard=some (j,b)) (c:(ops[j]?).bind (·.dst)=none):
 Region.wanted o (yielded ops.toArray l.toArray)=false:=by
 unfold Region.wanted yielded
 rw[a]
 simp only[List.getElem?_toArray]
 rw[c]
 rfl
theorem Vd {v:Value} {b:Bool} {a:World→(Value→World→Prop)→Prop} {J:Value→World→Prop} {w:World} (h:Q0 v b w a J):
 (v= .bool b∧a w J)∨(v≠ .bool b∧J undef w):=by
 rw[Np] at h
 unfold Wp at h
 split at h
 ·split at h
  ·rename_i c;subst c;exact .inl ⟨rfl,h⟩
  ·rename_i c;exact .inr ⟨by simp[c],h⟩
 ·rename_i d;exact .inr ⟨d b,h⟩
theorem As {v:Value} {b:Bool} {a:World→(Value→World→Prop)→Prop} {J:Value→World→Prop} {w:World}
 (h:(v= .bool b∧a w J)∨(v≠ .bool b∧J undef w)):Q0 v b w a J:=by
 rw[Np]
 unfold Wp
 split
 ·split
  ·rename_i c;subst c
   rcases h with h | h
   ·exact h.2
   ·exact absurd rfl h.1
  ·rename_i c
   rcases h with h | h
   ·exact absurd (Value.bool.inj h.1) c
   ·exact h.2
 ·rename_i d
  rcases h with h | h
  ·exact absurd h.1 (d b)
  ·exact h.2
theorem Q2d (a:Act):a.eval=ev a.tmps.toList:=by
 funext x
 cases x<;>simp[Act.eval,ev,get,List.getD_eq_getElem?_getD]
theorem Q6s (a:Act) (d:Option Tmp) (v:Value):(a.put d v).tmps.toList=put a.tmps.toList d v:=by
 cases d<;>simp[Act.put,put]
theorem Q6P (a:Act) (d:Option Tmp) (v:Value):(a.put d v).defers=a.defers:=by
 cases d<;>simp[Act.put]
def lift (Q:Oh):Exit→Act→World→Prop:=fun e a w=>a.defers=[]∧Q e a.tmps.toList w
theorem Tg (P:Program) (ops:Array Oper) (Q:Exit→Act→World→Prop) (next:List Value→World→Prop)
 (t: ∀a w,a.defers=[]→next a.tmps.toList w→Q .normal a w) (is:List Nat) (r: ∀i∈is,i<ops.size):
 ∀(a:Act) (w:World),a.defers=[]→Y3 P ops.toList next (is.filterMap (ops[·]?)) a.tmps.toList w→wpOps P ops Q is a w:=by
 induction is with
 | nil=>intro a w p h;exact t a w p h
 | cons i is y=>
  intro a w p h
  have o:=r i (by simp)
  have k:ops[i]? =some ops[i]:=by simp[o]
  rw[List.filterMap_cons,k] at h
  simp only[Y3] at h
  simp only[wpOps,k]
  have q:ops.toList.toArray=ops:=by simp
  have s:a.tmps.toList.toArray=a.tmps:=by simp
  have e: ∀{v w},Y3 P ops.toList next (is.filterMap (ops[·]?)) (put a.tmps.toList ops[i].dst v) w→wpOps P ops Q is (a.put ops[i].dst v) w:=by
   intro v w f
   refine y (fun j u=>r j (by simp[u])) _ _ (by rw[Q6P];exact p) ?_
   rw[Q6s];exact f
  have m:V2 P a.tmps.toList ops[i] w (fun v w=>Y3 P ops.toList next (is.filterMap (ops[·]?)) (put a.tmps.toList ops[i].dst v) w)→
   ops[i].wp P a w (wpOps P ops Q is) Q:=by
   intro h
   refine X1Z ?_
   rw[Q2d]
   exact Dm (fun v w f=>e f) (Q5L h)
  split at h
  ·rename_i n
   rw[if_pos (by simp[Region.wanted,n])]
   exact .inl (m h)
  ·rename_i j b n
   split at h
   ·rename_i d c
    have g:=Q73 (ops:=ops.toList) (l:=a.tmps.toList) n c
    rw[q,s] at g
    rcases Vd h with ⟨f,h⟩ | ⟨f,h⟩
    ·rw[if_pos (g.2 f)];exact .inl (m h)
    ·rw[if_neg (fun h=>f (g.1 h))];exact e h
   ·rename_i c
    have g:=Q5d (ops:=ops.toList) (l:=a.tmps.toList) n c
    rw[q,s] at g
    rw[if_neg (by rw[g];simp)];exact e h
theorem Iw (ops:Array Oper):(List.range ops.size).filterMap (ops[·]?)=ops.toList:=by
 apply List.ext_getElem?
 intro i
 rw[←Array.length_toList]
 have: ∀l:List Oper,(List.range l.length).filterMap (l[·]?)=l:=by
  intro l
  induction l with
  | nil=>rfl
  | cons x l a=>
   rw[List.length_cons,List.range_succ_eq_map,List.filterMap_cons]
   simp only[List.getElem?_cons_zero,List.filterMap_map]
   congr 1
 have h:=this ops.toList
 simp only[Array.getElem?_toList] at h
 rw[h]
theorem Q0N (b:Bool) (ops:Array Oper) (t:Nat): ∀i∈Region.schedule b ops t,i<ops.size:=by
 have key: ∀m c t a e,(∀i∈e,i<ops.size)→ ∀i∈Region.linearise.go m ops c t a e,i<ops.size:=by
  intro m c
  induction c with
  | zero=>intro t a e h i d;simp[Region.linearise.go] at d;exact h i d
  | succ c g=>
   intro t a e h i d
   simp only[Region.linearise.go] at d
   split at d
   ·rename_i j f
    refine g _ _ _ ?_ i d
    intro k hk
    rcases List.mem_cons.1 hk with rfl | hk
    ·have:=List.mem_of_getElem? f
     simp only[List.mem_filter,List.mem_range] at this
     exact this.1
    ·exact h k hk
   ·simp at d;exact h i d
 intro i d
 unfold Region.schedule at d
 split at d
 ·exact key _ _ _ _ _ (by simp) i d
 ·exact key _ _ _ _ _ (by simp) i d
def K4 (W:List Nat) (l l':List Value):Prop:=l'.length=l.length∧ ∀i,W.contains i=false→l'[i]? =l[i]?
theorem K4.refl (W:List Nat) (l:List Value):K4 W l l:=⟨rfl,fun _ _=>rfl⟩
theorem K4.trans {W:List Nat} {a b c:List Value} (h:K4 W a b) (k:K4 W b c):K4 W a c:=
 ⟨k.1.trans h.1,fun i d=>(k.2 i d).trans (h.2 i d)⟩
theorem El (a b:List Nat) (x:Ib a.length) (d:Nat→Value) (l:List Value): ∀i,(N4 a b x d i l).length=l.length:=by
 induction l with
 | nil=>intro i;rfl
 | cons v l c=>intro i;simp[N4,c]
theorem Ra (a b:List Nat) (x:Ib a.length) (d:Nat→Value) (l:List Value): ∀i j,(N4 a b x d i l)[j]? =(l[j]?).map fun v=>De (i+j) (if b.contains (i+j) then d (i+j) else v) a x:=by
 induction l with
 | nil=>intro i j;simp[N4]
 | cons v l c=>
  intro i j
  cases j with
  | zero=>simp[N4]
  | succ j=>simp only[N4,List.getElem?_cons_succ,c];rw[show i+1+j=i+(j+1) from by omega]
theorem Jw (i:Nat) (e:Value): ∀(b:List Nat) (x:Ib b.length),b.contains i=false→De i e b x=e
 | [],_,_=>rfl
 | [s],x,h=>by
  have a: ¬s=i:=by intro a;subst a;simp at h
  exact if_neg a
 | s::t::r,x,h=>by
  simp only[De]
  split
  ·rename_i a;subst a;simp at h
  ·refine Jw i e (t::r) x.2 ?_
   simp only[List.contains_cons,Bool.or_eq_false_iff] at h⊢
   exact h.2
theorem Q4E (l:List Value) (i:Nat) (e c:Value): ∀(b:List Nat),b.contains i=true→De i e b (Ly l b)=get l i
 | [],h=>by simp at h
 | [s],h=>by
  simp only[List.contains_cons,List.contains_nil,Bool.or_false,beq_iff_eq] at h
  subst h;simp[De,Ly]
 | s::t::r,h=>by
  simp only[De,Ly]
  split
  ·rename_i a;subst a;rfl
  ·rename_i a
   refine Q4E l i e c (t::r) ?_
   simp only[List.contains_cons,Bool.or_eq_true,beq_iff_eq] at h⊢
   rcases h with h | h
   ·exact absurd h.symm a
   ·exact h
theorem Fo (a c:List Nat) (l l':List Value) (k:l'.length=l.length)
 (h: ∀i,a.contains i=false→c.contains i=false→l'[i]? =l[i]?):l'=N4 a c (Ly l' a) (get l') 0 l:=by
 apply List.ext_getElem?
 intro i
 rw[Ra]
 simp only[Nat.zero_add]
 cases d:l[i]? with
 | none=>
  have:=List.getElem?_eq_none_iff.1 d
  simp only[Option.map_none]
  exact List.getElem?_eq_none (by omega)
 | some v=>
  have m:i<l.length:=(List.getElem?_eq_some_iff.1 d).1
  have g:l'[i]? =some (get l' i):=by
   simp only[get,List.getD_eq_getElem?_getD]
   rw[List.getElem?_eq_getElem (by omega)];rfl
  rw[g]
  simp only[Option.map_some,Option.some.injEq]
  by_cases j:a.contains i=true
  ·rw[Q4E l' i _ undef a j]
  ·have b:a.contains i=false:=by simpa using j
   rw[Jw _ _ _ _ b]
   by_cases f:c.contains i=true
   ·rw[if_pos f]
   ·have e:c.contains i=false:=by simpa using f
    rw[if_neg f]
    have:=h i b e
    rw[g,d] at this
    exact Option.some.inj this
theorem Q30 {v:Value} {t e b a:Prop} (c:t→b) (d:e→a) (h:X1 v t e):X1 v b a:=by
 rw[Q3M] at*
 unfold Q1T at*
 split at h
 ·exact c h
 ·exact d h
 ·exact h.elim
theorem Yn (P:Program) (c:List Oper) (next b:List Value→World→Prop) (W:List Nat) (k:List Value): ∀(ops:List Oper) (l:List Value) (w:World),
 (∀o∈ops,∀d,o.dst=some d→W.contains d=true)→K4 W k l→(∀l w,next l w→K4 W k l→b l w)→Y3 P c next ops l w→Y3 P c b ops l w
 | [],l,w,_,j,n,h=>n l w h j
 | o::f,l,w,r,j,n,h=>by
  have g: ∀v,K4 W k (put l o.dst v):=by
   intro v
   cases t:o.dst with
   | none=>exact j
   | some d=>
    have u:=r o (by simp) d t
    refine j.trans ⟨by simp[put],fun i q=>?_⟩
    have:d≠i:=by intro e;subst e;rw[u] at q;cases q
    simp[put,this]
  have a: ∀v w,Y3 P c next f (put l o.dst v) w→Y3 P c b f (put l o.dst v) w:=fun v w s=>
   Yn P c next b W k f _ w (fun o y=>r o (by simp[y])) (g v) n s
  simp only[Y3] at h⊢
  split at h
  ·exact B6 a h
  ·split at h
   ·refine As ((Vd h).imp (fun ⟨p,m⟩=>⟨p,B6 a m⟩) (fun ⟨p,m⟩=>⟨p,a _ _ m⟩))
   ·exact a _ _ h
theorem Q3f {α:Type} {e:α} {c b:(α→World→Prop)→α→(Nat→Value)→World→Prop} {w:World}
 (f: ∀a x d w,c a x d w→b a x d w) (h:lp e w c):lp e w b:=by
 obtain ⟨I,μ,j,g⟩:=Q8b h
 exact Zs I μ j fun x d w i=>f _ _ _ _ (g x d w i)
theorem G4 {a b:List Nat} {i:Nat} (h:a.contains i=true):(a++b).contains i=true:=by simp at h⊢;exact .inl h
theorem O7 {a b:List Nat} {i:Nat} (h:b.contains i=true):(a++b).contains i=true:=by simp at h⊢;exact .inr h
theorem Q2D (P:Program) (q:List (Option (List Nat))) (c:Code): ∀(k:Nat) (Q A:Oh) (W:List Nat) (m l:List Value) (w:World),
 (∀i,(W9 q k c).contains i=true→W.contains i=true)→K4 W m l→
 (∀e l w,Q e l w→K4 W m l→A e l w)→Mj P q k c Q l w→Mj P q k c A l w:=by
 induction c with
 | skip=>intro k Q A W m l w _ g j h;exact j _ _ _ h g
 | label n=>intro k Q A W m l w _ g j h;exact j _ _ _ h g
 | exit id=>intro k Q A W m l w _ g j h;exact j _ _ _ h g
 | ret=>intro k Q A W m l w _ g j h;exact j _ _ _ h g
 | goto n=>intro k Q A W m l w _ g j h;exact h.elim
 | refuse s=>intro k Q A W m l w _ g j h;exact h.elim
 | scope c=>intro k Q A W m l w _ g j h;exact h.elim
 | rangeFunc f p a b=>intro k Q A W m l w _ g j h;exact h.elim
 | region id ops L=>
  intro k Q A W m l w B g j h
  have N: ∀o∈ops.toList,∀d,o.dst=some d→W.contains d=true:=by
   intro o R d hd
   refine B d ?_
   simp only[W9,O4,List.contains_eq_mem,List.mem_filterMap,decide_eq_true_eq]
   exact ⟨o,R,hd⟩
  cases L with
  | false=>exact Yn P _ _ _ W m _ _ _ N g (fun l w V g=>j _ _ _ V g) h
  | true=>
   intro t
   refine Yn P _ _ _ W m _ _ _ ?_ g (fun l w V g=>j _ _ _ V g) (h t)
   intro o R
   simp only[List.mem_filterMap] at R
   obtain ⟨i,_,r⟩:=R
   exact N o (by simpa using Array.mem_of_getElem? r)
 | seq x y D E=>
  intro k Q A W m l w B g j h
  have X: ∀i,(W9 q (k+1) x).contains i=true→W.contains i=true:=fun i r=>B i (O7 (G4 r))
  have hy: ∀i,(W9 q (k+1+K5 x) y).contains i=true→W.contains i=true:=fun i r=>B i (O7 (O7 r))
  simp only[Mj] at h⊢
  split at h
  ·refine D _ _ _ W m l w X g ?_ h
   intro e l' w' C u
   cases e with
   | normal=>exact E _ _ _ W m l' w' hy u j C
   | _=>exact j _ _ _ C u
  ·rename_i sl Z
   obtain ⟨J,O,M⟩:=Q4M h
   refine Zt J (D _ _ _ W m l w X g ?_ O) fun z d w hz=>?_
   ·intro e l' w' C u
    cases e with
    | normal=>exact C
    | _=>exact j _ _ _ C u
   ·refine E _ _ _ W m _ w hy (g.trans ⟨El _ _ _ _ _ _,fun i r=>?_⟩) j (M z d w hz)
    rw[Ra]
    have O:sl.contains i=false:=by
     cases H:sl.contains i with
     | false=>rfl
     | true=>rw[B i (G4 (by rw[Z];exact H))] at r;cases r
    have M:(W9 q (k+1) x).contains i=false:=by
     cases H:(W9 q (k+1) x).contains i with
     | false=>rfl
     | true=>rw[X i H] at r;cases r
    simp only[Nat.zero_add]
    cases hl:l[i]? with
    | none=>rfl
    | some v=>simp only[Option.map_some,Jw _ _ _ _ O,M,Bool.false_eq_true,if_false]
 | cond c x y D E=>
  intro k Q A W m l w B g j h
  exact Q30 (D k _ _ W m l w (fun i r=>B i (G4 r)) g j) (E _ _ _ W m l w (fun i r=>B i (O7 r)) g j) h
 | block id c ih=>
  intro k Q A W m l w B g j h
  refine ih k _ _ W m l w B g ?_ h
  intro e l' w' C u
  cases e with
  | exit af=>simp only[Q1u] at C⊢;split<;>rename_i U<;>simp only[U,if_true,if_false] at C<;>exact j _ _ _ C u
  | _=>exact j _ _ _ C u
 | loop c ih=>
  intro k Q A W m l w B g j h
  refine Q3f (fun Y x d w hb=>?_) h
  refine ih _ _ _ W m _ _ (fun i r=>B i (O7 r)) ?_ ?_ hb
  ·refine g.trans ⟨El _ _ _ _ _ _,fun i r=>?_⟩
   rw[Ra]
   have O:((q.getD k none).getD []).contains i=false:=by
    cases H:((q.getD k none).getD []).contains i with
    | false=>rfl
    | true=>rw[B i (G4 H)] at r;cases r
   have M:(W9 q (k+1) c).contains i=false:=by
    cases H:(W9 q (k+1) c).contains i with
    | false=>rfl
    | true=>rw[B i (O7 H)] at r;cases r
   simp only[Nat.zero_add]
   cases hl:l[i]? with
   | none=>rfl
   | some v=>simp only[Option.map_some,Jw _ _ _ _ O,M,Bool.false_eq_true,if_false]
  ·intro e l' w' C u
   cases e with
   | normal=>exact C
   | _=>exact j _ _ _ C u
theorem Q8v (P:Program) (g:List (Option (List Nat))) (c:Code): ∀(k:Nat) (Q:Oh) (a:Act) (w:World),
 a.defers=[]→Mj P g k c Q a.tmps.toList w→c.wp P (lift Q) a w:=by
 induction c with
 | skip=>intro k Q a w j h;exact wp_skip ⟨j,h⟩
 | label n=>intro k Q a w j h;exact wp_label ⟨j,h⟩
 | exit id=>intro k Q a w j h;exact wp_exit ⟨j,h⟩
 | ret=>intro k Q a w j h;exact wp_ret ⟨j,h⟩
 | goto n=>intro k Q a w j h;exact h.elim
 | refuse s=>intro k Q a w j h;exact h.elim
 | scope c=>intro k Q a w j h;exact h.elim
 | rangeFunc f p a b=>intro k Q a w j h;exact h.elim
 | region id ops A=>
  intro k Q a w j h
  cases A with
  | false=>
   refine wp_region (Tg P ops _ _ (fun a w j h=>⟨j,h⟩) _ (by simp) a w j ?_)
   rw[Iw];exact h
  | true=>
   refine wp_region_draw fun t=>?_
   exact Tg P ops _ _ (fun a w j h=>⟨j,h⟩) _ (Q0N _ _ _) a _ j (h t)
 | seq x y r u=>
  intro k Q a w j h
  simp only[Mj] at h
  split at h
  ·refine wp_seq (wp_mono (r _ _ a w j h) ?_)
   intro e o w' ⟨m,q⟩
   cases e with
   | normal=>exact u _ _ o w' m q
   | _=>exact ⟨m,q⟩
  ·rename_i Y ae
   obtain ⟨J,U,B⟩:=Q4M h
   have H:=Q2D P g x (k+1) _ (fun e l' w'=>thn (fun l' w'=>J (Ly l' Y) w') Q e l' w'∧K4 (W9 g (k+1) x) a.tmps.toList l') (W9 g (k+1) x) a.tmps.toList a.tmps.toList w (fun _ h=>h) (K4.refl _ _) (fun e l w h R=>⟨h,R⟩) U
   refine wp_seq (wp_mono (r (k+1) _ a w j H) ?_)
   intro e o w' ⟨m,q,C⟩
   cases e with
   | normal=>
    refine u (k+1+K5 x) _ o w' m ?_
    rw[Fo Y (W9 g (k+1) x) a.tmps.toList o.tmps.toList C.1 (fun i _ h=>C.2 i h)]
    exact B _ _ _ q
   | _=>exact ⟨m,q⟩
 | cond c x y r u=>
  intro k Q a w j h
  simp only[Mj,Q3M,Q1T] at h
  split at h
  ·rename_i O
   exact wp_cond_true (by rw[Q2d];exact O) (r _ _ _ _ j h)
  ·rename_i O
   exact wp_cond_false (by rw[Q2d];exact O) (u _ _ _ _ j h)
  ·exact h.elim
 | block id c X=>
  intro k Q a w j h
  refine wp_block (wp_mono (X k _ a w j h) ?_)
  intro e o w' ⟨m,q⟩
  cases e with
  | exit ad=>
   simp only[Q1u,Exit.inBlock] at q⊢
   split<;>rename_i M<;>simp only[M,if_true,if_false] at q<;>exact ⟨m,q⟩
  | _=>exact ⟨m,q⟩
 | loop c X=>
  intro k Q a w j h
  obtain ⟨I,μ,h0,Z⟩:=Q8b h
  refine wp_loop (fun o w'=>o.defers=[]∧(∃d,o.tmps.toList=N4 ((g.getD k none).getD []) (W9 g (k+1) c) (Ly o.tmps.toList ((g.getD k none).getD [])) d 0 a.tmps.toList)∧I (Ly o.tmps.toList ((g.getD k none).getD [])) w') (fun o w'=>μ (Ly o.tmps.toList ((g.getD k none).getD [])) w') ⟨j,⟨get a.tmps.toList,Fo _ _ _ _ rfl (fun _ _ _=>rfl)⟩,h0⟩ ?_
  intro E w1 ⟨L,⟨d1,v⟩,W⟩
  have N:=Z _ d1 w1 W
  dsimp only at N
  rw[←v] at N
  have V:=Q2D P g c (k+1) _ (fun e l' w'=>thn (fun l' w'=>I (Ly l' ((g.getD k none).getD [])) w'∧μ (Ly l' ((g.getD k none).getD [])) w'<μ (Ly E.tmps.toList ((g.getD k none).getD [])) w1) Q e l' w'∧K4 (W9 g (k+1) c) E.tmps.toList l') (W9 g (k+1) c) E.tmps.toList E.tmps.toList w1 (fun _ h=>h) (K4.refl _ _) (fun e l w h R=>⟨h,R⟩) N
  refine wp_mono (X _ _ E w1 L V) ?_
  intro e a2 w2 ⟨z,B,D⟩
  cases e with
  | normal=>
   refine ⟨⟨z,⟨get a2.tmps.toList,Fo _ _ _ _ ?_ ?_⟩,B.1⟩,B.2⟩
   ·rw[D.1,v,El]
   ·intro i U H
    rw[D.2 i H,v,Ra]
    simp only[Nat.zero_add,Jw _ _ _ _ U,H,Bool.false_eq_true,if_false,Option.map_id']
  | _=>exact ⟨z,B⟩
def Q6H:List Value→Nat→Value→(List Value→Prop)→Prop
 | [],_,_,k=>k []
 | _::l,0,v,k=>k (v::l)
 | x::l,n+1,v,k=>Q6H l n v (fun l'=>k (x::l'))
def Q24 (l:List Value) (d:Option Tmp) (v:Value) (k:List Value→Prop):Prop:=
 match d with
 | some d=>Q6H l d v k
 | none=>k l
def Q7m:List Value→Nat→(Value→Prop)→Prop
 | [],_,k=>k undef
 | x::_,0,k=>k x
 | _::l,n+1,k=>Q7m l n k
def evK (l:List Value) (o:Operand) (k:Value→Prop):Prop:=
 match o with
 | .tmp t=>Q7m l t k
 | .const v=>k v
 | .global g=>k (.pointer (some ⟨g,0,none⟩))
 | .func f=>k (.func (.func f) #[] #[])
def Q1Q (i:Nat) (e:Value):(a:List Nat)→Ib a.length→(Value→Prop)→Prop
 | [],_,k=>k e
 | [s],x,k=>if s=i then k x else k e
 | s::t::r,x,k=>if s=i then k x.1 else Q1Q i e (t::r) x.2 k
def Sw (a b:List Nat) (x:Ib a.length) (d:Nat→Value):Nat→List Value→(List Value→Prop)→Prop
 | _,[],k=>k []
 | i,v::l,k=>match b.contains i with
  | true=>Q1Q i (d i) a x (fun u=>Sw a b x d (i+1) l (fun l'=>k (u::l')))
  | false=>Q1Q i v a x (fun u=>Sw a b x d (i+1) l (fun l'=>k (u::l')))
theorem X0A (l:List Value): ∀(n:Nat) (v:Value) (k:List Value→Prop),Q6H l n v k=k (l.set n v):=by
 induction l with
 | nil=>intro n v k;rfl
 | cons x l a=>intro n v k;cases n with
  | zero=>rfl
  | succ n=>simp only[Q6H,a,List.set_cons_succ]
theorem Q6d (l:List Value) (d:Option Tmp) (v:Value) (k:List Value→Prop):Q24 l d v k=k (put l d v):=by
 cases d with
 | none=>rfl
 | some d=>exact X0A l d v k
theorem X0H (l:List Value): ∀(n:Nat) (k:Value→Prop),Q7m l n k=k (get l n):=by
 induction l with
 | nil=>intro n k;rfl
 | cons x l a=>intro n k;cases n with
  | zero=>rfl
  | succ n=>simp only[Q7m,a];rfl
theorem X1u (l:List Value) (o:Operand) (k:Value→Prop):evK l o k=k (ev l o):=by
 cases o with
 | tmp t=>exact X0H l t k
 | _=>rfl
theorem Tz (i:Nat) (e:Value) (k:Value→Prop): ∀(a:List Nat) (x:Ib a.length),Q1Q i e a x k=k (De i e a x)
 | [],_=>rfl
 | [s],x=>by
  by_cases h:s=i
  ·exact (if_pos h).trans (congrArg k (if_pos h).symm)
  ·exact (if_neg h).trans (congrArg k (if_neg h).symm)
 | s::t::r,x=>by
  by_cases h:s=i
  ·exact (if_pos h).trans (congrArg k (if_pos h).symm)
  ·exact ((if_neg h).trans (Tz i e k (t::r) x.2)).trans (congrArg k (if_neg h).symm)
theorem Q2O (a b:List Nat) (x:Ib a.length) (d:Nat→Value) (l:List Value): ∀(i:Nat) (k:List Value→Prop),Sw a b x d i l k=k (N4 a b x d i l):=by
 induction l with
 | nil=>intro i k;rfl
 | cons v l c=>
  intro i k
  simp only[Sw,N4]
  split
  ·rename_i h;rw[Tz,c,if_pos h]
  ·rename_i h;rw[Tz,c,if_neg (by rw[h];simp)]
theorem Rl (b c a:List Nat) (h: ∀i,c.contains i=a.contains i) (x:Ib b.length) (d:Nat→Value) (l:List Value): ∀i,N4 b c x d i l=N4 b a x d i l:=by
 induction l with
 | nil=>intro i;rfl
 | cons v l e=>intro i;simp only[N4,e,h]
noncomputable def F4 (P:Program) (ops:List Oper) (next:List Value→World→Prop):List Oper→List Value→World→Prop
 | [],l,w=>next l w
 | o::a,l,w=>
  match o.guard with
  | none=>match o.op with
   | .move x=>evK l x fun v=>Q24 l o.dst v fun l=>F4 P ops next a l w
   | .assign x=>evK l x fun v=>Q24 l o.dst v fun l=>F4 P ops next a l w
   | _=>V2 P l o w (fun v w=>Q24 l o.dst v fun l=>F4 P ops next a l w)
  | some (j,b)=>match (ops[j]?).bind (·.dst) with
   | some d=>Q0 (get l d) b w (V2 P l o) (fun v w=>Q24 l o.dst v fun l=>F4 P ops next a l w)
   | none=>Q24 l o.dst undef fun l=>F4 P ops next a l w
theorem Dg (P:Program) (ops:List Oper) (next:List Value→World→Prop) (os:List Oper): ∀(l:List Value) (w:World),F4 P ops next os l w=Y3 P ops next os l w:=by
 induction os with
 | nil=>intro l w;rfl
 | cons o a c=>
  intro l w
  obtain ⟨dst,p,e,pos,d,g⟩:=o
  cases g with
  | none=>cases p<;>simp only[F4,Y3,Q6d,X1u,c,V2]
  | some q=>obtain ⟨j,b⟩:=q;simp only[F4,Y3,Q6d,c]
def Zl (T:World→World→Prop) (φ:Value→World→Prop):Prop:= ∀v w w',φ v w→T w w'→φ v w'
def dk (T:World→World→Prop) (φ:Value→World→Prop) (w:World):Value→World→Prop:=fun v w'=>T w w'∧φ v w'
def Q3R (T:World→World→Prop) (A:(Value→World→Prop)→Prop) (a:(Value→World→Prop)→Prop):Prop:=
 ∃φ,Zl T φ∧A φ∧a φ
theorem Q84: ∃f:(World→World→Prop)→((Value→World→Prop)→Prop)→((Value→World→Prop)→Prop)→Prop,f=Q3R:=⟨_,rfl⟩
noncomputable def Q7:(World→World→Prop)→((Value→World→Prop)→Prop)→((Value→World→Prop)→Prop)→Prop:=Classical.choose Q84
theorem Q7R:Q7=Q3R:=Classical.choose_spec Q84
def Q6q (w:World) (A:(World→World→Prop)→(World→Prop)→Prop):Prop:= ∃T B,B w.drew∧(∀w w',B w→T w w'→B w')∧A T B
theorem X01: ∃f:World→((World→World→Prop)→(World→Prop)→Prop)→Prop,f=Q6q:=⟨_,rfl⟩
noncomputable def dr:World→((World→World→Prop)→(World→Prop)→Prop)→Prop:=Classical.choose X01
theorem Q9F:dr=Q6q:=Classical.choose_spec X01
theorem Q0c {w:World} {A:(World→World→Prop)→(World→Prop)→Prop} (T:World→World→Prop) (B:World→Prop) (h:B w.drew) (a: ∀w w',B w→T w w'→B w') (b:A T B):dr w A:=by
 rw[Q9F];exact ⟨T,B,h,a,b⟩
theorem W7 {T:World→World→Prop} {A a:(Value→World→Prop)→Prop} (φ:Value→World→Prop) (b:Zl T φ) (h:A φ) (c:a φ):Q7 T A a:=by
 rw[Q7R];exact ⟨φ,b,h,c⟩
def Q2h (T:World→World→Prop) (A a:(List Value→Value→World→Prop)→Prop):Prop:=
 ∃φ,(∀xs,Zl T (φ xs))∧A φ∧a φ
theorem Q68: ∃f:(World→World→Prop)→((List Value→Value→World→Prop)→Prop)→((List Value→Value→World→Prop)→Prop)→Prop,f=Q2h:=⟨_,rfl⟩
noncomputable def Q1g:(World→World→Prop)→((List Value→Value→World→Prop)→Prop)→((List Value→Value→World→Prop)→Prop)→Prop:=Classical.choose Q68
theorem Q67:Q1g=Q2h:=Classical.choose_spec Q68
theorem Q64 {T:World→World→Prop} {A a:(List Value→Value→World→Prop)→Prop} (φ:List Value→Value→World→Prop) (b: ∀xs,Zl T (φ xs)) (h:A φ) (c:a φ):Q1g T A a:=by
 rw[Q67];exact ⟨φ,b,h,c⟩
noncomputable def runOp (P:Program) (ops:List Oper) (l:List Value) (o:Oper) (w:World) (K:Value→World→Prop):Prop:=
 match o.guard with
 | none=>V2 P l o w K
 | some (j,b)=>match (ops[j]?).bind (·.dst) with
  | some d=>Q0 (get l d) b w (V2 P l o) K
  | none=>False
inductive Ent where
  | val (v : Value)
  | ref (j : Nat)
def Ent.at (u:Nat→Value):Ent→Value
 | .val v=>v
 | .ref j=>u j
def K0 (u:Nat→Value) (S:List Ent):List Value:=S.map (Ent.at u)
def getE:List Ent→Nat→Ent
 | [],_=> .val undef
 | x::_,0=>x
 | _::l,n+1=>getE l n
def entOf (S:List Ent):Operand→Ent
 | .tmp t=>getE S t
 | .const v=> .val v
 | .global g=> .val (.pointer (some ⟨g,0,none⟩))
 | .func f=> .val (.func (.func f) #[] #[])
def mv (o:Oper):Option Operand:=
 match o.guard with
 | some _=>none
 | none=>match o.op with
  | .move x=>some x
  | .assign x=>some x
  | _=>none
def Q0Z:List Ent→Nat→Ent→List Ent
 | [],_,_=>[]
 | _::l,0,e=>e::l
 | x::l,n+1,e=>x::Q0Z l n e
def putE (S:List Ent) (d:Option Nat) (e:Ent):List Ent:=
 match d with
 | some d=>Q0Z S d e
 | none=>S
def H8 (o:Oper):List Nat:=o.op.operands.toList.filterMap fun | .tmp t=>some t | _=>none
def O3 (ops:List Oper) (o:Oper):List Nat:=
 match o.guard with
 | none=>[]
 | some (j,_)=>match (ops[j]?).bind (·.dst) with | some d=>[d] | none=>[]
def Ay:List Nat→List Nat
 | []=>[]
 | x::l=>x::(Ay l).filter (fun y=> !(y==x))
def Q3A:Ent→List Nat
 | .ref j=>[j]
 | .val _=>[]
def Q0a (S:List Ent):List Nat→List Nat
 | []=>[]
 | s::l=>Q3A (getE S s)++Q0a S l
def refs (ops:List Oper) (S:List Ent) (o:Oper):List Nat:=Ay (Q0a S (O3 ops o++H8 o))
def Bs:List Nat→(Nat→Value)→((Nat→Value)→Prop)→Prop
 | [],u,k=>k u
 | j::a,u,k=> ∀t:Value,Bs a (fun n=>if n=j then t else u n) k
abbrev Hc:=List (Nat×List Nat×(List Value→Value→World→Prop))
def Jb:Hc→Nat→Option (List Nat×(List Value→Value→World→Prop))
 | [],_=>none
 | (i,φ)::l,j=>if i=j then some φ else Jb l j
def Bc (b:Hc) (u:Nat→Value) (w:World) (a:Prop):List Nat→Prop
 | []=>a
 | j::c=>match Jb b j with
  | some ([],φ)=>φ [] (u j) w→Bc b u w a c
  | _=>Bc b u w a c
def Q0i (b:Hc) (u:Nat→Value) (w:World) (a:Prop):List Nat→Prop
 | []=>a
 | j::c=>match Jb b j with
  | some (R,φ)=>φ (R.map u) (u j) w→Q0i b u w a c
  | none=>Q0i b u w a c
def Q4w (o:Oper):Bool:=match o.op with | .store .. =>true | _=>false
noncomputable def chain (P:Program) (ops:List Oper) (T:World→World→Prop) (B:World→Prop) (J7:List Value→World→Prop) (tail:List Oper):Nat→List Oper→List Ent→Hc→List Nat→Prop
 | _,[],S,b,done=>Bs done (fun _=>undef) fun u=> ∀w,B w→Q0i b u w (F4 P ops J7 tail (K0 u S) w) done
 | i,o::a,S,b,done=>
  match mv o with
  | some x=>chain P ops T B J7 tail (i+1) a (putE S o.dst (entOf S x)) b done
  | none=>match Q4w o with
   | true=>Q1g T (fun φ=>Bs (refs ops S o) (fun _=>undef) fun u=> ∀w,B w→Bc b u w (runOp P ops (K0 u S) o w (dk T (φ ((refs ops S o).map u)) w)) (refs ops S o))
    (fun φ=>chain P ops T B J7 tail (i+1) a (putE S o.dst (.ref i)) (b++[(i,refs ops S o,φ)]) (done++[i]))
   | false=>Q7 T (fun φ=>Bs (refs ops S o) (fun _=>undef) fun u=> ∀w,B w→Bc b u w (runOp P ops (K0 u S) o w (dk T φ w)) (refs ops S o))
    (fun φ=>chain P ops T B J7 tail (i+1) a (putE S o.dst (.ref i)) (b++[(i,[],fun _=>φ)]) (done++[i]))
def Qo:Op→Bool
 | .ready _ | .waits _ | .sliceToArrayPointer .. | .makeChan .. | .typeAssert .. | .go _ | .defer _ | .send .. | .recv .. | .select .. =>false
 | .call c=>match c.callee with | .invoke .. =>false | _=>true
 | _=>true
theorem Ro {l l':List Value} {x:Option Operand} (h: ∀y∈x.toArray,ev l y=ev l' y):evo l x=evo l' x:=by
 cases x with
 | none=>rfl
 | some y=>simp only[evo];rw[h y (by simp)]
theorem Ad {l l':List Value} {xs:Array Operand} (h: ∀y∈xs,ev l y=ev l' y):Al l xs=Al l' xs:=by
 unfold Al;exact List.map_congr_left fun y a=>h y (by simpa using a)
theorem Q2W {l l':List Value} {xs:Array (Nat×Operand)} (h: ∀y∈(xs.toList.map (·.2)).toArray,ev l y=ev l' y):evp l xs=evp l' xs:=by
 unfold evp
 refine List.map_congr_left fun y a=>?_
 rw[h y.2 (by simp;exact ⟨y.1,by simpa using a⟩)]
theorem Nf {P:Program} {l l':List Value} {o:Oper} (k:Qo o.op=true) (h: ∀x∈o.op.operands,ev l x=ev l' x):V2 P l o=V2 P l' o:=by
 obtain ⟨d,p,D,pos,B,g⟩:=o
 funext w K
 cases p with
 | call c=>
  obtain ⟨j,i,C⟩:=c
  have q:Al l i=Al l' i:=Ad fun y e=>h y (by simp[Op.operands,Call.operands];exact .inr e)
  cases j with
  | invoke r m=>simp[Qo] at k
  | builtin b=>simp only[V2,Nc,q]
  | value f=>
   have v:ev l f=ev l' f:=h f (by simp[Op.operands,Call.operands])
   cases f<;>simp only[V2,Nc,q,v]
 | build t A=>simp only[V2];rw[Q2W h]
 | buildSlice t n A=>simp only[V2];rw[Q2W h]
 | makeFunc f a b=>
  simp only[V2]
  rw[Ad (xs:=a) fun y e=>h y (by simp[Op.operands];exact .inl e),Ad (xs:=b) fun y e=>h y (by simp[Op.operands];exact .inr e)]
 | makeMap t r=>simp only[V2];rw[Ro h]
 | slice t x u z s=>
  simp only[V2]
  rw[h x (by simp[Op.operands]),Ro (x:=u) fun y e=>h y (by simp[Op.operands] at e⊢;simp[e]),Ro (x:=z) fun y e=>h y (by simp[Op.operands] at e⊢;simp[e]),Ro (x:=s) fun y e=>h y (by simp[Op.operands] at e⊢;simp[e])]
 | _=>first
  | (simp[Qo] at k;done)
  | (simp only[Op.operands,List.mem_toArray,List.mem_cons,List.not_mem_nil,or_false,forall_eq_or_imp,forall_eq] at h;simp only[V2,h];done)
  | rfl
def Ga:List Oper→List Nat→List Nat
 | [],acc=>acc
 | o::a,acc=>Ga a (acc++[(o.after.toList.filter (Region.binds .any)).foldl (fun s e=>s ||| 2 ^ e.on ||| acc.getD e.on 0) 0])
def K3 (a b:Oper):Bool:=
 match a.dst with
 | some d=>(H8 b).contains d||b.dst==some d
 | none=>false
def Q2m (a:List Nat) (ops:List Oper):Bool:=
 ops.zipIdx.all fun (o,j)=>ops.zipIdx.all fun (q,i)=> !(decide (i<j))|| !(K3 q o||K3 o q)||(a.getD j 0).testBit i
def Zu (ops:List Oper):Bool:=
 ops.zipIdx.all fun (o,i)=>Qo o.op&&(o.after.toList.filter (Region.binds .any)).all (fun e=>decide (e.on<i))&&
  match o.guard with | none=>true | some (j,_)=>(o.after.toList.filter (Region.binds .any)).any (fun e=>e.on==j)
def Q3F (m:Region.Mode) (ops:List Oper):List Nat→List Nat→Bool
 | [],_=>true
 | j::L,seen=>((ops[j]?.map fun o=>o.after.toList).getD []).all (fun e=> !Region.binds m e||seen.contains e.on)&&Q3F m ops L (j::seen)
def G7 (m:Region.Mode) (ops:List Oper) (L:List Nat):Bool:=
 Q3F m ops L []&&(List.range ops.length).all (L.contains ·)&&ops.all (fun o=>o.after.toList.all fun e=> !Region.binds m e||decide (e.on<ops.length))
def Q9w (m:Region.Mode) (ops:List Oper):Nat→List Nat→List Nat→List Nat
 | 0,_,seen=>seen.reverse
 | n+1,a,seen=>
  match a.find? (fun j=>((ops[j]?.map fun o=>o.after.toList).getD []).all (fun e=> !Region.binds m e||seen.contains e.on)) with
  | some j=>Q9w m ops n (a.erase j) (j::seen)
  | none=>seen.reverse
def Qj:List Nat→Bool
 | []=>true
 | x::l=> !l.contains x&&Qj l
def I1 (ops:List Oper) (j:Nat):List Nat:=(ops[j]?.map fun o=>(o.after.toList.filter (Region.binds .any)).map (·.on)).getD []
def Dz (ops:List Oper) (L:List Nat):Prop:= ∀b j a,L=b++j::a→ ∀i∈I1 ops j,i∈b
theorem Q51 (f:Edge→Nat) (l:List Edge): ∀(s i:Nat),(l.foldl (fun s e=>s ||| 2 ^ e.on ||| f e) s).testBit i=true→
 s.testBit i=true∨ ∃e∈l,e.on=i∨(f e).testBit i=true:=by
 induction l with
 | nil=>intro s i h;exact .inl h
 | cons e l b=>
  intro s i h
  rcases b _ _ h with h | ⟨a,c,h⟩
  ·simp only[Nat.testBit_or,Bool.or_eq_true] at h
   rcases h with (h | h) | h
   ·exact .inl h
   ·rw[Nat.testBit_two_pow] at h
    exact .inr ⟨e,by simp, .inl (by simpa using h)⟩
   ·exact .inr ⟨e,by simp, .inr h⟩
  ·exact .inr ⟨a,by simp[c],h⟩
theorem Q2U (a:List Oper): ∀(b:List Oper) (acc:List Nat),acc.length+b.length=a.length→(∀k,acc.length≤k→a[k]? =b[k-acc.length]?)→
 (∀j i,j<acc.length→(acc.getD j 0).testBit i=true→ ∃k∈I1 a j,k=i∨(k<j∧(acc.getD k 0).testBit i=true))→
 (∀j,j<a.length→ ∀k∈I1 a j,k<j)→
 ∀j i,j<a.length→((Ga b acc).getD j 0).testBit i=true→ ∃k∈I1 a j,k=i∨(k<j∧((Ga b acc).getD k 0).testBit i=true)
 | [],acc,q,_,c,_=>by
  intro j i t h
  exact c j i (by simp at q;omega) h
 | o::b,acc,q,l,c,p=>by
  have z:a[acc.length]? =some o:=by rw[l _ (Nat.le_refl _)];simp
  refine Q2U a b _ (by simp at q⊢;omega) ?_ ?_ p
  ·intro k g
   simp only[List.length_append,List.length_cons,List.length_nil] at g⊢
   rw[l k (by omega)]
   obtain ⟨m,w⟩: ∃m,k-acc.length=m+1:=⟨k-acc.length-1,by omega⟩
   rw[w,List.getElem?_cons_succ]
   congr 1;omega
  ·intro j i t h
   simp only[List.length_append,List.length_cons,List.length_nil] at t
   have d: ∀k,k<acc.length→(acc++[(o.after.toList.filter (Region.binds .any)).foldl (fun s e=>s ||| 2 ^ e.on ||| acc.getD e.on 0) 0]).getD k 0=acc.getD k 0:=by
    intro k g
    simp only[List.getD_eq_getElem?_getD]
    rw[List.getElem?_append_left g]
   by_cases n:j<acc.length
   ·rw[d j n] at h
    obtain ⟨k,g,h⟩:=c j i n h
    exact ⟨k,g,h.imp id fun ⟨y,u⟩=>⟨y,by rw[d k (by omega)];exact u⟩⟩
   ·have r:j=acc.length:=by omega
    subst r
    simp only[List.getD_eq_getElem?_getD,List.getElem?_append_right (Nat.le_refl _),Nat.sub_self,List.getElem?_cons_zero,Option.getD_some] at h
    rcases Q51 (fun e=>acc.getD e.on 0) _ _ _ (by simpa only[List.getD_eq_getElem?_getD] using h) with h | ⟨e,v,h⟩
    ·simp at h
    ·have f:e.on∈I1 a acc.length:=by
      unfold I1;rw[z];simp only[Option.map_some,Option.getD_some,List.mem_map];exact ⟨e,v,rfl⟩
     refine ⟨e.on,f,h.imp id fun h=>?_⟩
     have g:=p acc.length (by simp at q;omega) _ f
     exact ⟨g,by rw[d _ g];exact h⟩
theorem Gb {ops:List Oper} (h:Zu ops=true): ∀j,j<ops.length→ ∀k∈I1 ops j,k<j:=by
 intro j b k a
 simp only[Zu,List.all_eq_true,Bool.and_eq_true] at h
 unfold I1 at a
 rw[List.getElem?_eq_getElem b] at a
 simp only[Option.map_some,Option.getD_some,List.mem_map] at a
 obtain ⟨e,c,rfl⟩:=a
 have:=(h (ops[j],j) (by rw[List.mem_zipIdx_iff_getElem?];simp[b])).1.2 e c
 simpa using this
theorem Q4m {ops:List Oper} (l:Zu ops=true) {L:List Nat} (g:Dz ops L): ∀(j:Nat),j<ops.length→ ∀i b a,L=b++j::a→((Ga ops []).getD j 0).testBit i=true→i∈b:=by
 intro j
 induction j using Nat.strongRecOn with
 | _ j q=>
  intro e i b a f n
  obtain ⟨k,o,h⟩:=Q2U ops ops [] (by simp) (by simp) (by intro j i e;simp at e) (Gb l) j i e n
  have c:=g b j a f k o
  rcases h with rfl | ⟨d,h⟩
  ·exact c
  ·obtain ⟨p,m,rfl⟩:=List.append_of_mem c
   have:=q k d (by omega) i p (m++j::a) (by rw[f];simp) h
   exact List.mem_append_left _ this
theorem Uj: ∀(n:Nat) (a:List Nat),(∀k,k<n→k∈a)→n≤a.length
 | 0,_,_=>Nat.zero_le _
 | n+1,a,h=>by
  have c:=Uj n (a.erase n) fun k d=>(List.mem_erase_of_ne (by omega)).2 (h k (by omega))
  have e:=List.length_erase_of_mem (h n (by omega))
  have b:=List.length_pos_of_mem (h n (by omega))
  omega
theorem C0: ∀(n:Nat) (l:List Nat),l.Nodup→(∀k∈l,k<n)→l.length≤n
 | 0,l,_,h=>by
  cases l with
  | nil=>simp
  | cons x l=>exact absurd (h x (by simp)) (by omega)
 | n+1,l,b,h=>by
  by_cases c:n∈l
  ·have g:=C0 n (l.erase n) (b.erase n) fun k a=>by
    have f:=h k (List.mem_of_mem_erase a)
    have d:k≠n:=fun e=>by subst e;exact (List.Nodup.not_mem_erase b) a
    omega
   have f:=List.length_erase_of_mem c
   have d:=List.length_pos_of_mem c
   omega
  ·have:=C0 n l b fun k a=>by
    have f:=h k a
    have d:k≠n:=fun e=>by subst e;exact c a
    omega
   omega
theorem Q8f {m:Region.Mode} {e:Edge} (h:Region.binds .any e=true):Region.binds m e=true:=by
 unfold Region.binds at h⊢
 cases a:e.ground<;>rw[a] at h<;>first | rfl | (exact absurd h (by simp<;>rfl)) | (simp at h;cases h)
theorem Q7k {m:Region.Mode} {ops:List Oper} {L:List Nat} (h:G7 m ops L=true) (k:Nat) (a:k<ops.length): ∀e∈(ops[k]?.map fun o=>o.after.toList).getD [],Region.binds m e=true→e.on<ops.length:=by
 intro e b c
 simp only[G7,Bool.and_eq_true,List.all_eq_true] at h
 rw[List.getElem?_eq_getElem a] at b
 have:=h.2 ops[k] (List.getElem_mem a) e (by simpa using b)
 rw[c] at this
 simpa using this
theorem Q4B {m:Region.Mode} {ops:List Oper} {L:List Nat} (h:G7 m ops L=true): ∀k,k<ops.length→k∈L:=by
 intro k a
 simp only[G7,Bool.and_eq_true,List.all_eq_true] at h
 simpa using h.1.2 k (by simpa using a)
theorem Q5R (m:Region.Mode) (ops:Array Oper) (Q:Zu ops.toList=true) (L0:List Nat) (O:G7 m ops.toList L0=true): ∀(fuel t:Nat) (listed:Array Bool) (a:List Nat),
 fuel+a.length=ops.size→listed.size=ops.size→(∀i,i<ops.size→(listed.getD i true=true↔i∈a))→a.Nodup→(∀i∈a,i<ops.size)→Dz ops.toList a.reverse→
 (Region.linearise.go m ops fuel t listed a).Nodup∧(Region.linearise.go m ops fuel t listed a).length=ops.size∧Dz ops.toList (Region.linearise.go m ops fuel t listed a)
 | 0,t,listed,a,hf,_,_,Z,_,X=>by
  simp only[Region.linearise.go]
  exact ⟨List.pairwise_reverse.2 (Z.imp fun h=>Ne.symm h),by simp;omega,X⟩
 | fuel+1,t,listed,a,hf,v,B,Z,H,X=>by
  -- one that isn't listed may come
  have U: ∃k,k<ops.size∧k∉a:=by
   refine Classical.byContradiction fun ab=>?_
   have D: ∀k,k<ops.size→k∈a:=fun k hk=>Classical.byContradiction fun h=>ab ⟨k,hk,h⟩
   have:=Uj ops.size a D
   omega
  simp only[Region.linearise.go]
  split
  ·rename_i i hi
   have l:=List.mem_of_getElem? hi
   simp only[List.mem_filter,List.mem_range,Bool.and_eq_true,Bool.not_eq_true'] at l
   obtain ⟨d,u,p⟩:=l
   have N:i∉a:=fun h=>by rw[(B i d).2 h] at u;cases u
   refine Q5R m ops Q L0 O fuel _ _ _ (by simp;omega) (by simp[v]) ?_ (List.nodup_cons.2 ⟨N,Z⟩) ?_ ?_
   ·intro j hj
    by_cases r:i=j
    ·subst r;simp[Array.getD,v,d]
    ·have:(listed.setIfInBounds i true).getD j true=listed.getD j true:=by
      simp only[Array.getD_eq_getD_getElem?]
      rw[Array.getElem?_setIfInBounds_ne r]
     rw[this,B j hj]
     simp[Ne.symm r]
   ·intro j hj
    rcases List.mem_cons.1 hj with rfl | hj
    ·exact d
    ·exact H j hj
   ·rw[List.reverse_cons]
    intro Y j w hL k hk
    rcases List.eq_nil_or_concat w with rfl | ⟨n,x,rfl⟩
    ·have hh:=List.append_inj' hL rfl
     obtain ⟨h1,h2⟩:=hh
     simp only[List.cons.injEq,and_true] at h2
     subst h2;subst h1
     have aa:=hk
     unfold I1 at hk
     rw[show ops.toList[i]? =some ops[i] by simp[d]] at hk
     simp only[Option.map_some,Option.getD_some,List.mem_map,List.mem_filter] at hk
     obtain ⟨e,⟨f,ad⟩,rfl⟩:=hk
     rw[show ops[i]? =some ops[i] by simp[d]] at p
     simp only[Option.map_some,Option.getD_some,Array.all_eq_true'] at p
     have h4:=p e (by simpa using f)
     simp only[Bool.or_eq_true,Bool.not_eq_true'] at h4
     rcases h4 with h4 | h4
     ·rw[Q8f ad] at h4;cases h4
     ·have al:=Gb Q i (by simpa using d) e.on aa
      have:listed.getD e.on true=true:=by
       simp only[Array.getD_eq_getD_getElem?] at h4⊢
       rw[Array.getElem?_eq_getElem (by omega)] at h4⊢
       simpa using h4
      simpa using (B e.on (by omega)).1 this
    ·rw[List.concat_eq_append,←List.cons_append,←List.append_assoc] at hL
     have hh:=List.append_inj' hL rfl
     exact X Y j n hh.1 k hk
  ·rename_i q
   exfalso
   obtain ⟨k0,M,z⟩:=U
   have C:=O
   simp only[G7,Bool.and_eq_true] at C
   -- every number of L0 that is none of an operation's has no edges: it may stand there, but isn't looked at
   have g: ∃k,k<ops.size∧k∉a∧ ∀e∈(ops.toList[k]?.map fun o=>o.after.toList).getD [],Region.binds m e=true→e.on∈a∨ops.size≤e.on:=by
    -- the first of L0 that is an operation's number and isn't listed
    have key: ∀(L b:List Nat),Q3F m ops.toList L b=true→(∀k∈b,k∈a∨ops.size≤k)→(∃k∈L,k<ops.size∧k∉a)→
     ∃k,k<ops.size∧k∉a∧ ∀e∈(ops.toList[k]?.map fun o=>o.after.toList).getD [],Region.binds m e=true→e.on∈a∨ops.size≤e.on:=by
     intro L
     induction L with
     | nil=>rintro b _ _ ⟨k,hk,_⟩;simp at hk
     | cons j L ih=>
      rintro b h hs ⟨k,hk,W,E⟩
      simp only[Q3F,Bool.and_eq_true,List.all_eq_true] at h
      by_cases hj:j∈a∨ops.size≤j
      ·refine ih (j::b) h.2 (fun x hx=>by rcases List.mem_cons.1 hx with rfl | hx;exact hj;exact hs x hx) ⟨k,?_,W,E⟩
       rcases List.mem_cons.1 hk with rfl | hk
       ·rcases hj with hj | hj
        ·exact absurd hj E
        ·omega
       ·exact hk
      ·have ae:j<ops.size:=by
        refine Nat.lt_of_not_le fun h=>hj (.inr h)
       refine ⟨j,ae,fun h=>hj (.inl h),fun e Q R=>?_⟩
       have:=h.1 e Q
       rw[R] at this
       exact hs _ (by simpa using this)
    exact key L0 [] C.1.1 (by simp) ⟨k0,Q4B O k0 (by simpa using M),M,z⟩
   obtain ⟨k,c,V,s⟩:=g
   by_cases y:k∈(List.range ops.size).filter fun i=> !listed.getD i true&&((ops[i]?).map (·.after.all fun e=> !Region.binds m e||listed.getD e.on false)).getD false
   ·have J:=List.length_pos_of_mem y
    have:=List.getElem?_eq_none_iff.1 q
    have:=Nat.mod_lt t J
    omega
   ·refine y ?_
    simp only[List.mem_filter,List.mem_range,Bool.and_eq_true,Bool.not_eq_true']
    refine ⟨c,?_,?_⟩
    ·cases hc:listed.getD k true with
     | false=>rfl
     | true=>exact absurd ((B k c).1 hc) V
    ·rw[show ops[k]? =some ops[k] by simp[c]]
     simp only[Option.map_some,Option.getD_some,Array.all_eq_true']
     intro e f
     simp only[Bool.or_eq_true,Bool.not_eq_true']
     cases R:Region.binds m e with
     | false=>exact .inl rfl
     | true=>
      right
      rw[show ops.toList[k]? =some ops[k] by simp[c]] at s
      rcases s e (by simpa using f) R with h | h
      ·have A:=H _ h
       have:=(B e.on A).2 h
       simp only[Array.getD_eq_getD_getElem?] at this⊢
       rw[Array.getElem?_eq_getElem (by omega)] at this⊢
       simpa using this
      ·exact absurd h (by
        have:=Q7k O k (by simpa using c) e (by rw[show ops.toList[k]? =some ops[k] by simp[c]];simpa using f) R
        simp at this;omega)
theorem Q3j (b:Bool) (ops:Array Oper) (t:Nat) (g:Zu ops.toList=true) (f: ∀m,∃L,G7 m ops.toList L=true):
 (Region.schedule b ops t).Nodup∧(Region.schedule b ops t).length=ops.size∧Dz ops.toList (Region.schedule b ops t):=by
 have key: ∀m t,(Region.linearise m ops t).Nodup∧(Region.linearise m ops t).length=ops.size∧Dz ops.toList (Region.linearise m ops t):=by
  intro m t
  obtain ⟨L,c⟩:=f m
  refine Q5R m ops g L c _ _ _ _ (by simp) (by simp) ?_ List.nodup_nil (by simp) ?_
  ·intro i e;simp[Array.getD,e]
  ·intro d j a h;simp at h
 unfold Region.schedule
 split<;>exact key _ _
theorem Xc: ∀(ops:List Oper),Qj (O4 ops)=true→ ∀(i j:Nat) (a b:Oper) (d:Nat),ops[i]? =some a→ops[j]? =some b→a.dst=some d→b.dst=some d→i=j
 | [],_,i,j,a,b,d,h,_,_,_=>by simp at h
 | o::c,l,i,j,a,b,d,m,n,r,p=>by
  have f: ∀(k:Nat) (q:Oper),c[k]? =some q→q.dst=some d→d∈O4 c:=by
   intro k q t s
   simp only[O4,List.mem_filterMap]
   exact ⟨q,List.mem_of_getElem? t,s⟩
  have g:Qj (O4 c)=true:=by
   simp only[O4,List.filterMap_cons] at l
   split at l
   ·exact l
   ·simp only[Qj,Bool.and_eq_true] at l;exact l.2
  have e:o.dst=some d→d∉O4 c:=by
   intro v
   simp only[O4,List.filterMap_cons,v,Qj,Bool.and_eq_true,Bool.not_eq_true'] at l
   intro u
   have:=l.1
   simp only[List.contains_eq_mem,decide_eq_false_iff_not] at this
   exact this u
  cases i with
  | zero=>
   simp only[List.getElem?_cons_zero,Option.some.injEq] at m
   subst m
   cases j with
   | zero=>rfl
   | succ j=>exact absurd (f j b (by simpa using n) p) (e r)
  | succ i=>
   cases j with
   | zero=>
    simp only[List.getElem?_cons_zero,Option.some.injEq] at n
    subst n
    exact absurd (f i a (by simpa using m) r) (e p)
   | succ j=>rw[Xc c g i j a b d (by simpa using m) (by simpa using n) r p]
theorem Fx (u:Nat→Value): ∀(S:List Ent) (s:Nat),get (K0 u S) s=(getE S s).at u
 | [],s=>by simp[K0,get,getE,Ent.at]
 | e::S,0=>rfl
 | e::S,s+1=>Fx u S s
theorem Cx: ∀(S:List Ent) (s:Nat),getE S s=(S[s]?).getD (.val undef)
 | [],s=>by simp[getE]
 | e::S,0=>rfl
 | e::S,s+1=>by simp only[getE,List.getElem?_cons_succ];exact Cx S s
theorem Q05: ∀(S:List Ent) (n:Nat) (e:Ent),Q0Z S n e=S.set n e
 | [],n,e=>by simp[Q0Z]
 | x::S,0,e=>rfl
 | x::S,n+1,e=>by simp only[Q0Z,List.set_cons_succ,Q05 S n e]
theorem Q3e {x:Nat}: ∀{l:List Nat},x∈l→x∈Ay l
 | y::l,h=>by
  simp only[Ay,List.mem_cons,List.mem_filter]
  by_cases e:x=y
  ·exact .inl e
  ·exact .inr ⟨Q3e ((List.mem_cons.1 h).resolve_left e),by simpa using e⟩
theorem Rn {x:Nat}: ∀{l:List Nat},x∈Ay l→x∈l
 | y::l,h=>by
  simp only[Ay,List.mem_cons,List.mem_filter] at h⊢
  exact h.imp id fun h=>Rn h.1
theorem Q3a {S:List Ent} {j:Nat}: ∀{l:List Nat} {s:Nat},s∈l→getE S s= .ref j→j∈Q0a S l
 | x::l,s,h,e=>by
  simp only[Q0a,List.mem_append]
  rcases List.mem_cons.1 h with rfl | h
  ·left;rw[e];simp[Q3A]
  ·right;exact Q3a h e
theorem Hs {S:List Ent} {j:Nat}: ∀{l:List Nat},j∈Q0a S l→ ∃s∈l,getE S s= .ref j
 | x::l,h=>by
  simp only[Q0a,List.mem_append] at h
  rcases h with h | h
  ·refine ⟨x,by simp,?_⟩
   cases a:getE S x with
   | val v=>rw[a] at h;simp[Q3A] at h
   | ref k=>rw[a] at h;simp[Q3A] at h;rw[h]
  ·obtain ⟨s,b,e⟩:=Hs h
   exact ⟨s,by simp[b],e⟩
theorem Q12: ∀(a:List Nat) (b u:Nat→Value) (k:(Nat→Value)→Prop),Bs a b k→ ∃c,k c∧ ∀x,(x∈a→c x=u x)∧(x∉a→c x=b x)
 | [],b,u,k,h=>⟨b,h,fun x=>⟨fun h=>by simp at h,fun _=>rfl⟩⟩
 | j::a,b,u,k,h=>by
  obtain ⟨c,g,f⟩:=Q12 a _ u k (h (u j))
  refine ⟨c,g,fun x=>⟨fun hx=>?_,fun hx=>?_⟩⟩
  ·by_cases d:x∈a
   ·exact (f x).1 d
   ·rw[(f x).2 d]
    rcases List.mem_cons.1 hx with rfl | hx
    ·simp
    ·exact absurd hx d
  ·rw[(f x).2 (fun h=>hx (List.mem_cons_of_mem _ h))]
   have:x≠j:=fun e=>hx (by simp[e])
   simp[this]
theorem Q0W {e:Hc} {u:Nat→Value} {w:World} {a:Prop}: ∀{d:List Nat},Bc e u w a d→(∀j∈d,∀φ,Jb e j=some ([],φ)→φ [] (u j) w)→a
 | [],h,_=>h
 | j::d,h,c=>by
  simp only[Bc] at h
  split at h
  ·rename_i φ f
   exact Q0W (h (c j (by simp) φ f)) fun k b=>c k (by simp[b])
  ·exact Q0W h fun k b=>c k (by simp[b])
theorem Pv {e:Hc} {u:Nat→Value} {w:World} {a:Prop}: ∀{d:List Nat},Q0i e u w a d→(∀j∈d,∀R φ,Jb e j=some (R,φ)→φ (R.map u) (u j) w)→a
 | [],h,_=>h
 | j::d,h,c=>by
  simp only[Q0i] at h
  split at h
  ·rename_i R φ f
   exact Pv (h (c j (by simp) R φ f)) fun k b=>c k (by simp[b])
  ·exact Pv h fun k b=>c k (by simp[b])
theorem Gq {a:Hc} {i j:Nat} {φ:List Nat×(List Value→Value→World→Prop)} (h:i≠j):Jb (a++[(i,φ)]) j=Jb a j:=by
 induction a with
 | nil=>simp[Jb,h]
 | cons p a b=>obtain ⟨k,ψ⟩:=p;simp only[List.cons_append,Jb,b]
theorem Ww {a:Hc} {i:Nat} {φ:List Nat×(List Value→Value→World→Prop)} (h:Jb a i=none):Jb (a++[(i,φ)]) i=some φ:=by
 induction a with
 | nil=>simp[Jb]
 | cons p a c=>
  obtain ⟨k,ψ⟩:=p
  simp only[Jb] at h
  split at h
  ·cases h
  ·rename_i b;simp only[List.cons_append,Jb,b,if_false];exact c h
def Eb (S:List Ent) (i:Nat) (o:Oper):Ent:=match mv o with | some x=>entOf S x | none=> .ref i
def L2 (S:List Ent):Nat→List Oper→List Ent
 | _,[]=>S
 | i,o::a=>L2 (putE S o.dst (Eb S i o)) (i+1) a
theorem Q3c: ∀(a:List Oper) (S:List Ent) (i k:Nat) (o:Oper),a[k]? =some o→
 L2 S i (a.take (k+1))=putE (L2 S i (a.take k)) o.dst (Eb (L2 S i (a.take k)) (i+k) o)
 | [],_,_,_,_,h=>by simp at h
 | x::a,S,i,0,o,h=>by
  simp only[List.getElem?_cons_zero,Option.some.injEq] at h
  subst h
  simp[L2]
 | x::a,S,i,k+1,o,h=>by
  simp only[List.getElem?_cons_succ] at h
  have:=Q3c a (putE S x.dst (Eb S i x)) (i+1) k o h
  simp only[List.take_succ_cons,L2]
  rw[this,show i+1+k=i+(k+1) from by omega]
def Xk (S:List Ent) (D:List Nat):Prop:= ∀e∈S,∀j,e= .ref j→j∈D
theorem Xk.getE {S:List Ent} {D:List Nat} (h:Xk S D) {s j:Nat} (e:Go.Emb.getE S s= .ref j):j∈D:=by
 rw[Cx] at e
 cases a:S[s]? with
 | none=>rw[a] at e;cases e
 | some x=>rw[a] at e;exact h x (List.mem_of_getElem? a) j e
theorem Xk.putE {S:List Ent} {D:List Nat} (h:Xk S D) (d:Option Nat) {e:Ent} (c: ∀j,e= .ref j→j∈D):Xk (Go.Emb.putE S d e) D:=by
 cases d with
 | none=>exact h
 | some d=>
  intro x a j b
  simp only[Go.Emb.putE,Q05] at a
  rcases List.mem_or_eq_of_mem_set a with a | rfl
  ·exact h x a j b
  ·exact c j b
theorem Xk.mono {S:List Ent} {D a:List Nat} (h:Xk S D) (b: ∀j∈D,j∈a):Xk S a:=fun e c j d=>b j (h e c j d)
theorem Xk.entOf {S:List Ent} {D:List Nat} (h:Xk S D) (x:Operand) {j:Nat} (e:Go.Emb.entOf S x= .ref j):j∈D:=by
 cases x with
 | tmp t=>exact h.getE e
 | _=>cases e
theorem Q79 {S:List Ent} {D:List Nat} (h:Xk S D) {u a:Nat→Value} (b: ∀j∈D,a j=u j):K0 a S=K0 u S:=by
 unfold K0
 refine List.map_congr_left fun e c=>?_
 cases e with
 | val v=>rfl
 | ref j=>exact b j (h _ c j rfl)
theorem Q0J {P:Program} {ops:List Oper} {l l':List Value} {o:Oper} (e:Qo o.op=true) (h: ∀s∈O3 ops o++H8 o,get l s=get l' s):runOp P ops l o=runOp P ops l' o:=by
 funext w K
 unfold runOp
 rw[Nf e fun x f=>by
  cases x with
  | tmp s=>exact h s (List.mem_append_right _ (by simp only[H8,List.mem_filterMap];exact ⟨.tmp s,by simpa using f,rfl⟩))
  | _=>rfl]
 cases a:o.guard with
 | none=>rfl
 | some q=>
  obtain ⟨j,b⟩:=q
  simp only
  cases c:(ops[j]?).bind (·.dst) with
  | none=>rfl
  | some d=>simp only;rw[h d (List.mem_append_left _ (by simp[O3,a,c]))]
theorem Q1k {P:Program} {ops:List Oper} {l:List Value} {o:Oper} {w:World} {K d:Value→World→Prop} (a: ∀v w,K v w→d v w) (h:runOp P ops l o w K):runOp P ops l o w d:=by
 unfold runOp at*
 split at h
 ·exact B6 a h
 ·split at h
  ·exact As ((Vd h).imp (fun ⟨c,b⟩=>⟨c,B6 a b⟩) (fun ⟨c,b⟩=>⟨c,a _ _ b⟩))
  ·exact h.elim
theorem Q1r {P:Program} {ops:List Oper} {J7:List Value→World→Prop} {o:Oper} {a:List Oper} {l:List Value} {w:World}
 (h:runOp P ops l o w (fun v w=>Y3 P ops J7 a (put l o.dst v) w)):Y3 P ops J7 (o::a) l w:=by
 simp only[Y3]
 unfold runOp at h
 cases c:o.guard with
 | none=>simp only[c] at h⊢;exact h
 | some q=>
  obtain ⟨j,b⟩:=q
  simp only[c] at h⊢
  split at h
  ·rename_i d e
   first | exact h | (simp only[e];exact h) | (rw[e];exact h)
  ·exact h.elim
structure Whole (P : Program) (ops : List Oper) (T : World → World → Prop) (B : World → Prop) (J7 : List Value → World → Prop) (tail : List Oper) (Φ : Nat → (Nat → Value) → World → Prop) (S : List Ent) (i : Nat) (rest : List Oper) (D : List Nat) : Prop where
  stable : ∀ k o, rest[k]? = some o → mv o = none → ∀ u w w', Φ (i + k) u w → T w w' → Φ (i + k) u w'
  loc : ∀ k o, rest[k]? = some o → mv o = none → ∀ u u', (∀ r ∈ (i + k) :: refs ops (L2 S i (rest.take k)) o, u r = u' r) → Φ (i + k) u = Φ (i + k) u'
  run : ∀ k o, rest[k]? = some o → mv o = none → Qo o.op = true → ∀ u w, B w → (∀ j ∈ refs ops (L2 S i (rest.take k)) o, Φ j u w) →
    runOp P ops (K0 u (L2 S i (rest.take k))) o w (fun v w' => T w w' ∧ ∀ u', (∀ r ∈ refs ops (L2 S i (rest.take k)) o, u' r = u r) → u' (i + k) = v → Φ (i + k) u' w')
  last : ∀ u w, B w → (∀ j ∈ D, Φ j u w) → (∀ k o, rest[k]? = some o → mv o = none → Φ (i + k) u w) → Y3 P ops J7 tail (K0 u (L2 S i rest)) w
theorem Px (P:Program) (ops:List Oper) (T:World→World→Prop) (B:World→Prop) (J7:List Value→World→Prop) (tail:List Oper): ∀(d:List Oper) (i:Nat) (S:List Ent) (m:Hc) (done:List Nat),
 Xk S done→(∀j,j∈done→j<i∧ ∃φ,Jb m j=some φ)→(∀j φ,Jb m j=some φ→j<i∧ ∀r∈φ.1,r∈done)→chain P ops T B J7 tail i d S m done→
 ∃Φ:Nat→(Nat→Value)→World→Prop,(∀j R φ,Jb m j=some (R,φ)→Φ j=fun u w=>φ (R.map u) (u j) w)∧Whole P ops T B J7 tail Φ S i d done
 | [],i,S,m,done,J,V,E,h=>by
  refine ⟨fun j u w=>match Jb m j with | some (R,φ)=>φ (R.map u) (u j) w | none=>True,fun j R φ hj=>by simp[hj],⟨by simp,by simp,by simp,?_⟩⟩
  intro u w hB D _
  obtain ⟨t,q,g⟩:=Q12 done _ u _ h
  have p:=Pv (q w hB) fun j hj R φ N=>by
   have:=D j hj
   simp only[N] at this
   rw[(g j).1 hj,show R.map t=R.map u from List.map_congr_left fun r f=>(g r).1 ((E j _ N).2 r f)];exact this
  rw[Q79 J fun j hj=>(g j).1 hj,Dg] at p
  exact p
 | o::d,i,S,m,done,J,V,E,h=>by
  simp only[chain] at h
  cases z:mv o with
  | some x=>
   simp only[z] at h
   have c:Eb S i o=entOf S x:=by simp[Eb,z]
   obtain ⟨Φ,q,g⟩:=Px P ops T B J7 tail d (i+1) _ m done (J.putE _ fun j hj=>J.entOf x hj) (fun j hj=>⟨by have:=(V j hj).1;omega,(V j hj).2⟩) (fun j φ hj=>⟨by have:=(E j φ hj).1;omega,(E j φ hj).2⟩) h
   refine ⟨Φ,q,⟨?_,?_,?_,?_⟩⟩
   ·intro k l b a
    cases k with
    | zero=>simp only[List.getElem?_cons_zero,Option.some.injEq] at b;subst b;rw[z] at a;cases a
    | succ k=>have:=g.stable k l (by simpa using b) a;rwa [show i+1+k=i+(k+1) from by omega] at this
   ·intro k l b a u t L
    cases k with
    | zero=>simp only[List.getElem?_cons_zero,Option.some.injEq] at b;subst b;rw[z] at a;cases a
    | succ k=>
     simp only[List.take_succ_cons,L2,c] at L
     have:=g.loc k l (by simpa using b) a u t (by rwa [show i+1+k=i+(k+1) from by omega])
     rwa [show i+1+k=i+(k+1) from by omega] at this
   ·intro k l b a y u w hB f
    cases k with
    | zero=>simp only[List.getElem?_cons_zero,Option.some.injEq] at b;subst b;rw[z] at a;cases a
    | succ k=>
     simp only[List.take_succ_cons,L2,c] at f⊢
     have:=g.run k l (by simpa using b) a y u w hB f
     rwa [show i+1+k=i+(k+1) from by omega] at this
   ·intro u w hB D O
    simp only[L2,c]
    refine g.last u w hB D fun k l b a=>?_
    have:=O (k+1) l (by simpa using b) a
    rwa [show i+(k+1)=i+1+k from by omega] at this
  | none=>
   have h': ∃(R:List Nat) (φ:List Value→Value→World→Prop),(∀r∈R,r∈refs ops S o)∧(∀xs,Zl T (φ xs))∧
    (Bs (refs ops S o) (fun _=>undef) fun u=> ∀w,B w→Bc m u w (runOp P ops (K0 u S) o w (dk T (φ (R.map u)) w)) (refs ops S o))∧
    chain P ops T B J7 tail (i+1) d (putE S o.dst (.ref i)) (m++[(i,R,φ)]) (done++[i]):=by
    cases Q:Q4w o with
    | true=>
     simp only[z,Q,Q67,Q2h] at h
     obtain ⟨φ,q,g,p⟩:=h
     exact ⟨_,φ,fun _ h=>h,q,g,p⟩
    | false=>
     simp only[z,Q,Q7R,Q3R] at h
     obtain ⟨φ,q,g,p⟩:=h
     exact ⟨[],fun _=>φ,by simp,fun _=>q,g,p⟩
   clear h
   obtain ⟨R,φ,U,ac,M,h⟩:=h'
   have ab: ∀r∈refs ops S o,r∈done:=fun r f=>by
    obtain ⟨s,_,Z⟩:=Hs (Rn f)
    exact J.entOf (.tmp s) Z
   have c:Eb S i o= .ref i:=by simp[Eb,z]
   have n:Jb m i=none:=by
    cases D:Jb m i with
    | none=>rfl
    | some ψ=>have:=(E i ψ D).1;omega
   obtain ⟨Φ,q,g⟩:=Px P ops T B J7 tail d (i+1) _ (m++[(i,R,φ)]) (done++[i])
    ((J.mono fun j hj=>List.mem_append_left _ hj).putE _ fun j hj=>by cases hj;simp)
    (fun j hj=>by
     rcases List.mem_append.1 hj with hj | hj
     ·obtain ⟨p,ψ,H⟩:=V j hj
      exact ⟨by omega,ψ,by rw[Gq (by omega)];exact H⟩
     ·simp at hj;subst hj;exact ⟨by omega,(R,φ),Ww n⟩)
    (fun j ψ hj=>by
     by_cases e:i=j
     ·subst e
      rw[Ww n] at hj;cases hj
      exact ⟨by omega,fun r f=>List.mem_append_left _ (ab r (U r f))⟩
     ·rw[Gq e] at hj
      obtain ⟨p,H⟩:=E j ψ hj
      exact ⟨by omega,fun r f=>List.mem_append_left _ (H r f)⟩) h
   have C:Φ i=fun u w=>φ (R.map u) (u i) w:=q i R φ (Ww n)
   have A: ∀j W ψ,Jb m j=some (W,ψ)→Φ j=fun u w=>ψ (W.map u) (u j) w:=fun j W ψ hj=>q j W ψ (by rw[Gq (by have:=(E j _ hj).1;omega)];exact hj)
   refine ⟨Φ,A,⟨?_,?_,?_,?_⟩⟩
   ·intro k l b a
    cases k with
    | zero=>
     intro u w w' ha hT
     rw[Nat.add_zero,C] at ha⊢
     exact ac _ _ _ _ ha hT
    | succ k=>have:=g.stable k l (by simpa using b) a;rwa [show i+1+k=i+(k+1) from by omega] at this
   ·intro k l b a u t L
    cases k with
    | zero=>
     simp only[List.getElem?_cons_zero,Option.some.injEq] at b
     subst b
     simp only[List.take_zero,L2,Nat.add_zero] at L
     rw[Nat.add_zero,C]
     funext w
     show φ (R.map u) (u i) w=φ (R.map t) (t i) w
     rw[show R.map u=R.map t from List.map_congr_left fun r f=>L r (List.mem_cons_of_mem _ (U r f)),L i (by simp)]
    | succ k=>
     simp only[List.take_succ_cons,L2,c] at L
     have:=g.loc k l (by simpa using b) a u t (by rwa [show i+1+k=i+(k+1) from by omega])
     rwa [show i+1+k=i+(k+1) from by omega] at this
   ·intro k l b a y u w hB f
    cases k with
    | zero=>
     simp only[List.getElem?_cons_zero,Option.some.injEq] at b
     subst b
     simp only[List.take_zero,L2,Nat.add_zero] at f⊢
     obtain ⟨t,p,H⟩:=Q12 _ _ u _ M
     have h5:=Q0W (p w hB) fun j hj ψ hψ=>by
      have h6:=f j hj
      rw[A j [] ψ hψ] at h6
      rw[(H j).1 hj];exact h6
     rw[Q0J y (l':=K0 u S)] at h5
     ·refine Q1k ?_ h5
      rintro v w' ⟨hT,hf⟩
      refine ⟨hT,fun X Y hi=>?_⟩
      rw[C]
      show φ (R.map X) (X i) w'
      rw[hi,show R.map X=R.map t from List.map_congr_left fun r f=>by rw[Y r (U r f),(H r).1 (U r f)]]
      exact hf
     ·intro s Q
      rw[Fx,Fx]
      cases Z:getE S s with
      | val v=>rfl
      | ref j=>exact (H j).1 (Q3e (Q3a Q Z))
    | succ k=>
     simp only[List.take_succ_cons,L2,c] at f⊢
     have:=g.run k l (by simpa using b) a y u w hB f
     rwa [show i+1+k=i+(k+1) from by omega] at this
   ·intro u w hB D O
    simp only[L2,c]
    refine g.last u w hB (fun j hj=>?_) fun k l b a=>?_
    ·rcases List.mem_append.1 hj with hj | hj
     ·exact D j hj
     ·simp at hj;subst hj
      have:=O 0 o (by simp) z
      simpa using this
    ·have:=O (k+1) l (by simpa using b) a
     rwa [show i+(k+1)=i+1+k from by omega] at this
def K7 (os:List Oper) (S0:List Ent) (q:Nat):Ent:=
 match os[q]? with
 | some o=>Eb (L2 S0 0 (os.take q)) q o
 | none=> .val undef
theorem Q61 {os:List Oper} {S0:List Ent} {q:Nat} {o:Oper} (h:os[q]? =some o):L2 S0 0 (os.take (q+1))=putE (L2 S0 0 (os.take q)) o.dst (K7 os S0 q):=by
 rw[Q3c os S0 0 q o h]
 simp[K7,h]
theorem Q5l (S:List Ent) (d:Option Nat) (e:Ent):(putE S d e).length=S.length:=by
 cases d with
 | none=>rfl
 | some d=>simp[putE,Q05]
theorem Fu (os:List Oper) (S0:List Ent): ∀q,q≤os.length→(L2 S0 0 (os.take q)).length=S0.length
 | 0,_=>by simp[L2]
 | q+1,h=>by rw[Q61 (List.getElem?_eq_getElem (by omega)),Q5l,Fu os S0 q (by omega)]
theorem Dp {os:List Oper} {S0:List Ent} (r:Qj (O4 os)=true) (u: ∀d∈O4 os,d<S0.length): ∀q,q≤os.length→
 (∀p,p<q→ ∀o d,os[p]? =some o→o.dst=some d→(L2 S0 0 (os.take q))[d]? =some (K7 os S0 p))∧
  (∀s,(∀p,p<q→ ∀o,os[p]? =some o→o.dst≠some s)→(L2 S0 0 (os.take q))[s]? =S0[s]?)
 | 0,_=>⟨fun p i=>absurd i (by omega),fun s _=>by simp[L2]⟩
 | q+1,h=>by
  obtain ⟨t,n⟩:=Dp r u q (by omega)
  have k:os[q]? =some os[q]:=List.getElem?_eq_getElem (by omega)
  have g:=Fu os S0 q (by omega)
  rw[Q61 k]
  cases c:os[q].dst with
  | none=>
   refine ⟨fun p i o d b a=>?_,fun s l=>n s fun p i=>l p (by omega)⟩
   by_cases e:p=q
   ·subst e;rw[k] at b;cases b;rw[c] at a;cases a
   ·exact t p (by omega) o d b a
  | some j=>
   have m:j<S0.length:=u j (by simp only[O4,List.mem_filterMap];exact ⟨os[q],List.getElem_mem _,c⟩)
   simp only[putE,Q05]
   refine ⟨fun p i o d b a=>?_,fun s l=>?_⟩
   ·by_cases e:p=q
    ·subst e;rw[k] at b;cases b;rw[c] at a;cases a
     rw[List.getElem?_set_self (by rw[g];exact m)]
    ·have f:j≠d:=by
      rintro rfl
      exact e (Xc os r p q o os[q] j b k a c)
     rw[List.getElem?_set_ne f]
     exact t p (by omega) o d b a
   ·have f:j≠s:=fun e=>l q (by omega) os[q] k (by rw[c,e])
    rw[List.getElem?_set_ne f]
    exact n s fun p i=>l p (by omega)
def Wn (os:List Oper) (p:Nat):Bool:=
 match os[p]? with
 | some o=>match mv o with
  | some (.tmp s)=> !(O4 os).contains s
  | some _=>true
  | none=>false
 | none=>false
theorem X1i {P:Program} {o:Oper} {x:Operand} (h:mv o=some x) (l:List Value) (w:World) (K:Value→World→Prop):o.guard=none∧V2 P l o w K=K (ev l x) w:=by
 unfold mv at h
 split at h
 ·cases h
 ·rename_i b
  refine ⟨b,?_⟩
  split at h
  ·rename_i y a;cases h;simp only[V2,a]
  ·rename_i y a;cases h;simp only[V2,a]
  ·cases h
theorem Q5i {P:Program} {ops:List Oper} {J7:List Value→World→Prop} {o:Oper} {c a:List Oper} {l l':List Value} {w:World} (r:Qo o.op=true) (m: ∀s∈O3 ops o++H8 o,get l' s=get l s)
 (f: ∀v w,Y3 P ops J7 c (put l o.dst v) w→Y3 P ops J7 a (put l' o.dst v) w) (h:Y3 P ops J7 (o::c) l w):Y3 P ops J7 (o::a) l' w:=by
 have n:V2 P l' o=V2 P l o:=Nf r fun x p=>by
  cases x with
  | tmp s=>exact m s (List.mem_append_right _ (by simp only[H8,List.mem_filterMap];exact ⟨.tmp s,by simpa using p,rfl⟩))
  | _=>rfl
 simp only[Y3] at h⊢
 cases e:o.guard with
 | none=>simp only[e] at h⊢;rw[n];exact B6 f h
 | some q=>
  obtain ⟨j,b⟩:=q
  simp only[e] at h⊢
  cases k:(ops[j]?).bind (·.dst) with
  | none=>simp only[k] at h⊢;exact f _ _ h
  | some d=>
   simp only[k] at h⊢
   rw[m d (List.mem_append_left _ (by simp[O3,e,k])),n]
   exact As ((Vd h).imp (fun ⟨i,g⟩=>⟨i,B6 f g⟩) (fun ⟨i,g⟩=>⟨i,f _ _ g⟩))
structure At (os : List Oper) (l0 : List Value) (pre : List Nat) (l : List Value) (u : Nat → Value) : Prop where
  len : l.length = l0.length
  done : ∀ p ∈ pre, ∀ o d, os[p]? = some o → o.dst = some d → l[d]? = some ((K7 os (l0.map .val) p).at u)
  rest : ∀ s, (∀ p ∈ pre, ∀ o, os[p]? = some o → o.dst ≠ some s) → l[s]? = l0[s]?
  refs : ∀ p ∈ pre, ∀ r, K7 os (l0.map .val) p = .ref r → r ∈ pre ∧ ∃ o, os[r]? = some o ∧ mv o = none
theorem X2i {P:Program} {ops os:List Oper} {T:World→World→Prop} {B:World→Prop} {J7:List Value→World→Prop} {m:Nat} {C:List Value} {Φ:Nat→(Nat→Value)→World→Prop}
 (bit:Nat→Nat→Bool) (bo: ∀o∈os,Qo o.op=true) (hn:Qj (O4 os)=true) (hd: ∀d∈O4 os,d<C.length)
 (ad: ∀p q a b,p<q→os[p]? =some a→os[q]? =some b→(K3 a b||K3 b a)=true→bit p q=true)
 (hg: ∀q o j b,os[q]? =some o→o.guard=some (j,b)→ ∃p,p<q∧os[p]? =ops[j]? ∧bit p q=true)
 (hm:m≤os.length) (ak: ∀q,m≤q→q<os.length→ ∀p,p<q→bit p q=true∨(p<m∧Wn os p=true))
 (hT: ∀w w',B w→T w w'→B w') (hW:Whole P ops T B J7 (os.drop m) Φ (C.map .val) 0 (os.take m) [])
 (L:List Nat) (H:L.Nodup) (br:L.length=os.length) (ac: ∀q∈L,q<os.length)
 (hC: ∀c q f,L=c++q::f→ ∀p,bit p q=true→p<os.length→p∈c):
 ∀(f c:List Nat),L=c++f→(∀q∈c,q<m)→ ∀(l:List Value) (u:Nat→Value) (w:World),At os C c l u→B w→
  (∀r∈c,∀o,os[r]? =some o→mv o=none→Φ r u w∧ ∀j∈refs ops (L2 (C.map .val) 0 (os.take r)) o,j∈c)→Y3 P ops J7 (f.filterMap (os[·]?)) l w:=by
 have a9: ∀d∈O4 os,d<(C.map Ent.val).length:=by simpa using hd
 have a0: ∀q,q≤m→(os.take m).take q=os.take q:=fun q hq=>by rw[List.take_take,Nat.min_eq_left hq]
 have U: ∀q,q<m→(os.take m)[q]? =os[q]? :=fun q hq=>by rw[List.getElem?_take_of_lt hq]
 -- when all of the first part is done
 have cp: ∀(c f:List Nat),L=c++f→(∀q∈c,q<m)→(∀q,q<m→q∈c)→ ∀l u w,At os C c l u→B w→
  (∀r∈c,∀o,os[r]? =some o→mv o=none→Φ r u w∧ ∀j∈refs ops (L2 (C.map .val) 0 (os.take r)) o,j∈c)→Y3 P ops J7 (f.filterMap (os[·]?)) l w:=by
  intro c f E D an l u w hA hB hΦ
  have b4: ∀(f c:List Nat),L=c++f→m≤c.length→(∀q,q∈c↔q<c.length)→f.filterMap (os[·]?)=os.drop c.length:=by
   intro f
   induction f with
   | nil=>
    intro c E _ _
    rw[List.append_nil] at E
    rw[←E,br];simp
   | cons q f ih=>
    intro c E c6 a2
    have cs:q∉c:=by
     rw[E] at H
     intro h
     exact (List.nodup_append.1 H).2.2 q h q (by simp) rfl
    have co:c.length≤q:=Nat.le_of_not_lt fun h=>cs ((a2 q).2 h)
    have V:=ac q (by rw[E];simp)
    have cr:q=c.length:=by
     refine Nat.le_antisymm (Nat.le_of_not_lt fun h=>?_) co
     have:=hC c q f E c.length ((ak q (by omega) V _ h).resolve_right (by omega)) (by omega)
     have:=(a2 _).1 this
     omega
    subst cr
    rw[List.filterMap_cons,List.getElem?_eq_getElem V]
    simp only
    rw[ih (c++[c.length]) (by rw[E];simp) (by simp;omega) (by intro x;simp only[List.mem_append,a2,List.mem_singleton,List.length_append,List.length_cons,List.length_nil];omega)]
    simp only[List.length_append,List.length_cons,List.length_nil]
    rw[←List.drop_eq_getElem_cons V]
  have bd:c.length=m:=by
   have J:=C0 m c (by rw[E] at H;exact (List.nodup_append.1 H).1) D
   have R:=Uj m c an
   omega
  have J:=b4 f c E (by omega) (fun q=>by rw[bd];exact ⟨D q,an q⟩)
  rw[J,bd]
  have R:=hW.last u w hB (by simp) fun k o hk t=>by
   have a1:k<m:=by
    have:=(List.getElem?_eq_some_iff.1 hk).1
    simp at this;omega
   rw[Nat.zero_add]
   rw[U k a1] at hk
   exact (hΦ k (an k a1) o hk t).1
  have h3:l=K0 u (L2 (C.map .val) 0 (os.take m)):=by
   obtain ⟨g1,g2⟩:=Dp hn a9 m hm
   apply List.ext_getElem?
   intro s
   rw[K0,List.getElem?_map]
   by_cases hs: ∃p,p<m∧ ∃o,os[p]? =some o∧o.dst=some s
   ·obtain ⟨p,hp,o,i,z⟩:=hs
    rw[hA.done p (an p hp) o s i z,g1 p hp o s i z];rfl
   ·have af: ∀p,p<m→ ∀o,os[p]? =some o→o.dst≠some s:=fun p hp o i z=>hs ⟨p,hp,o,i,z⟩
    rw[hA.rest s (fun p hp=>af p (D p hp)),g2 s af,List.getElem?_map]
    cases C[s]? <;>rfl
  rw[h3];exact R
 -- moves that come late, among the tail
 have ch: ∀(f c:List Nat) (k:Nat),L=c++f→m≤k→k≤os.length→(∀q,m≤q→(q∈c↔q<k))→(∀p∈f,p<m→Wn os p=true)→
  ∀(l lf:List Value) (w:World),l.length=C.length→lf.length=C.length→(∀s,(∀p∈f,p<m→ ∀o,os[p]? =some o→o.dst≠some s)→l[s]? =lf[s]?)→
   (∀p∈f,p<m→ ∀o d x,os[p]? =some o→mv o=some x→o.dst=some d→lf[d]? =some (ev C x))→(∀s,(O4 os).contains s=false→l[s]? =C[s]?)→
   Y3 P ops J7 (os.drop k) lf w→Y3 P ops J7 (f.filterMap (os[·]?)) l w:=by
  intro f
  induction f with
  | nil=>
   intro c k E a7 bl ab _ l lf w hl a8 ap _ _ h
   rw[List.append_nil] at E
   have hk:k=os.length:=by
    refine Nat.le_antisymm bl (Nat.le_of_not_lt fun D=>?_)
    have cw:k∉c:=fun e=>by have:=(ab k a7).1 e;omega
    have J:=C0 os.length (k::c) (List.nodup_cons.2 ⟨cw,E▸H⟩) (fun x hx=>by
     rcases List.mem_cons.1 hx with rfl | hx
     ·exact D
     ·exact ac x (by rw[E];exact hx))
    simp at J
    rw[E] at br;omega
   have:l=lf:=List.ext_getElem? fun s=>ap s (by simp)
   rw[this]
   rw[hk,List.drop_length] at h
   exact h
  | cons q f ih=>
   intro c k E a7 bl ab am l lf w hl a8 ap a4 aa h
   have O:q∉c:=by
    rw[E] at H
    intro h
    exact (List.nodup_append.1 H).2.2 q h q (by simp) rfl
   have ck:q∉f:=by
    rw[E] at H
    exact (List.nodup_cons.1 (List.nodup_append.1 H).2.1).1
   have V:=ac q (by rw[E];simp)
   have A:os[q]? =some os[q]:=List.getElem?_eq_getElem V
   have ca:L=(c++[q])++f:=by rw[E];simp
   rw[List.filterMap_cons,A]
   simp only
   by_cases Z:q<m
   ·-- a late move
    have D:=am q (by simp) Z
    unfold Wn at D
    rw[A] at D
    simp only at D
    cases t:mv os[q] with
    | none=>rw[t] at D;cases D
    | some x=>
     rw[t] at D
     have hx:ev l x=ev C x:=by
      cases x with
      | tmp s=>
       simp only[Bool.not_eq_true'] at D
       simp only[ev,get,List.getD_eq_getElem?_getD,aa s D]
      | _=>rfl
     obtain ⟨a6,az⟩:=X1i (P:=P) t l w (fun v w=>Y3 P ops J7 (f.filterMap (os[·]?)) (put l os[q].dst v) w)
     simp only[Y3,a6]
     rw[az,hx]
     refine ih (c++[q]) k ca a7 bl (fun q' ay=>?_) (fun p hp=>am p (by simp[hp])) _ lf w ?_ a8 (fun s hs=>?_) (fun p hp=>a4 p (by simp[hp])) (fun s hs=>?_) h
     ·rw[←ab q' ay];simp only[List.mem_append,List.mem_singleton]
      exact ⟨fun e=>e.resolve_right (by omega), .inl⟩
     ·cases g:os[q].dst<;>simp[put,hl]
     ·cases g:os[q].dst with
      | none=>
       refine ap s fun p hp M o i=>?_
       rcases List.mem_cons.1 hp with rfl | hp
       ·rw[A] at i;cases i;rw[g];simp
       ·exact hs p hp M o i
      | some d=>
       have ar:d<C.length:=hd d (by simp only[O4,List.mem_filterMap];exact ⟨os[q],List.getElem_mem _,g⟩)
       simp only[put]
       by_cases e:d=s
       ·subst e
        rw[List.getElem?_set_self (by rw[hl];exact ar)]
        exact (a4 q (by simp) Z os[q] d x A t g).symm
       ·rw[List.getElem?_set_ne e]
        refine ap s fun p hp M o i=>?_
        rcases List.mem_cons.1 hp with rfl | hp
        ·rw[A] at i;cases i;rw[g];simpa using e
        ·exact hs p hp M o i
     ·cases g:os[q].dst with
      | none=>exact aa s hs
      | some d=>
       have ah:(O4 os).contains d=true:=by
        rw[List.contains_iff_mem];simp only[O4,List.mem_filterMap];exact ⟨os[q],List.getElem_mem _,g⟩
       simp only[put]
       rw[List.getElem?_set_ne (by rintro rfl;rw[hs] at ah;cases ah)]
       exact aa s hs
   ·have Z:m≤q:=by omega
    have cm:q=k:=by
     have J:k≤q:=Nat.le_of_not_lt fun e=>O ((ab q Z).2 e)
     refine Nat.le_antisymm (Nat.le_of_not_lt fun e=>?_) J
     have:=hC c q f E k ((ak q Z V k e).resolve_right (by omega)) (by omega)
     have:=(ab k a7).1 this
     omega
    subst cm
    rw[List.drop_eq_getElem_cons V] at h
    have b7: ∀p∈f,p<m→bit p q=true→False:=fun p hp M hb=>by
     have:=hC c q f E p hb (by omega)
     rw[E] at H
     exact (List.nodup_append.1 H).2.2 p this p (by simp[hp]) rfl
    refine Q5i (bo _ (List.getElem_mem _)) (fun s hs=>?_) (fun v w' hv=>?_) h
    ·have:l[s]? =lf[s]? :=ap s fun p hp M o i z=>by
      rcases List.mem_cons.1 hp with rfl | hp
      ·omega
      refine b7 p hp M ?_
      rcases List.mem_append.1 hs with hs | hs
      ·unfold O3 at hs
       split at hs
       ·simp at hs
       ·rename_i j b bm
        split at hs
        ·rename_i d bn
         simp only[List.mem_singleton] at hs
         subst hs
         obtain ⟨p',ao,bk,hb⟩:=hg q os[q] j b A bm
         obtain ⟨o',bp,cc⟩:=Option.bind_eq_some_iff.1 bn
         have:=Xc os hn p' p o' o s (by rw[bk,bp]) i cc z
         subst this;exact hb
        ·simp at hs
      ·exact ad p q o os[q] (by omega) i A (by simp only[K3,z,Bool.or_eq_true];left;left;simpa using hs)
     simp only[get,List.getD_eq_getElem?_getD,this]
    ·refine ih (c++[q]) (q+1) ca (by omega) (by omega) (fun q' ay=>?_) (fun p hp=>am p (by simp[hp])) _ _ w' ?_ ?_ (fun s hs=>?_) (fun p hp M o d x i bb z=>?_) (fun s hs=>?_) hv
     ·simp only[List.mem_append,List.mem_singleton,ab q' ay];omega
     ·cases g:os[q].dst<;>simp[put,hl]
     ·cases g:os[q].dst<;>simp[put,a8]
     ·have hb:l[s]? =lf[s]? ∨os[q].dst=some s:=by
       left
       refine ap s fun p hp M o i=>?_
       rcases List.mem_cons.1 hp with rfl | hp
       ·omega
       ·exact hs p hp M o i
      cases g:os[q].dst with
      | none=>
       rcases hb with hb | hb
       ·exact hb
       ·rw[g] at hb;cases hb
      | some d=>
       simp only[put]
       by_cases e:d=s
       ·subst e
        have ar:d<C.length:=hd d (by simp only[O4,List.mem_filterMap];exact ⟨os[q],List.getElem_mem _,g⟩)
        rw[List.getElem?_set_self (by rw[hl];exact ar),List.getElem?_set_self (by rw[a8];exact ar)]
       ·rw[List.getElem?_set_ne e,List.getElem?_set_ne e]
        rcases hb with hb | hb
        ·exact hb
        ·rw[g] at hb;cases hb;exact absurd rfl e
     ·have b0:=a4 p (by simp[hp]) M o d x i bb z
      cases g:os[q].dst with
      | none=>exact b0
      | some d'=>
       have Y:d'≠d:=by
        rintro rfl
        have:=Xc os hn p q o os[q] d' i A z g
        omega
       simp only[put]
       rw[List.getElem?_set_ne Y];exact b0
     ·cases g:os[q].dst with
      | none=>exact aa s hs
      | some d=>
       have ah:(O4 os).contains d=true:=by
        rw[List.contains_iff_mem];simp only[O4,List.mem_filterMap];exact ⟨os[q],List.getElem_mem _,g⟩
       simp only[put]
       rw[List.getElem?_set_ne (by rintro rfl;rw[hs] at ah;cases ah)]
       exact aa s hs
 intro f
 induction f with
 | nil=>
  intro c E D l u w hA hB hΦ
  refine cp c [] E D ?_ l u w hA hB hΦ
  intro q hq
  rw[List.append_nil] at E
  refine Classical.byContradiction fun aw=>?_
  have J:=C0 os.length (q::c) (List.nodup_cons.2 ⟨aw,E▸H⟩) (fun k hk=>by
   rcases List.mem_cons.1 hk with rfl | hk
   ·omega
   ·exact ac k (by rw[E];exact hk))
  simp at J
  rw[E] at br;omega
 | cons q f ih=>
  intro c E D l u w hA hB hΦ
  have O:q∉c:=by
   rw[E] at H
   intro h
   exact (List.nodup_append.1 H).2.2 q h q (by simp) rfl
  have V:=ac q (by rw[E];simp)
  by_cases Z:m≤q
  ·-- the tail begins
   have al: ∀p,p<m→p∉c→Wn os p=true:=fun p hp bv=>by
    rcases ak q Z V p (by omega) with h | h
    ·exact absurd (hC c q f E p h (by omega)) bv
    ·exact h.2
   have bg: ∀p,Wn os p=true→ ∀o,os[p]? =some o→ ∃x,mv o=some x∧ ∀s,x= .tmp s→(O4 os).contains s=false:=by
    intro p hp o i
    unfold Wn at hp
    rw[i] at hp
    simp only at hp
    cases N:mv o with
    | none=>rw[N] at hp;cases hp
    | some x=>
     refine ⟨x,rfl,fun s hs=>?_⟩
     subst hs
     rw[N] at hp;simpa using hp
   obtain ⟨g1,g2⟩:=Dp hn a9 m hm
   have bf: ∀s,(O4 os).contains s=false→ ∀(p:Nat) o,os[p]? =some o→o.dst≠some s:=by
    intro s hs p o i z
    have:(O4 os).contains s=true:=by
     rw[List.contains_iff_mem];simp only[O4,List.mem_filterMap]
     exact ⟨o,List.mem_of_getElem? i,z⟩
    rw[hs] at this;cases this
   refine ch (q::f) c m E (Nat.le_refl _) hm (fun q' ay=>⟨fun e=>D q' e,fun e=>absurd ay (by omega)⟩) (fun p hp M=>al p M fun e=>by
    rw[E] at H
    exact (List.nodup_append.1 H).2.2 p e p hp rfl) l (K0 u (L2 (C.map .val) 0 (os.take m))) w hA.len (by simp[K0,Fu os _ m hm]) (fun s hs=>?_) (fun p hp M o d x i bb z=>?_) (fun s hs=>?_) ?_
   ·rw[K0,List.getElem?_map]
    by_cases aq: ∃p,p<m∧ ∃o,os[p]? =some o∧o.dst=some s
    ·obtain ⟨p,hp,o,i,z⟩:=aq
     by_cases W:p∈c
     ·rw[hA.done p W o s i z,g1 p hp o s i z];rfl
     ·exfalso
      have b5:p∈L:=by
       refine Classical.byContradiction fun aw=>?_
       have J:=C0 os.length (p::L) (List.nodup_cons.2 ⟨aw,H⟩) (fun k hk=>by
        rcases List.mem_cons.1 hk with rfl | hk
        ·omega
        ·exact ac k hk)
       simp at J;omega
      rw[E] at b5
      rcases List.mem_append.1 b5 with h | h
      ·exact W h
      ·exact hs p h hp o i z
    ·have af: ∀p,p<m→ ∀o,os[p]? =some o→o.dst≠some s:=fun p hp o i z=>aq ⟨p,hp,o,i,z⟩
     rw[hA.rest s (fun p hp=>af p (D p hp)),g2 s af,List.getElem?_map]
     cases C[s]? <;>rfl
   ·have W:p∉c:=fun e=>by
     rw[E] at H
     exact (List.nodup_append.1 H).2.2 p e p hp rfl
    rw[K0,List.getElem?_map,g1 p M o d i z]
    simp only[Option.map_some,Option.some.injEq]
    have X:K7 os (C.map .val) p=entOf (L2 (C.map .val) 0 (os.take p)) x:=by simp[K7,i,Eb,bb]
    rw[X]
    obtain ⟨x',ce,cq⟩:=bg p (al p M W) o i
    rw[bb] at ce;cases ce
    cases x with
    | tmp s=>
     have hs:=cq s rfl
     obtain ⟨_,k2⟩:=Dp (S0:=C.map .val) hn a9 p (by omega)
     simp only[entOf]
     rw[Cx,k2 s (fun p' _ o' bp=>bf s hs p' o' bp),List.getElem?_map]
     simp only[ev,get,List.getD_eq_getElem?_getD]
     cases C[s]? <;>rfl
    | _=>rfl
   ·exact hA.rest s fun p _ o i=>bf s hs p o i
   ·refine hW.last u w hB (by simp) fun k o hk t=>?_
    have a1:k<m:=by
     have:=(List.getElem?_eq_some_iff.1 hk).1
     simp at this;omega
    rw[Nat.zero_add]
    rw[U k a1] at hk
    refine (hΦ k (Classical.byContradiction fun bv=>?_) o hk t).1
    obtain ⟨x,hx,_⟩:=bg k (al k a1 bv) o hk
    rw[t] at hx;cases hx
  ·have Z:q<m:=by omega
   have A:os[q]? =some os[q]:=List.getElem?_eq_getElem V
   obtain ⟨g1,g2⟩:=Dp (S0:=C.map .val) hn a9 q (by omega)
   -- what a slot holds that this operation reads
   have ae: ∀s,(∃p o,os[p]? =some o∧o.dst=some s∧p<q∧bit p q=true)∨s∈H8 os[q]→
    get l s=(getE (L2 (C.map .val) 0 (os.take q)) s).at u∧ ∀r,getE (L2 (C.map .val) 0 (os.take q)) s= .ref r→r∈c∧ ∃o,os[r]? =some o∧mv o=none:=by
    intro s hs
    have af:(∀p∈c,∀o,os[p]? =some o→o.dst≠some s)→(∀p,p<q→ ∀o,os[p]? =some o→o.dst≠some s)→
     get l s=(getE (L2 (C.map .val) 0 (os.take q)) s).at u∧ ∀r,getE (L2 (C.map .val) 0 (os.take q)) s= .ref r→r∈c∧ ∃o,os[r]? =some o∧mv o=none:=by
     intro J R
     rw[Cx,g2 s R,List.getElem?_map]
     simp only[get,List.getD_eq_getElem?_getD,hA.rest s J]
     cases C[s]? with
     | none=>exact ⟨rfl,fun r hr=>by cases hr⟩
     | some v=>exact ⟨rfl,fun r hr=>by cases hr⟩
    have bh: ∀p o,os[p]? =some o→o.dst=some s→p<q→p∈c→
     get l s=(getE (L2 (C.map .val) 0 (os.take q)) s).at u∧ ∀r,getE (L2 (C.map .val) 0 (os.take q)) s= .ref r→r∈c∧ ∃o,os[r]? =some o∧mv o=none:=by
     intro p o hp i ao W
     rw[Cx,g1 p ao o s hp i]
     simp only[get,List.getD_eq_getElem?_getD,hA.done p W o s hp i,Option.getD_some]
     first | exact ⟨rfl,hA.refs p W⟩ | exact ⟨trivial,hA.refs p W⟩
    rcases hs with ⟨p,o,hp,i,ao,hb⟩ | hs
    ·exact bh p o hp i ao (hC c q f E p hb (by omega))
    ·by_cases aq: ∃(p:Nat) (o:Oper),os[p]? =some o∧o.dst=some s
     ·obtain ⟨p,o,hp,i⟩:=aq
      have cy:=(List.getElem?_eq_some_iff.1 hp).1
      have aa: ∀p' o',os[p']? =some o'→o'.dst=some s→p'=p:=fun p' o' J R=>Xc os hn p' p o' o s J hp R i
      rcases Nat.lt_trichotomy p q with h | h | h
      ·have hb:=ad p q o os[q] h hp A (by simp only[K3,i,Bool.or_eq_true];left;left;simpa using hs)
       exact bh p o hp i h (hC c q f E p hb (by omega))
      ·subst h
       exact af (fun p' aj o' J R=>by rw[aa p' o' J R] at aj;exact O aj) (fun p' aj o' J R=>by rw[aa p' o' J R] at aj;omega)
      ·refine af (fun p' aj o' J R=>?_) (fun p' aj o' J R=>by rw[aa p' o' J R] at aj;omega)
       have e:=aa p' o' J R
       subst e
       have hb:=ad q p' os[q] o' h A J (by simp only[K3,R,Bool.or_eq_true];right;left;simpa using hs)
       obtain ⟨p1,p2,W⟩:=List.append_of_mem aj
       have:=hC p1 p' (p2++q::f) (by rw[E,W];simp) q hb V
       exact O (by rw[W];exact List.mem_append_left _ this)
     ·exact af (fun p _ o J R=>aq ⟨p,o,J,R⟩) (fun p _ o J R=>aq ⟨p,o,J,R⟩)
   have bj: ∀s∈O3 ops os[q]++H8 os[q],(∃p o,os[p]? =some o∧o.dst=some s∧p<q∧bit p q=true)∨s∈H8 os[q]:=by
    intro s hs
    rcases List.mem_append.1 hs with hs | hs
    ·left
     unfold O3 at hs
     split at hs
     ·simp at hs
     ·rename_i j b bm
      split at hs
      ·rename_i d bn
       simp only[List.mem_singleton] at hs
       subst hs
       obtain ⟨p,ao,bk,hb⟩:=hg q os[q] j b A bm
       obtain ⟨o,i,z⟩:=Option.bind_eq_some_iff.1 bn
       exact ⟨p,o,by rw[bk,i],z,ao,hb⟩
      ·simp at hs
    ·exact .inr hs
   have a3:=U q Z
   rw[A] at a3
   rw[List.filterMap_cons,A]
   simp only
   -- the state behind it
   have step: ∀(v:Value) (u':Nat→Value) (w':World),(∀p∈c,(K7 os (C.map .val) p).at u'=(K7 os (C.map .val) p).at u)→v=(K7 os (C.map .val) q).at u'→
    (∀r,K7 os (C.map .val) q= .ref r→r∈q::c∧ ∃o,os[r]? =some o∧mv o=none)→B w'→(∀r∈q::c,∀o,os[r]? =some o→mv o=none→Φ r u' w'∧ ∀j∈refs ops (L2 (C.map .val) 0 (os.take r)) o,j∈q::c)→
    Y3 P ops J7 (f.filterMap (os[·]?)) (put l os[q].dst v) w':=by
    intro v u' w' hu hv hr cv b8
    have Q: ∀x,x∈c++[q]↔x∈q::c:=by intro x;simp[or_comm]
    refine ih (c++[q]) (by rw[E];simp) (fun x hx=>by rcases List.mem_cons.1 ((Q x).1 hx) with rfl | hx;exact Z;exact D x hx) _ u' w' ?_ cv (fun r hr o i N=>⟨(b8 r ((Q r).1 hr) o i N).1,fun j hj=>(Q j).2 ((b8 r ((Q r).1 hr) o i N).2 j hj)⟩)
    have ax: ∀p∈c++[q],∀r,K7 os (C.map .val) p= .ref r→r∈c++[q]∧ ∃o,os[r]? =some o∧mv o=none:=by
     intro p hp r bq
     rcases List.mem_cons.1 ((Q p).1 hp) with rfl | hp
     ·exact ⟨(Q r).2 (hr r bq).1,(hr r bq).2⟩
     ·obtain ⟨J,R⟩:=hA.refs p hp r bq
      exact ⟨List.mem_append_left _ J,R⟩
    cases g:os[q].dst with
    | none=>
     refine ⟨hA.len,?_,?_,ax⟩
     ·intro p hp o d i z
      rcases List.mem_cons.1 ((Q p).1 hp) with rfl | hp
      ·rw[A] at i;cases i;rw[g] at z;cases z
      ·rw[hu p hp];exact hA.done p hp o d i z
     ·intro s hs;exact hA.rest s fun p hp=>hs p (List.mem_append_left _ hp)
    | some d0=>
     have ar:d0<C.length:=hd d0 (by simp only[O4,List.mem_filterMap];exact ⟨os[q],List.getElem_mem _,g⟩)
     refine ⟨by simp[put,hA.len],?_,?_,ax⟩
     ·intro p hp o d i z
      rcases List.mem_cons.1 ((Q p).1 hp) with rfl | hp2
      ·rw[A] at i;cases i
       rw[g] at z;cases z
       simp only[put]
       rw[List.getElem?_set_self (by rw[hA.len];exact ar),hv]
      ·have Y:d0≠d:=by
        rintro rfl
        have:=Xc os hn p q o os[q] d0 i A z g
        subst this;exact O hp2
       simp only[put]
       rw[List.getElem?_set_ne Y,hu p hp2]
       exact hA.done p hp2 o d i z
     ·intro s hs
      have Y:d0≠s:=fun e=>hs q (by simp) os[q] A (by rw[g,e])
      simp only[put]
      rw[List.getElem?_set_ne Y]
      exact hA.rest s fun p hp=>hs p (List.mem_append_left _ hp)
   cases t:mv os[q] with
   | some x=>
    have X:K7 os (C.map .val) q=entOf (L2 (C.map .val) 0 (os.take q)) x:=by simp[K7,A,Eb,t]
    -- a move: what the operand holds
    have hx:ev l x=(entOf (L2 (C.map .val) 0 (os.take q)) x).at u∧ ∀r,entOf (L2 (C.map .val) 0 (os.take q)) x= .ref r→r∈c∧ ∃o,os[r]? =some o∧mv o=none:=by
     cases x with
     | tmp s=>
      have hs:s∈H8 os[q]:=by
       unfold mv at t
       split at t
       ·cases t
       ·simp only[H8,List.mem_filterMap]
        split at t
        ·rename_i y hy;cases t;exact ⟨.tmp s,by rw[hy];simp[Op.operands],rfl⟩
        ·rename_i y hy;cases t;exact ⟨.tmp s,by rw[hy];simp[Op.operands],rfl⟩
        ·cases t
      exact ae s (.inr hs)
     | _=>exact ⟨rfl,fun r hr=>by cases hr⟩
    have a6:os[q].guard=none:=by
     unfold mv at t
     split at t
     ·cases t
     ·assumption
    simp only[Y3,a6]
    have az:V2 P l os[q] w (fun v w=>Y3 P ops J7 (f.filterMap (os[·]?)) (put l os[q].dst v) w)=Y3 P ops J7 (f.filterMap (os[·]?)) (put l os[q].dst (ev l x)) w:=by
     unfold mv at t
     rw[a6] at t
     simp only at t
     split at t
     ·rename_i y hy;cases t;simp only[V2,hy]
     ·rename_i y hy;cases t;simp only[V2,hy]
     ·cases t
    rw[az]
    refine step _ u w (fun _ _=>rfl) (by rw[X];exact hx.1) (fun r hr=>by
     rw[X] at hr
     obtain ⟨J,R⟩:=hx.2 r hr
     exact ⟨List.mem_cons_of_mem _ J,R⟩) hB (fun r hr o i N=>by
     rcases List.mem_cons.1 hr with rfl | hr
     ·rw[A] at i;cases i;rw[t] at N;cases N
     ·exact ⟨(hΦ r hr o i N).1,fun j hj=>List.mem_cons_of_mem _ ((hΦ r hr o i N).2 j hj)⟩)
   | none=>
    have X:K7 os (C.map .val) q= .ref q:=by simp[K7,A,Eb,t]
    have bc:=hW.run q os[q] a3 t (bo _ (List.getElem_mem _)) u w hB
    rw[a0 q (by omega),Nat.zero_add] at bc
    have cu:=hW.stable
    have bs:=bc (fun j hj=>by
     obtain ⟨s,hs,he⟩:=Hs (Rn hj)
     obtain ⟨J,o,R,h3⟩:=(ae s (bj s hs)).2 j he
     exact (hΦ j J o R h3).1)
    have cb: ∀j∈refs ops (L2 (C.map .val) 0 (os.take q)) os[q],j∈c:=fun j hj=>by
     obtain ⟨s,hs,he⟩:=Hs (Rn hj)
     exact ((ae s (bj s hs)).2 j he).1
    refine Q1r ?_
    rw[Q0J (bo _ (List.getElem_mem _)) (l':=K0 u (L2 (C.map .val) 0 (os.take q))) (fun s hs=>by rw[Fx];exact (ae s (bj s hs)).1)]
    refine Q1k ?_ bs
    intro v w' ⟨b9,hφ⟩
    have Y: ∀r∈c,r≠q:=fun r hr e=>O (e▸hr)
    refine step v (fun n=>if n=q then v else u n) w' ?_ (by rw[X];simp[Ent.at]) (fun r hr=>by rw[X] at hr;cases hr;exact ⟨by simp,os[q],A,t⟩) (hT w w' hB b9) ?_
    ·intro p hp
     cases he:K7 os (C.map .val) p with
     | val x=>rfl
     | ref r=>
      have:=Y r (hA.refs p hp r he).1
      simp[Ent.at,this]
    ·intro r hr o i N
     rcases List.mem_cons.1 hr with rfl | hr
     ·rw[A] at i;cases i
      exact ⟨hφ _ (fun x hx=>by simp[Y x (cb x hx)]) (by simp),fun j hj=>List.mem_cons_of_mem _ (cb j hj)⟩
     ·obtain ⟨f1,f2⟩:=hΦ r hr o i N
      have cf:=D r hr
      have cd:=Y r hr
      have hl:=hW.loc r o (by rw[U r cf];exact i) N (fun n=>if n=q then v else u n) u (fun x hx=>by
       rw[a0 r (by omega),Nat.zero_add] at hx
       have:x≠q:=by
        rcases List.mem_cons.1 hx with rfl | hx
        ·exact cd
        ·exact Y x (f2 x hx)
       simp[this])
      have hs:=cu r o (by rw[U r cf];exact i) N
      rw[Nat.zero_add] at hs hl
      refine ⟨?_,fun j hj=>List.mem_cons_of_mem _ (f2 j hj)⟩
      rw[hl]
      exact hs _ _ _ f1 b9
def X1m:Op→Bool
 | .move _ | .assign _ | .fieldAddr .. | .indexAddr .. | .field .. | .index .. | .binOp .. | .unOp .. | .extract .. | .pick .. | .makeFunc .. | .nilCheck _ | .slice .. =>true
 | _=>false
def ready (ops:List Oper) (a:List Nat) (j:Nat):Bool:=(I1 ops j).all (a.contains ·)
def X1e (ops:List Oper) (j:Nat):Bool:=match ops[j]? with | some o=>X1m o.op | none=>false
def Q6R (ops:List Oper):Nat→List Nat→List Nat→List Nat
 | 0,_,a=>a.reverse
 | n+1,b,a=>
  match b.find? (fun j=>X1e ops j&&ready ops a j) with
  | some j=>Q6R ops n (b.erase j) (j::a)
  | none=>match b.find? (ready ops a) with
   | some j=>Q6R ops n (b.erase j) (j::a)
   | none=>a.reverse
def N0 (ops:List Oper):List Nat:=Q6R ops ops.length (List.range ops.length) []
def R0 (ops:List Oper) (a:List Nat) (p q:Nat):Bool:=((Ga ops []).getD (a.getD q 0) 0).testBit (a.getD p 0)
def Y6 (ops:List Oper) (a:List Nat):List Oper:=a.map fun i=>ops.getD i default
def cutA (ops:List Oper) (a:List Nat):Nat→Nat
 | 0=>0
 | j+1=>if (List.range j).all (fun i=>R0 ops a i j||Wn (Y6 ops a) i) then cutA ops a j else j+1
def X2n (ops:List Oper) (a:List Nat) (c n:Nat):Bool:=(List.range n).all fun q=>(List.range q).all fun p=>decide (p<c)||R0 ops a p q
def Dd (ops:List Oper) (a:List Nat) (n:Nat):Nat:=if X2n ops a (cutA ops a n) n then cutA ops a n else n
theorem Q31 (ops:List Oper) (a:List Nat): ∀n,cutA ops a n≤n∧ ∀q,cutA ops a n≤q→q<n→ ∀p,p<q→R0 ops a p q=true∨Wn (Y6 ops a) p=true
 | 0=>⟨Nat.le_refl _,fun q _ h=>by omega⟩
 | j+1=>by
  obtain ⟨g,f⟩:=Q31 ops a j
  simp only[cutA]
  split
  ·rename_i h
   refine ⟨by omega,fun q c b p d=>?_⟩
   by_cases e:q=j
   ·subst e
    simpa using List.all_eq_true.1 h p (by simpa using d)
   ·exact f q c (by omega) p d
  ·exact ⟨Nat.le_refl _,fun q c b=>by omega⟩
theorem Q6T (ops:List Oper) (a:List Nat) (n:Nat):Dd ops a n≤n∧ ∀q,Dd ops a n≤q→q<n→ ∀p,p<q→R0 ops a p q=true∨(p<Dd ops a n∧Wn (Y6 ops a) p=true):=by
 obtain ⟨i,g⟩:=Q31 ops a n
 unfold Dd
 split
 ·rename_i f
  refine ⟨i,fun q d b p e=>?_⟩
  by_cases c:p<cutA ops a n
  ·exact (g q d b p e).imp id fun h=>⟨c,h⟩
  ·left
   have:=List.all_eq_true.1 (List.all_eq_true.1 f q (by simpa using b)) p (by simpa using e)
   simpa [c] using this
 ·exact ⟨Nat.le_refl _,fun q d b=>by omega⟩
def Q3C (ops:List Oper) (a:List Nat):Bool:=
 a.length==ops.length&&(List.range ops.length).all (a.contains ·)&&Qj a&&a.all (fun i=>decide (i<ops.length))&&
  (List.range ops.length).all fun q=>(List.range q).all fun p=> !R0 ops a q p
def Jv (ops:List Oper) (n:Nat):Bool:=
 Zu ops&&Q2m (Ga ops []) ops&&Qj (O4 (Y6 ops (N0 ops)))&&(O4 (Y6 ops (N0 ops))).all (fun d=>decide (d<n))&&
  (G7 .any ops (List.range ops.length)&&G7 .text ops (List.range ops.length)&&G7 .gc ops (Q9w .gc ops ops.length (List.range ops.length) []))&&Q3C ops (N0 ops)
theorem Pd: ∀{l:List Nat},Qj l=true→l.Nodup
 | [],_=>List.nodup_nil
 | x::l,h=>by
  simp only[Qj,Bool.and_eq_true,Bool.not_eq_true'] at h
  exact List.nodup_cons.2 ⟨by simpa using h.1,Pd h.2⟩
theorem Q4U {ops:List Oper}: ∀(b:List Oper) (a:List Nat),a.length+b.length=ops.length→(∀k,a.length≤k→ops[k]? =b[k-a.length]?)→
 (∀j k,j<a.length→k∈I1 ops j→(a.getD j 0).testBit k=true)→ ∀j k,j<ops.length→k∈I1 ops j→((Ga b a).getD j 0).testBit k=true
 | [],a,n,_,c=>fun j k p d=>c j k (by simp at n;omega) d
 | o::b,a,n,f,c=>by
  have u:ops[a.length]? =some o:=by rw[f _ (Nat.le_refl _)];simp
  refine Q4U b _ (by simp at n⊢;omega) ?_ ?_
  ·intro k d
   simp only[List.length_append,List.length_cons,List.length_nil] at d⊢
   rw[f k (by omega)]
   obtain ⟨m,r⟩: ∃m,k-a.length=m+1:=⟨k-a.length-1,by omega⟩
   rw[r,List.getElem?_cons_succ]
   congr 1;omega
  ·intro j k p d
   simp only[List.length_append,List.length_cons,List.length_nil] at p
   by_cases g:j<a.length
   ·simp only[List.getD_eq_getElem?_getD,List.getElem?_append_left g]
    simpa only[List.getD_eq_getElem?_getD] using c j k g d
   ·have i:j=a.length:=by omega
    subst i
    simp only[List.getD_eq_getElem?_getD,List.getElem?_append_right (Nat.le_refl _),Nat.sub_self,List.getElem?_cons_zero,Option.getD_some]
    unfold I1 at d
    rw[u] at d
    simp only[Option.map_some,Option.getD_some,List.mem_map] at d
    obtain ⟨e,q,rfl⟩:=d
    have key: ∀(l:List Edge) (s:Nat),(e∈l∨s.testBit e.on=true)→(l.foldl (fun s e=>s ||| 2 ^ e.on ||| (a[e.on]?).getD 0) s).testBit e.on=true:=by
     intro l
     induction l with
     | nil=>intro s h;simpa using h
     | cons x l t=>
      intro s h
      refine t _ ?_
      rcases h with h | h
      ·rcases List.mem_cons.1 h with rfl | h
       ·right;simp
       ·exact .inl h
      ·right;simp[h]
    exact key _ _ (.inl q)
theorem Hg {α β:Type} {f g:α→Option β}: ∀{l:List α},(∀x∈l,f x=g x)→l.filterMap f=l.filterMap g
 | [],_=>rfl
 | x::l,h=>by
  rw[List.filterMap_cons,List.filterMap_cons,h x (by simp),Hg fun y a=>h y (by simp[a])]
structure Arr (ops : List Oper) (ord : List Nat) (L : List Nat) : Prop where
  hpl : ∀ o ∈ Y6 ops ord, Qo o.op = true
  hclash : ∀ p q a b, p < q → (Y6 ops ord)[p]? = some a → (Y6 ops ord)[q]? = some b → (K3 a b || K3 b a) = true → R0 ops ord p q = true
  hg : ∀ q o j b, (Y6 ops ord)[q]? = some o → o.guard = some (j, b) → ∃ p, p < q ∧ (Y6 ops ord)[p]? = ops[j]? ∧ R0 ops ord p q = true
  hn : L.Nodup
  hlt : ∀ q ∈ L, q < (Y6 ops ord).length
  hC : ∀ pre q post, L = pre ++ q :: post → ∀ p, R0 ops ord p q = true → p < (Y6 ops ord).length → p ∈ pre
  hLl : L.length = (Y6 ops ord).length
theorem Fq {ops:Array Oper} {c:List Nat} (X:Zu ops.toList=true) (hc:Q2m (Ga ops.toList []) ops.toList=true) (be:G7 .any ops.toList (List.range ops.toList.length)=true) (bb:G7 .text ops.toList (List.range ops.toList.length)=true) (a9:G7 .gc ops.toList (Q9w .gc ops.toList ops.toList.length (List.range ops.toList.length) [])=true) (N:Q3C ops.toList c=true) (b:Bool) (t:Nat):
 (Region.schedule b ops t).filterMap (ops[·]?)=((Region.schedule b ops t).map (c.idxOf ·)).filterMap ((Y6 ops.toList c)[·]?)∧Arr ops.toList c ((Region.schedule b ops t).map (c.idxOf ·))∧(Y6 ops.toList c).length=ops.toList.length∧(Region.schedule b ops t).Nodup∧ ∀i∈Region.schedule b ops t,i<ops.toList.length∧c.getD (c.idxOf i) 0=i:=by
 simp only[Q3C,Bool.and_eq_true,beq_iff_eq] at N
 obtain ⟨⟨⟨⟨ab,W⟩,a2⟩,J⟩,E⟩:=N
 have aa:=Pd a2
 have ag:(Y6 ops.toList c).length=ops.toList.length:=by simp[Y6,ab]
 have g: ∀p,p<ops.toList.length→c.getD p 0<ops.toList.length:=by
  intro p R
  simp only[List.getD_eq_getElem?_getD]
  rw[List.getElem?_eq_getElem (by omega)]
  have:=List.all_eq_true.1 J c[p] (List.getElem_mem _)
  simpa using this
 have d: ∀p,p<ops.toList.length→(Y6 ops.toList c)[p]? =ops.toList[c.getD p 0]? :=by
  intro p R
  have n:=g p R
  simp only[List.getD_eq_getElem?_getD] at n
  rw[List.getElem?_eq_getElem (by omega:p<c.length)] at n
  simp only[Option.getD_some] at n
  simp only[Y6,List.getElem?_map,List.getD_eq_getElem?_getD]
  rw[List.getElem?_eq_getElem (by omega:p<c.length)]
  simp only[Option.map_some,Option.getD_some]
  rw[List.getElem?_eq_getElem n]
  simp
 obtain ⟨V,L,A⟩:=Q3j b ops t X (fun m=>by cases m<;>exact ⟨_,by assumption⟩)
 have f:=Q0N b ops t
 generalize Region.schedule b ops t=L0 at V L A f⊢
 have w: ∀i,i<ops.toList.length→i∈c:=fun i s=>by simpa using List.all_eq_true.1 W i (by simpa using s)
 have l: ∀i,i<ops.toList.length→c.idxOf i<ops.toList.length∧c.getD (c.idxOf i) 0=i:=by
  intro i s
  have n:=List.idxOf_lt_length_of_mem (w i s)
  refine ⟨by omega,?_⟩
  simp only[List.getD_eq_getElem?_getD]
  rw[List.getElem?_eq_getElem n]
  simp
 have r: ∀p,p<ops.toList.length→c.idxOf (c.getD p 0)=p:=by
  intro p R
  simp only[List.getD_eq_getElem?_getD]
  rw[List.getElem?_eq_getElem (by omega:p<c.length)]
  simp only[Option.getD_some]
  exact List.Nodup.idxOf_getElem aa p (by omega)
 have aj: ∀p q,p<q→q<ops.toList.length→R0 ops.toList c q p=false:=by
  intro p q Q u
  have:=List.all_eq_true.1 (List.all_eq_true.1 E q (by simpa using u)) p (by simpa using Q)
  simpa using this
 have ax:L0.filterMap (ops[·]?)=(L0.map (c.idxOf ·)).filterMap ((Y6 ops.toList c)[·]?):=by
  rw[List.filterMap_map]
  refine Hg fun i s=>?_
  have:=f i s
  have n:=l i (by simpa using this)
  simp only[Function.comp]
  rw[d _ n.1,n.2]
  simp
 refine ⟨ax,⟨?_,?_,?_,?_,?_,?_,by simp[L,ab,Y6]⟩,ag,V,fun i s=>⟨by simpa using f i s,(l i (by simpa using f i s)).2⟩⟩
 ·intro o ho
  simp only[Y6,List.mem_map] at ho
  obtain ⟨i,s,rfl⟩:=ho
  have B:i<ops.toList.length:=by simpa using List.all_eq_true.1 J i s
  simp only[Zu,List.all_eq_true,Bool.and_eq_true] at X
  have:=(X (ops.toList[i],i) (by rw[List.mem_zipIdx_iff_getElem?];simpa using B)).1.1
  rw[List.getD_eq_getElem?_getD,List.getElem?_eq_getElem B]
  exact this
 ·intro p q a b' Q ha C H
  have R:p<ops.toList.length:=by have:=(List.getElem?_eq_some_iff.1 ha).1;omega
  have u:q<ops.toList.length:=by have:=(List.getElem?_eq_some_iff.1 C).1;omega
  rw[d p R] at ha
  rw[d q u] at C
  have ai: ∀i Y x x',i<Y→ops.toList[i]? =some x→ops.toList[Y]? =some x'→(K3 x x'||K3 x' x)=true→((Ga ops.toList []).getD Y 0).testBit i=true:=by
   intro i Y x x' ao hx ap H
   simp only[Q2m,List.all_eq_true] at hc
   have:=hc (x',Y) (by rw[List.mem_zipIdx_iff_getElem?];simpa using ap) (x,i) (by rw[List.mem_zipIdx_iff_getElem?];simpa using hx)
   simp only[ao,H,decide_true,Bool.not_true,Bool.false_or,Bool.or_self] at this
   exact this
  have ah:c.getD p 0≠c.getD q 0:=by
   intro e
   have:=r p R
   rw[e,r q u] at this
   omega
  rcases Nat.lt_or_gt_of_ne ah with h | h
  ·exact ai _ _ a b' h ha C H
  ·have n:=ai _ _ b' a h C ha (by rw[Bool.or_comm];exact H)
   have z:=aj p q Q u
   unfold R0 at z
   rw[n] at z;cases z
 ·intro q o j b' u ay
  have D:q<ops.toList.length:=by have:=(List.getElem?_eq_some_iff.1 u).1;omega
  rw[d q D] at u
  have M:j∈I1 ops.toList (c.getD q 0):=by
   have ae:=X
   simp only[Zu,List.all_eq_true,Bool.and_eq_true] at ae
   have:=(ae (o,c.getD q 0) (by rw[List.mem_zipIdx_iff_getElem?];simpa using u)).2
   rw[ay] at this
   simp only[List.any_eq_true] at this
   obtain ⟨e,am,a3⟩:=this
   unfold I1
   rw[u]
   simp only[Option.map_some,Option.getD_some,List.mem_map]
   exact ⟨e,am,by simpa using a3⟩
  have an:=Gb X _ (g q D) j M
  have hj:j<ops.toList.length:=by have:=g q D;omega
  have C:=Q4U (ops:=ops.toList) ops.toList [] (by simp) (by simp) (by intro j k hj;simp at hj) _ j (g q D) M
  obtain ⟨n,z⟩:=l j hj
  have O:R0 ops.toList c (c.idxOf j) q=true:=by unfold R0;rw[z];exact C
  refine ⟨c.idxOf j,?_,by rw[d _ n,z],O⟩
  rcases Nat.lt_trichotomy (c.idxOf j) q with h | h | h
  ·exact h
  ·rw[←h,z] at an;omega
  ·have:=aj q _ h n
   rw[O] at this;cases this
 ·refine List.pairwise_map.2 (V.imp_of_mem ?_)
  intro x y hx hy al az
  have n:=(l x (by simpa using f x hx)).2
  have z:=(l y (by simpa using f y hy)).2
  exact al (by rw[←n,←z,az])
 ·intro q u
  simp only[List.mem_map] at u
  obtain ⟨i,s,rfl⟩:=u
  have:=(l i (by simpa using f i s)).1
  omega
 ·intro bd q a4 hL p C R
  rw[List.map_eq_append_iff] at hL
  obtain ⟨ad,av,ac,Z,v⟩:=hL
  rw[List.map_eq_cons_iff] at v
  obtain ⟨i,U,hr,s,aw⟩:=v
  subst hr s Z
  have B:i<ops.toList.length:=by simpa using f i (by rw[ac];simp)
  obtain ⟨n,z⟩:=l i B
  unfold R0 at C
  rw[z] at C
  have ar:p<ops.toList.length:=by omega
  have:=Q4m X A i B (c.getD p 0) ad U ac C
  rw[List.mem_map]
  exact ⟨c.getD p 0,this,r p ar⟩
theorem Q2M {ops:Array Oper} {n:Nat} (c:Jv ops.toList n=true) (b:Bool) (t:Nat): ∃L,(Region.schedule b ops t).filterMap (ops[·]?)=L.filterMap ((Y6 ops.toList (N0 ops.toList))[·]?)∧Arr ops.toList (N0 ops.toList) L∧(Y6 ops.toList (N0 ops.toList)).length=ops.toList.length:=by
 simp only[Jv,Bool.and_eq_true] at c
 obtain ⟨⟨⟨⟨⟨k,i⟩,m⟩,l⟩,⟨e,d⟩,f⟩,a⟩:=c
 obtain ⟨h,j,g,_⟩:=Fq k i e d f a b t
 exact ⟨_,h,j,g⟩
theorem X09 (P:Program) (ops:Array Oper) (T:World→World→Prop) (B:World→Prop) (J7:List Value→World→Prop) (i:List Value) (g:Jv ops.toList i.length=true)
 (y: ∀w w',B w→T w w'→B w')
 (h:chain P ops.toList T B J7 ((Y6 ops.toList (N0 ops.toList)).drop (Dd ops.toList (N0 ops.toList) ops.toList.length)) 0
  ((Y6 ops.toList (N0 ops.toList)).take (Dd ops.toList (N0 ops.toList) ops.toList.length)) (i.map .val) [] [])
 (b:Bool) (t:Nat) (w:World) (N:B w):Y3 P ops.toList J7 ((Region.schedule b ops t).filterMap (ops[·]?)) i w:=by
 obtain ⟨L,l,c,o⟩:=Q2M g b t
 simp only[Jv,Bool.and_eq_true] at g
 obtain ⟨⟨⟨⟨⟨k,Q⟩,A⟩,J⟩,⟨O,s⟩,u⟩,r⟩:=g
 generalize N0 ops.toList=a at*
 obtain ⟨Φ,_,E⟩:=Px P ops.toList T B J7 _ _ 0 (i.map .val) [] [] (by intro e k j M;simp only[List.mem_map] at k;obtain ⟨v,_,rfl⟩:=k;cases M) (by simp) (by simp[Jb]) h
 rw[l]
 obtain ⟨n,f⟩:=Q6T ops.toList a ops.toList.length
 exact X2i (os:=Y6 ops.toList a) (m:=Dd ops.toList a ops.toList.length) (T:=T) (B:=B) (Φ:=Φ) (R0 ops.toList a) c.hpl A (fun d H=>by simpa using List.all_eq_true.1 J d H) c.hclash c.hg (by omega)
  (fun q C z p D=>f q C (by omega) p D) y E L c.hn c.hLl c.hlt c.hC _ [] rfl (by simp) i (fun _=>undef) w
  ⟨rfl,by simp,fun _ _=>rfl,by simp⟩ N (by simp)
def Yf {α:Type} (P:Program) (s:Sem α):Prop:= ∀w v w',s.run P w= .ok v w'→w'=w
section
variable {P : Program} {α β : Type}
theorem Zw (a:α):Yf P (Pure.pure a:Sem α):=fun w v w' h=>by simp at h;exact h.2.symm
theorem Q5w (m:String):Yf P (stuck m:Sem α):=fun w v w' h=>by simp at h
theorem P1 {s:Sem α} {f:α→Sem β} (d:Yf P s) (c: ∀a,Yf P (f a)):Yf P (s>>=f):=fun w v w' h=>by
 rw[Sem.run_bind] at h
 cases b:s.run P w with
 | halt x w1=>rw[b] at h;simp[Result.andThen] at h
 | ok a w1=>
  rw[b] at h
  have:=d _ _ _ b
  subst this
  exact c a _ _ _ h
theorem Q1p (a:Addr) (m:Mode):Yf P (load a m):=fun w v w' h=>by
 unfold load at h
 simp only[Sem.run] at h
 split at h
 ·cases h;rfl
 ·split at h
  ·cases h;rfl
  ·cases h
theorem Sp (t:TypeId):Yf P (typeInfo t):=fun w v w' h=>by
 unfold typeInfo at h
 simp only[Sem.run_bind,run_program,Result.andThen_ok] at h
 split at h<;>simp at h
 exact h.2.symm
theorem Q17 (t:TypeId):Yf P (underlying t):=fun w v w' h=>by
 unfold underlying at h
 simp only[Sem.run_bind,run_program,Result.andThen_ok] at h
 split at h<;>simp at h
 exact h.2.symm
theorem Q5G (t:TypeId):Yf P (isAgg t):=by
 unfold isAgg
 refine P1 (Q17 t) fun d=>?_
 split<;>exact Zw _
theorem Q4O (t:TypeId):Yf P (sizeOf t):=P1 (Sp t) fun _=>Zw _
theorem Q0v (a:Addr): ∀(n i:Nat) (b:Array Value),Yf P (loadCellsFrom a i n b)
 | 0,i,b=>Zw _
 | n+1,i,b=>P1 (Q1p _ _) fun v=>Q0v a n (i+1) _
theorem Q3v (t:TypeId) (a:Addr):Yf P (loadVar t a):=by
 unfold loadVar
 refine P1 (Q5G t) fun b=>?_
 split
 ·exact P1 (Q4O t) fun n=>P1 (Q0v a n 0 #[]) fun cs=>Zw _
 ·exact Q1p _ _
theorem Q3Z (t:TypeId) (v:Value):Yf P (Instr.loadAt t v):=by
 unfold Instr.loadAt
 refine P1 ?_ fun a=>Q3v t a
 unfold Instr.sureAddr
 split
 ·exact Zw _
 ·exact Q5w _
def Ye (P:Program) (s:Sem α):Prop:= ∀w v w1,s.run P w= .ok v w1→w1=w∧ ∀w',s.run P w'= .ok v w'
theorem Zb (a:α):Ye P (Pure.pure a:Sem α):=fun w v w' h=>by simp at h⊢;exact ⟨h.2.symm,h.1⟩
theorem Vq (m:String):Ye P (stuck m:Sem α):=fun w v w' h=>by simp at h
theorem P2 {s:Sem α} {f:α→Sem β} (g:Ye P s) (e: ∀a,Ye P (f a)):Ye P (s>>=f):=fun w v w' h=>by
 rw[Sem.run_bind] at h
 cases b:s.run P w with
 | halt x w1=>rw[b] at h;simp[Result.andThen] at h
 | ok a w1=>
  rw[b] at h
  obtain ⟨rfl,j⟩:=g _ _ _ b
  obtain ⟨d,i⟩:=e a _ _ _ h
  refine ⟨d,fun c=>?_⟩
  rw[Sem.run_bind,j c]
  exact i c
theorem Gz (t:TypeId):Ye P (typeInfo t):=fun w v w' h=>by
 unfold typeInfo at h⊢
 simp only[Sem.run_bind,run_program,Result.andThen_ok] at h⊢
 split at h<;>simp at h
 rename_i i a
 refine ⟨h.2.symm,fun w'=>?_⟩
 simp[a,h.1]
theorem Ws (t:TypeId):Ye P (underlying t):=fun w v w' h=>by
 unfold underlying at h⊢
 simp only[Sem.run_bind,run_program,Result.andThen_ok] at h⊢
 split at h<;>simp at h
 rename_i i a
 refine ⟨h.2.symm,fun w'=>?_⟩
 simp[a,h.1]
theorem Dy (v:Value) (i:Nat):Ye P (Instr.extract v i):=by
 unfold Instr.extract
 split
 ·split
  ·exact Zb _
  ·exact Vq _
 ·exact Vq _
theorem Q7w (v:Value):Ye P (Instr.sureAddr v):=by
 unfold Instr.sureAddr
 split
 ·exact Zb _
 ·exact Vq _
theorem Q2f {s:Sem α} (h: ∀w v w',s.run P w≠ .ok v w'):Ye P s:=fun w v w' e=>absurd e (h w v w')
theorem Q2b {s:Sem α} {f:α→Sem β} (c: ∀a w v w',(f a).run P w≠ .ok v w'): ∀w v w',(s>>=f).run P w≠ .ok v w':=fun w v w' h=>by
 rw[Sem.run_bind] at h
 cases b:s.run P w with
 | halt x w1=>rw[b] at h;simp[Result.andThen] at h
 | ok a w1=>rw[b] at h;exact c a _ _ _ h
theorem Q1v (e:Int×Int×Bool×BoundsCode): ∀w v w',(runtimePanic (.bounds e.1 e.2.1 e.2.2.1 e.2.2.2):Sem α).run P w≠ .ok v w':=by
 unfold runtimePanic
 exact Q2b fun p=>fun w v w' h=>by cases h
theorem Q0O (k:IntKind) (x y:Int) (c:BoundsCode):Ye P (boundsPanic k x y c:Sem α):=Q2f (by
 unfold boundsPanic
 dsimp only
 split
 ·exact Q2b fun b=>Q1v (_,_,_,_)
 ·exact Q2b fun b=>Q1v (_,_,_,_))
theorem Dv (t:TypeId) (x i:Value):Ye P (Instr.indexAt t x i):=by
 unfold Instr.indexAt
 refine P2 ?_ fun q=>?_
 ·unfold asIntOf
  split
  ·exact Zb _
  ·exact Q2f fun w v w' h=>by cases h
  ·exact Vq _
 refine P2 (Ws t) fun d=>?_
 dsimp only
 have key: ∀(z:Option Addr×Nat×TypeId),Ye P (match z with
  | (base,b,elem)=>do
   let __do_lift←underlying t
   have c:Bool:=decide (b≤1)&&match __do_lift with
    | TypeDesc.array b elem=>true
    | x=>false
   match base with
    | some a=>
     if 0≤q.snd∧q.snd< ↑b then do
      let __do_lift←sizeOf elem
      pure (Value.pointer (some (a.add (q.snd.toNat*__do_lift))))
     else
      if c=true then unsupported (Unsupported.noEntry "op/indexAddr.an index out of range at an array of length 0 or 1 (ledger 616)")
      else boundsPanic q.fst q.snd (↑b) BoundsCode.index
    | none=>boundsPanic q.fst q.snd 0 BoundsCode.index):=by
  rintro ⟨base,b,elem⟩
  dsimp only
  refine P2 (Ws t) fun g=>?_
  cases base with
  | none=>exact Q0O _ _ _ _
  | some a=>
   dsimp only
   by_cases f:0≤q.snd∧q.snd< ↑b
   ·rw[if_pos f]
    exact P2 (P2 (Gz _) fun _=>Zb _) fun n=>Zb _
   ·rw[if_neg f]
    by_cases e:(decide (b≤1)&&match g with
     | TypeDesc.array b elem=>true
     | x=>false)=true
    ·rw[if_pos e]
     exact Q2f fun w v w' h=>by cases h
    ·rw[if_neg e]
     exact Q0O _ _ _ _
 split
 ·exact P2 (Q7w _) fun a=>P2 (Zb _) key
 ·exact P2 (Zb _) key
 ·exact P2 (Vq _) key
def Ab (o:Oper):Bool:=match o.op with | .move _ | .assign _ | .load .. | .extract .. | .indexAddr .. =>true | _=>false
def Q22 (o:Oper):Bool:=match o.op with | .move _ | .assign _ | .extract .. | .indexAddr .. =>true | _=>false
theorem Ov {s:Sem Value} {w:World} {K:Value→World→Prop} (h:op P (sv s) w K): ∃v w',s.run P w= .ok v w'∧K v w':=by
 rw[Xg] at h
 unfold T7 sv at h
 rw[Sem.run_bind] at h
 cases a:s.run P w with
 | halt x w1=>rw[a] at h;exact h.elim
 | ok v w1=>rw[a] at h;exact ⟨v,w1,rfl,h⟩
theorem Oq {s:Sem Value} {v:Value} {w w':World} {K:Value→World→Prop} (h:s.run P w= .ok v w') (k:K v w'):op P (sv s) w K:=by
 rw[Xg]
 unfold T7 sv
 rw[Sem.run_bind,h]
 exact k
theorem Q7v {p:Program} {w w':World} {a k:Addr} {u:TypeId} {b:Bool} {r} (h: ∀(i:Nat) o,w.heap[i]? =some o→w'.heap[i]? =some o) (c:w.seen p a u k b= .ok r):w'.seen p a u k b= .ok r:=by
 cases e:w.heap[a.block]? with
 | some o=>
  have d:=h _ _ e
  unfold World.seen at*
  rw[d]
  rw[e] at c
  exact c
 | none=>
  exfalso
  unfold World.seen at c
  simp only[e,bind,Except.bind,throw,throwThe,MonadExceptOf.throw,pure,Except.pure] at c
  repeat (first | cases c | split at c)
theorem Q8Z {p:Program} {w w':World} {a:Addr} {b:Bool} {r} (h: ∀(i:Nat) o,w.heap[i]? =some o→w'.heap[i]? =some o) (c:w.farLoad p a b= .ok r):w'.farLoad p a b= .ok r:=by
 unfold World.farLoad at*
 cases e:w.heap[a.block]? with
 | none=>rw[e] at c;cases c
 | some o=>
  rw[e] at c
  rw[h _ _ e]
  cases o with
  | view d u=>
   simp only at c⊢
   cases f:w.viewLoad p d u a b with
   | error s=>rw[f] at c;cases c
   | ok q=>
    rw[f] at c
    have:w'.viewLoad p d u a b= .ok q:=by
     unfold World.viewLoad at*
     cases g:w.seen p d u a b with
     | error s=>rw[g] at f;cases f
     | ok z=>rw[Q7v h g];rw[g] at f;exact f
    rw[this]
    exact c
  | _=>simp only at c;cases c
def Ng {α:Type} (P:Program) (s:Sem α):Prop:= ∀w v w1,s.run P w= .ok v w1→w1=w∧ ∀w':World,(∀(i:Nat) o,w.heap[i]? =some o→w'.heap[i]? =some o)→s.run P w'= .ok v w'
section
variable {P : Program} {α β : Type}
theorem Nk (a:α):Ng P (Pure.pure a:Sem α):=fun w v w' h=>by simp at h⊢;exact ⟨h.2.symm,fun _ _=>h.1⟩
theorem Q6X (m:String):Ng P (stuck m:Sem α):=fun w v w' h=>by simp at h
theorem Yu {s:Sem α} {f:α→Sem β} (i:Ng P s) (g: ∀a,Ng P (f a)):Ng P (s>>=f):=fun w v w' h=>by
 rw[Sem.run_bind] at h
 cases b:s.run P w with
 | halt x w1=>rw[b] at h;simp[Result.andThen] at h
 | ok a w1=>
  rw[b] at h
  obtain ⟨rfl,k⟩:=i _ _ _ b
  obtain ⟨e,j⟩:=g a _ _ _ h
  refine ⟨e,fun d c=>?_⟩
  rw[Sem.run_bind,k d c]
  exact j d c
theorem Q2T (a:Addr) (m:Mode):Ng P (load a m):=fun w v w1 h=>by
 unfold load at h⊢
 simp only[Sem.run] at h⊢
 cases e:w.cell? a with
 | some x=>
  rw[e] at h
  cases h
  refine ⟨rfl,fun w' d=>?_⟩
  have:w'.cell? a=some v:=by
   unfold World.cell? at*
   cases c:w.heap[a.block]? with
   | none=>rw[c] at e;cases e
   | some o=>rw[c] at e;rw[d _ _ c];exact e
  rw[this]
 | none=>
  rw[e] at h
  simp only at h
  cases b:w.farLoad P a (m== .atomic) with
  | error s=>rw[b] at h;cases h
  | ok q=>
   rw[b] at h
   cases h
   refine ⟨rfl,fun w' d=>?_⟩
   have g:=Q8Z d b
   cases f:w'.cell? a with
   | none=>simp only[g]
   | some x=>
    exfalso
    unfold World.farLoad at b
    unfold World.cell? at f
    cases c:w.heap[a.block]? with
    | none=>rw[c] at b;cases b
    | some o=>
     rw[d _ _ c] at f
     rw[c] at b
     cases o<;>first | cases f | (simp only at b;cases b)
theorem Q35 {s:Sem α} (h:Ye P s):Ng P s:=fun w v w1 e=>⟨(h w v w1 e).1,fun w' _=>(h w v w1 e).2 w'⟩
theorem Q6L (t:TypeId):Ng P (isAgg t):=by
 unfold isAgg
 refine Yu (Q35 (Ws t)) fun d=>?_
 split<;>exact Nk _
theorem Q21 (a:Addr): ∀(n i:Nat) (b:Array Value),Ng P (loadCellsFrom a i n b)
 | 0,i,b=>Nk _
 | n+1,i,b=>Yu (Q2T _ _) fun v=>Q21 a n (i+1) _
theorem Q5f (t:TypeId) (v:Value):Ng P (Instr.loadAt t v):=by
 unfold Instr.loadAt
 refine Yu ?_ fun a=>?_
 ·unfold Instr.sureAddr
  split
  ·exact Nk _
  ·exact Q6X _
 ·unfold loadVar
  refine Yu (Q6L t) fun b=>?_
  split
  ·exact Yu (Yu (Q35 (Gz t)) fun _=>Nk _) fun n=>Yu (Q21 a n 0 #[]) fun cs=>Nk _
  ·exact Q2T _ _
def Eh (o:Oper):Bool:=match o.op with | .alloc .. =>true | _=>false
theorem Q7L {l:List Value} {o:Oper} {w:World} {K:Value→World→Prop} (h:Ab o=true) (c:V2 P l o w K): ∃v,K v w∧ ∀(w':World) b,(∀(i:Nat) o,w.heap[i]? =some o→w'.heap[i]? =some o)→b v w'→V2 P l o w' b:=by
 obtain ⟨d,p,n,pos,m,g⟩:=o
 cases p<;>(first | (simp[Ab] at h;done) | skip)<;>simp only[V2] at c⊢
 ·exact ⟨_,c,fun w' b _ a=>a⟩
 ·exact ⟨_,c,fun w' b _ a=>a⟩
 ·obtain ⟨v,w',j,e⟩:=Ov c
  obtain ⟨rfl,f⟩:=Q5f _ _ _ _ _ j
  exact ⟨v,e,fun w' b k a=>Oq (f w' k) a⟩
 ·obtain ⟨v,w',j,e⟩:=Ov c
  obtain ⟨rfl,f⟩:=Dv _ _ _ _ _ _ j
  exact ⟨v,e,fun w' b k a=>Oq (f w') a⟩
 ·obtain ⟨v,w',j,e⟩:=Ov c
  obtain ⟨rfl,f⟩:=Dy _ _ _ _ _ j
  exact ⟨v,e,fun w' b k a=>Oq (f w') a⟩
theorem Q2o {γ δ:Type} {s:Sem γ} {f:γ→Sem δ} {w w':World} {v:δ} (h:(s>>=f).run P w= .ok v w'): ∃a w1,s.run P w= .ok a w1∧(f a).run P w1= .ok v w':=by
 rw[Sem.run_bind] at h
 cases b:s.run P w with
 | halt x w1=>rw[b] at h;simp[Result.andThen] at h
 | ok a w1=>rw[b] at h;exact ⟨a,w1,rfl,h⟩
theorem Q9u {γ:Type} {r:Unsupported}:Yf P (unsupported r:Sem γ):=fun w v w' h=>by simp[unsupported] at h
theorem Q4p {l:List Value} {o:Oper} {w:World} {K:Value→World→Prop} (h:Eh o=true) (r:V2 P l o w K): ∃v w',(∀(i:Nat) o,w.heap[i]? =some o→w'.heap[i]? =some o)∧K v w'∧ ∀b:Value→World→Prop,b v w'→V2 P l o w b:=by
 obtain ⟨d,p,E,pos,B,g⟩:=o
 cases p<;>(first | (simp[Eh] at h;done) | skip)
 simp only[V2] at r⊢
 obtain ⟨v,w',n,s⟩:=Ov r
 refine ⟨v,w',?_,s,fun b t=>Oq n t⟩
 have a:=n
 unfold Instr.alloc zeroValue at a
 obtain ⟨z,w1,y,q⟩:=Q2o a
 have A:w1=w:=P1 (Sp _) (fun i=>by split;exact Zw _;exact Q9u) _ _ _ y
 subst A
 simp only at q
 obtain ⟨c,H,f,m⟩:=Q2o q
 simp only[Sem.run_pure,Result.ok.injEq] at m
 obtain ⟨_,rfl⟩:=m
 unfold newVar newRow at f
 obtain ⟨C,D,e,j⟩:=Q2o f
 simp only[Sem.run_pure,Result.ok.injEq] at j
 obtain ⟨_,rfl⟩:=j
 unfold newObj at e
 simp only[Sem.run,Result.ok.injEq] at e
 obtain ⟨_,rfl⟩:=e
 intro i o k
 have u:=(Array.getElem?_eq_some_iff.1 k).1
 simp only[Array.getElem?_push]
 rw[if_neg (by omega)]
 exact k
end
theorem Q3J {l:List Value} {o:Oper} {w:World} {K:Value→World→Prop} (h:Ab o=true) (e:V2 P l o w K): ∃v,K v w∧ ∀c,c v w→V2 P l o w c:=by
 obtain ⟨d,p,j,pos,i,g⟩:=o
 cases p<;>(first | (simp[Ab] at h;done) | skip)<;>simp only[V2] at e⊢
 ·exact ⟨_,e,fun c a=>a⟩
 ·exact ⟨_,e,fun c a=>a⟩
 ·obtain ⟨v,w',b,f⟩:=Ov e
  have:=Q3Z _ _ _ _ _ b
  subst this
  exact ⟨v,f,fun c a=>Oq b a⟩
 ·obtain ⟨v,w',b,f⟩:=Ov e
  have:=(Dv _ _ _ _ _ _ b).1
  subst this
  exact ⟨v,f,fun c a=>Oq b a⟩
 ·obtain ⟨v,w',b,f⟩:=Ov e
  have:=(Dy _ _ _ _ _ b).1
  subst this
  exact ⟨v,f,fun c a=>Oq b a⟩
theorem Q14 {l:List Value} {o:Oper} {w:World} {K:Value→World→Prop} (h:Q22 o=true) (c:V2 P l o w K): ∃v,K v w∧ ∀w' b,b v w'→V2 P l o w' b:=by
 obtain ⟨d,p,k,pos,j,g⟩:=o
 cases p<;>(first | (simp[Q22] at h;done) | skip)<;>simp only[V2] at c⊢
 ·exact ⟨_,c,fun w' b a=>a⟩
 ·exact ⟨_,c,fun w' b a=>a⟩
 ·obtain ⟨v,w',i,e⟩:=Ov c
  obtain ⟨rfl,f⟩:=Dv _ _ _ _ _ _ i
  exact ⟨v,e,fun w' b a=>Oq (f w') a⟩
 ·obtain ⟨v,w',i,e⟩:=Ov c
  obtain ⟨rfl,f⟩:=Dy _ _ _ _ _ i
  exact ⟨v,e,fun w' b a=>Oq (f w') a⟩
end
structure Swap (ops : List Oper) (a b : Oper) : Prop where
  pa : Qo a.op = true
  pb : Qo b.op = true
  ga : a.guard = none
  ab : ∀ d, a.dst = some d → d ∉ O3 ops b ++ H8 b
  ba : ∀ d, b.dst = some d → d ∉ O3 ops a ++ H8 a
  dd : ∀ d, a.dst = some d → b.dst ≠ some d
  gb : ∀ j c, b.guard = some (j, c) → ((ops[j]?).bind (·.dst)).isSome = true
  rd : (Ab a = true ∧ (Ab b = true ∨ Eh b = true) ∧ b.guard = none ∨ Eh a = true ∧ Q22 b = true ∧ b.guard = none) ∨ Q22 a = true
section
variable {P : Program} {ops : List Oper} {J7 : List Value → World → Prop}
theorem Q0Y {l:List Value} {d:Option Nat} {v:Value} {s:Nat} (h: ∀e,d=some e→e≠s):get (put l d v) s=get l s:=by
 cases d with
 | none=>rfl
 | some e=>simp only[put,get,List.getD_eq_getElem?_getD,List.getElem?_set_ne (h e rfl)]
theorem Q7M {l:List Value} {d e:Option Nat} {v u:Value} (h: ∀x,d=some x→e≠some x):put (put l d v) e u=put (put l e u) d v:=by
 cases d with
 | none=>rfl
 | some d=>cases e with
  | none=>rfl
  | some e=>simp only[put];exact List.set_comm _ _ (by intro a;subst a;exact h d rfl rfl)
theorem Q2F {o:Oper} {s:Nat} (a:Operand.tmp s∈o.op.operands):s∈H8 o:=by
 simp only[H8,List.mem_filterMap]
 exact ⟨.tmp s,by simpa using a,rfl⟩
theorem Q5a {a b:Oper} {R:List Oper} {l:List Value} {w:World} (Z:Swap ops a b) (h:Y3 P ops J7 (a::b::R) l w):Y3 P ops J7 (b::a::R) l w:=by
 obtain ⟨pa,Y,V,L,U,O,Q,N⟩:=Z
 have p: ∀v,V2 P (put l a.dst v) b=V2 P l b:=fun v=>Nf Y fun x E=>by
  cases x with
  | tmp s=>exact Q0Y fun e o g=>L e o (List.mem_append_right _ (g▸Q2F E))
  | _=>rfl
 have n: ∀v,V2 P (put l b.dst v) a=V2 P l a:=fun v=>Nf pa fun x E=>by
  cases x with
  | tmp s=>exact Q0Y fun e o g=>U e o (List.mem_append_right _ (g▸Q2F E))
  | _=>rfl
 have m: ∀v u,put (put l b.dst u) a.dst v=put (put l a.dst v) b.dst u:=fun v u=>(Q7M O).symm
 simp only[Y3,V] at h⊢
 cases k:b.guard with
 | none=>
  simp only[k] at h⊢
  rcases N with (⟨B,rb | rb,_⟩ | ⟨B,X,_⟩) | fa
  ·obtain ⟨A,f,i⟩:=Q3J B h
   rw[p] at f
   obtain ⟨z,t,y⟩:=Q3J rb f
   refine y _ ?_
   rw[n]
   exact i _ (by rw[m];exact t)
  ·obtain ⟨A,f,i⟩:=Q7L B h
   rw[p] at f
   obtain ⟨z,wb,k,t,y⟩:=Q4p rb f
   refine y _ ?_
   rw[n]
   exact i wb _ k (by rw[m];exact t)
  ·obtain ⟨A,wa,k,f,i⟩:=Q4p B h
   rw[p] at f
   obtain ⟨z,t,y⟩:=Q14 X f
   refine y w _ ?_
   rw[n]
   exact i _ (by rw[m];exact t)
  ·obtain ⟨A,f,i⟩:=Q14 fa h
   rw[p] at f
   refine B6 (fun z w' H=>?_) f
   rw[n]
   exact i w' _ (by rw[m];exact H)
 | some q=>
  obtain ⟨j,c⟩:=q
  rcases N with (⟨_,_,r⟩ | ⟨_,_,r⟩) | fa
  ·rw[k] at r;cases r
  ·rw[k] at r;cases r
  obtain ⟨d,M⟩:=Option.isSome_iff_exists.1 (Q j c k)
  have D:d∈O3 ops b:=by simp[O3,k,M]
  have W: ∀v,get (put l a.dst v) d=get l d:=fun v=>Q0Y fun e o g=>L e o (List.mem_append_left _ (g▸D))
  simp only[k,M] at h⊢
  obtain ⟨A,f,i⟩:=Q14 fa h
  rw[p,W] at f
  refine As ((Vd f).imp (fun ⟨J,C⟩=>⟨J,B6 (fun z w' H=>?_) C⟩) (fun ⟨J,C⟩=>⟨J,?_⟩))
  ·rw[n];exact i w' _ (by rw[m];exact H)
  ·rw[n];exact i w _ (by rw[m];exact C)
theorem Q0G {a:Oper} {R m:List Oper} {l:List Value} {w:World} (b: ∀l w,Y3 P ops J7 R l w→Y3 P ops J7 m l w) (h:Y3 P ops J7 (a::R) l w):Y3 P ops J7 (a::m) l w:=by
 simp only[Y3] at h⊢
 cases i:a.guard with
 | none=>simp only[i] at h⊢;exact B6 (fun v w f=>b _ _ f) h
 | some q=>
  obtain ⟨j,c⟩:=q
  simp only[i] at h⊢
  cases k:(ops[j]?).bind (·.dst) with
  | none=>simp only[k] at h⊢;exact b _ _ h
  | some d=>
   simp only[k] at h⊢
   exact As ((Vd h).imp (fun ⟨g,e⟩=>⟨g,B6 (fun n w' f=>b _ _ f) e⟩) (fun ⟨g,e⟩=>⟨g,b _ _ e⟩))
theorem Tu {q:Oper} {R:List Oper}: ∀(A:List Oper) {l:List Value} {w:World},(∀a∈A,Swap ops a q)→Y3 P ops J7 (A++q::R) l w→Y3 P ops J7 (q::(A++R)) l w
 | [],_,_,_,h=>h
 | a::A,l,w,c,h=>Q5a (c a (by simp)) (Q0G (R:=A++q::R) (fun _ _ h=>Tu A (fun b d=>c b (by simp[d])) h) h)
theorem Ld: ∀(A:List Oper) {B:List Oper} {l:List Value} {w:World},Y3 P ops J7 (A++B) l w=Y3 P ops (fun l w=>Y3 P ops J7 B l w) A l w
 | [],B,l,w=>rfl
 | a::A,B,l,w=>by
  simp only[List.cons_append,Y3]
  split
  ·congr 1;funext v w;exact Ld A
  ·split
   ·congr 1;funext v w;exact Ld A
   ·exact Ld A
theorem Q6B {A B b:List Oper} {l:List Value} {w:World} (d: ∀l w,Y3 P ops J7 B l w→Y3 P ops J7 b l w): ∀{l:List Value} {w:World},Y3 P ops J7 (A++B) l w→Y3 P ops J7 (A++b) l w:=by
 induction A with
 | nil=>exact fun h=>d _ _ h
 | cons a A c=>exact fun h=>Q0G (fun _ _ h=>c h) h
theorem Q5P (os:List Oper) (bit:Nat→Nat→Bool) (t: ∀p q a b,p<q→os[p]? =some a→os[q]? =some b→bit p q=false→Swap ops a b):
 ∀(n:Nat) (J7:List Value→World→Prop) (L:List Nat) (l:List Value) (w:World),L.Nodup→L.length=n→(∀q∈L,q<n)→n≤os.length→L.Pairwise (fun q p=>p<q→bit p q=false)→
  Y3 P ops J7 (os.take n) l w→Y3 P ops J7 (L.filterMap (os[·]?)) l w
 | 0,J7,L,l,w,u,z,g,v,C,h=>by
  have:L=[]:=List.eq_nil_of_length_eq_zero z
  subst this;exact h
 | n+1,J7,L,l,w,u,z,g,v,C,h=>by
  have Q:n∈L:=Classical.byContradiction fun r=>by
   have U:=C0 n L u fun k M=>by
    have j:=g k M
    have H:k≠n:=fun e=>r (e▸M)
    omega
   omega
  obtain ⟨A,B,rfl⟩:=List.append_of_mem Q
  have d:n<os.length:=by omega
  have f:os[n]? =some os[n]:=List.getElem?_eq_getElem d
  have i:=List.nodup_append.1 u
  have y:n∉B:=(List.nodup_cons.1 i.2.1).1
  have E:n∉A:=fun e=>i.2.2 n e n (by simp) rfl
  have N:os.take (n+1)=os.take n++[os[n]]:=(List.take_append_getElem d).symm
  rw[N,Ld] at h
  have s: ∀q∈A++B,q<n:=fun q J=>by
   have U:q<n+1:=g q (by rcases List.mem_append.1 J with h | h<;>simp[h])
   have j:q≠n:=fun e=>by
    subst e
    rcases List.mem_append.1 J with h | h
    ·exact E h
    ·exact y h
   omega
  have c:(A++B).Sublist (A++n::B):=List.Sublist.append (List.Sublist.refl A) (List.sublist_cons_self n B)
  have j:=Q5P os bit t n _ (A++B) l w (u.sublist c) (by simp at z⊢;omega) s (by omega) (C.sublist c) h
  rw[←Ld] at j
  rw[List.filterMap_append,List.append_assoc] at j
  rw[List.filterMap_append,List.filterMap_cons,f]
  refine Q6B (l:=l) (w:=w) (fun l w H=>?_) j
  have:=Tu (R:=[]) (B.filterMap (os[·]?)) (fun a O=>?_) H
  ·rwa [List.append_nil] at this
  ·obtain ⟨p,m,D⟩:=List.mem_filterMap.1 O
   have o:=s p (List.mem_append_right _ m)
   refine t p n a _ o D f ?_
   have V:=(List.pairwise_append.1 C).2.1
   exact (List.pairwise_cons.1 V).1 p m o
end
def Q1M (ops:List Oper) (a b:Oper):Bool:=
 (match a.guard with | none=>true | some _=>false)&&(match b.guard with | none=>true | some (j,_)=>match (ops[j]?).bind (·.dst) with | some _=>true | none=>false)&&
  (((Ab a&&(Ab b||Eh b)||Eh a&&Q22 b)&&(match b.guard with | none=>true | some _=>false))||Q22 a)
def Q25 (o:Oper):Bool:=match o.op with | .call c=>(match c.callee with | .value (.func _)=>true | _=>false) | _=>false
def Q6Z (ops:List Oper) (a:List Nat):Bool:=
 ops.any Q4w&&ops.any Q25&&(List.range ops.length).all fun q=>(List.range q).all fun p=>R0 ops a p q||Q1M ops (ops.getD (a.getD p 0) default) (ops.getD (a.getD q 0) default)
theorem Mt {α:Type} {R:α→α→Prop}: ∀(a b:List α) {L:List α},L=b++a→(∀b q a,L=b++q::a→ ∀p∈a,R q p)→a.Pairwise R
 | [],_,_,_,_=>List.Pairwise.nil
 | q::a,b,L,c,h=>List.pairwise_cons.2 ⟨h b q a c,Mt a (b++[q]) (by rw[c];simp) h⟩
theorem Q2k {P:Program} {ops:Array Oper} {J7:List Value→World→Prop} {l0:List Value} {ord L:List Nat} {bit:Nat→Nat→Bool} (ha:Arr ops.toList ord L) (hosl:(Y6 ops.toList ord).length=ops.toList.length) (hn:Qj (O4 (Y6 ops.toList ord))=true) (hbit: ∀p q,R0 ops.toList ord p q=true→bit p q=true)
 (hsq: ∀p q,p<q→q<ops.toList.length→(bit p q||Q1M ops.toList (ops.toList.getD (ord.getD p 0) default) (ops.toList.getD (ord.getD q 0) default))=true) (hpair:L.Pairwise fun q p=>p<q→bit p q=false) (w:World)
 (h:Y3 P ops.toList J7 (Y6 ops.toList ord) l0 w):Y3 P ops.toList J7 (L.filterMap ((Y6 ops.toList ord)[·]?)) l0 w:=by
 refine Q5P (Y6 ops.toList ord) bit (fun p q a b' hpq hpa hqb hb=>?_) _ J7 L l0 w ha.hn rfl (fun q hq=>by rw[ha.hLl];exact ha.hlt q hq) (by rw[ha.hLl];exact Nat.le_refl _) hpair (by rw[ha.hLl,List.take_length];exact h)
 have hql:q<ops.toList.length:=by have:=(List.getElem?_eq_some_iff.1 hqb).1;omega
 have hpl:p<ops.toList.length:=by omega
 have hget: ∀i o,(Y6 ops.toList ord)[i]? =some o→ops.toList.getD (ord.getD i 0) default=o:=by
  intro i o hi
  unfold Y6 at hi
  rw[List.getElem?_map] at hi
  cases ho:ord[i]? with
  | none=>rw[ho] at hi;cases hi
  | some x=>
   rw[ho] at hi
   simp only[Option.map_some,Option.some.injEq] at hi
   rw[List.getD_eq_getElem?_getD (l:=ord),ho];exact hi
 have hnc:(K3 a b'||K3 b' a)=false:=by
  cases hx:K3 a b'||K3 b' a with
  | false=>rfl
  | true=>rw[hbit p q (ha.hclash p q a b' hpq hpa hqb hx)] at hb;cases hb
 rw[Bool.or_eq_false_iff] at hnc
 have hs:=hsq p q hpq hql
 rw[hb,Bool.false_or,hget p a hpa,hget q b' hqb] at hs
 simp only[Q1M,Bool.and_eq_true,Bool.or_eq_true] at hs
 obtain ⟨⟨g1,g2⟩,g3⟩:=hs
 have hga:a.guard=none:=by
  cases hx:a.guard with
  | none=>rfl
  | some _=>rw[hx] at g1;cases g1
 have c1: ∀d,a.dst=some d→d∉H8 b'∧b'.dst≠some d:=fun d hd=>by
  have:=hnc.1
  unfold K3 at this
  rw[hd] at this
  simp only[Bool.or_eq_false_iff] at this
  exact ⟨fun hm=>by simp[hm] at this,fun hm=>by simp[hm] at this⟩
 have c2: ∀d,b'.dst=some d→d∉H8 a:=fun d hd=>by
  have:=hnc.2
  unfold K3 at this
  rw[hd] at this
  simp only[Bool.or_eq_false_iff] at this
  exact fun hm=>by simp[hm] at this
 refine ⟨ha.hpl a (List.mem_of_getElem? hpa),ha.hpl b' (List.mem_of_getElem? hqb),hga,fun d hd'=>?_,fun d hd'=>?_,fun d hd'=>(c1 d hd').2,fun j c hbg=>?_,?_⟩
 ·rw[List.mem_append,not_or]
  refine ⟨fun hm=>?_,(c1 d hd').1⟩
  unfold O3 at hm
  cases hbg:b'.guard with
  | none=>rw[hbg] at hm;simp at hm
  | some q0=>
   obtain ⟨j,c⟩:=q0
   obtain ⟨p',hp',hpj,hbt⟩:=ha.hg q b' j c hqb hbg
   rw[hbg] at hm
   simp only at hm
   cases hjd:ops.toList[j]?.map (·.dst) with
   | none=>
    cases hj:ops.toList[j]? with
    | none=>rw[hj] at hm;simp at hm
    | some oj=>rw[hj] at hjd;cases hjd
   | some dj=>
    cases hj:ops.toList[j]? with
    | none=>rw[hj] at hjd;cases hjd
    | some oj=>
     rw[hj] at hm hpj
     simp only[Option.bind_some] at hm
     cases hdj:oj.dst with
     | none=>rw[hdj] at hm;simp at hm
     | some d2=>
      rw[hdj] at hm
      simp only[List.mem_singleton] at hm
      subst hm
      have:=Xc (Y6 ops.toList ord) hn p' p oj a d hpj hpa hdj hd'
      subst this
      rw[hbit _ _ hbt] at hb;cases hb
 ·rw[List.mem_append,not_or]
  exact ⟨fun hm=>by simp[O3,hga] at hm,c2 d hd'⟩
 ·rw[hbg] at g2
  simp only at g2
  cases hx:(ops.toList[j]?).bind (·.dst) with
  | none=>rw[hx] at g2;cases g2
  | some _=>rfl
 ·rcases g3 with ⟨g3,g5⟩ | g3
  ·have hn:b'.guard=none:=by
    cases hx:b'.guard with
    | none=>rfl
    | some _=>rw[hx] at g5;cases g5
   exact .inl (g3.imp (fun g=>⟨g.1,g.2,hn⟩) fun g=>⟨g.1,g.2,hn⟩)
  ·exact .inr g3
theorem X1f (P:Program) (ops:Array Oper) (J7:List Value→World→Prop) (n:List Value) (a:Jv ops.toList n.length=true) (c:Q6Z ops.toList (N0 ops.toList)=true)
 (b:Bool) (t:Nat) (w:World) (h:Y3 P ops.toList J7 (Y6 ops.toList (N0 ops.toList)) n w):Y3 P ops.toList J7 ((Region.schedule b ops t).filterMap (ops[·]?)) n w:=by
 obtain ⟨L,k,i,d⟩:=Q2M a b t
 simp only[Jv,Bool.and_eq_true] at a
 obtain ⟨⟨⟨⟨⟨C,E⟩,y⟩,D⟩,⟨B,u⟩,v⟩,r⟩:=a
 generalize N0 ops.toList=g at*
 rw[k]
 refine Q2k i d y (bit:=R0 ops.toList g) (fun _ _ h=>h) (fun p q f l=>?_) ?_ w h
 ·simp only[Q6Z,Bool.and_eq_true] at c
  exact List.all_eq_true.1 (List.all_eq_true.1 c.2 q (by simpa using l)) p (by simpa using f)
 ·refine Mt L [] (L:=L) rfl fun j q e m p s f=>?_
  cases z:R0 ops.toList g p q with
  | false=>rfl
  | true=>
   have A:=i.hC j q e m p z (i.hlt p (by rw[m];simp[s]))
   have o:=i.hn
   rw[m] at o
   exact absurd rfl ((List.nodup_append.1 o).2.2 p A p (by simp[s]))
def X1o (b:List Nat) (a c:Nat):List Nat:=((b.erase a).takeWhile (· !=c))++a::((b.erase a).dropWhile (· !=c))
def Q41 (ops:List Oper) (d b:List Nat) (a c:Nat):Bool:=
 Q3C ops b&&Qj (O4 (Y6 ops b))&&
  ((List.range ops.length).all fun q=>(List.range q).all fun p=>(R0 ops d p q||(d.getD p 0==c&&d.getD q 0==a))||Q1M ops (ops.getD (d.getD p 0) default) (ops.getD (d.getD q 0) default))&&
  ((List.range ops.length).all fun q=>(List.range q).all fun p=>(R0 ops b p q||(b.getD p 0==a&&b.getD q 0==c))||Q1M ops (ops.getD (b.getD p 0) default) (ops.getD (b.getD q 0) default))
def Q6Y (ops:List Oper):Option (List Nat):=
 match ops.any Q4w&&ops.any Q25&&ops.any Eh with
 | true=>match ops.findIdx Eh !=ops.findIdx Q25&&Q41 ops (N0 ops) (X1o (N0 ops) (ops.findIdx Eh) (ops.findIdx Q25)) (ops.findIdx Eh) (ops.findIdx Q25) with
  | true=>some (X1o (N0 ops) (ops.findIdx Eh) (ops.findIdx Q25))
  | false=>none
 | false=>none
theorem Q9Z {ops:Array Oper} {a g:List Nat} {x y:Nat} (U:g.Nodup) (z: ∀i∈g,i<ops.toList.length∧a.getD (a.idxOf i) 0=i) (r:Arr ops.toList a (g.map (a.idxOf ·))) (t: ∀e n c,g≠e++y::(n++x::c)):
 (g.map (a.idxOf ·)).Pairwise fun q p=>p<q→(R0 ops.toList a p q||(a.getD p 0==x&&a.getD q 0==y))=false:=by
 refine Mt _ [] (L:=g.map (a.idxOf ·)) rfl fun e q c b p l E=>?_
 rw[Bool.or_eq_false_iff]
 constructor
 ·cases H:R0 ops.toList a p q with
  | false=>rfl
  | true=>
   have h:=r.hC e q c b p H (r.hlt p (by rw[b];simp[l]))
   have f:=r.hn
   rw[b] at f
   exact absurd rfl ((List.nodup_append.1 f).2.2 p h p (by simp[l]))
 ·rw[Bool.and_eq_false_iff]
  refine Classical.byContradiction fun d=>?_
  rw[not_or] at d
  obtain ⟨h,f⟩:=d
  have h:a.getD p 0=x:=by simpa using h
  have f:a.getD q 0=y:=by simpa using f
  rw[List.map_eq_append_iff] at b
  obtain ⟨j,o,C,_,v⟩:=b
  rw[List.map_eq_cons_iff] at v
  obtain ⟨i,s,B,N,u⟩:=v
  rw[←u,List.mem_map] at l
  obtain ⟨k,O,m⟩:=l
  obtain ⟨D,M,Q⟩:=List.append_of_mem O
  subst B C Q
  have A:=(z i (by simp)).2
  have w:=(z k (by simp)).2
  rw[N] at A
  rw[m] at w
  have J:i=y:=by rw[←A];exact f
  have R:k=x:=by rw[←w];exact h
  subst J R
  exact t j D M rfl
theorem X11 (P:Program) (ops:Array Oper) (J7:List Value→World→Prop) (D:List Value) (B:Jv ops.toList D.length=true) {d:List Nat} {a c:Nat} (ac:a≠c) (r:Q41 ops.toList (N0 ops.toList) d a c=true)
 (b:Bool) (t:Nat) (w:World) (h1:Y3 P ops.toList J7 (Y6 ops.toList (N0 ops.toList)) D w) (Y:Y3 P ops.toList J7 (Y6 ops.toList d) D w):Y3 P ops.toList J7 ((Region.schedule b ops t).filterMap (ops[·]?)) D w:=by
 simp only[Jv,Bool.and_eq_true] at B
 obtain ⟨⟨⟨⟨⟨U,W⟩,hn⟩,hd⟩,⟨C,n⟩,s⟩,z⟩:=B
 simp only[Q41,Bool.and_eq_true] at r
 obtain ⟨⟨⟨l,Q⟩,N⟩,E⟩:=r
 by_cases o: ∃i g f,Region.schedule b ops t=i++a::(g++c::f)
 ·obtain ⟨M,u,O,v,J⟩:=Fq U W C n s l b t
  rw[M]
  refine Q2k u O Q (bit:=fun p q=>R0 ops.toList d p q||(d.getD p 0==a&&d.getD q 0==c)) (fun p q h=>by rw[h];rfl) (fun p q j k=>?_) (Q9Z v J u fun i g f e=>?_) w Y
  ·exact List.all_eq_true.1 (List.all_eq_true.1 E q (by simpa using k)) p (by simpa using j)
  ·obtain ⟨V,R,H,e'⟩:=o
   have A: ∀{L p m q:List Nat} {x y:Nat},L=p++x::(m++y::q)→L[p.length]? =some x∧L[p.length+1+m.length]? =some y∧p.length+1+m.length<L.length:=by
    rintro L p m q x y rfl
    refine ⟨by simp,?_,by simp;omega⟩
    rw[List.getElem?_append_right (by omega),show p.length+1+m.length-p.length=m.length+1 by omega,List.getElem?_cons_succ]
    simp
   obtain ⟨g1,X,g3⟩:=A e
   obtain ⟨g4,Z,g6⟩:=A e'
   have k1:=(List.getElem?_inj (by omega) v).1 (g1.trans Z.symm)
   have k2:=(List.getElem?_inj (by omega) v).1 (X.trans g4.symm)
   omega
 ·obtain ⟨M,u,O,v,J⟩:=Fq U W C n s z b t
  rw[M]
  refine Q2k u O hn (bit:=fun p q=>R0 ops.toList (N0 ops.toList) p q||((N0 ops.toList).getD p 0==c&&(N0 ops.toList).getD q 0==a)) (fun p q h=>by rw[h];rfl) (fun p q j k=>?_) (Q9Z v J u fun i g f e=>o ⟨i,g,f,e⟩) w h1
  exact List.all_eq_true.1 (List.all_eq_true.1 N q (by simpa using k)) p (by simpa using j)
theorem X1t (P:Program) (ops:Array Oper) (J7:List Value→World→Prop) (d:List Value) (e:Jv ops.toList d.length=true) {a:List Nat} (c:Q6Y ops.toList=some a)
 (b:Bool) (t:Nat) (w:World) (h:Y3 P ops.toList J7 (Y6 ops.toList (N0 ops.toList)) d w∧Y3 P ops.toList J7 (Y6 ops.toList a) d w):Y3 P ops.toList J7 ((Region.schedule b ops t).filterMap (ops[·]?)) d w:=by
 unfold Q6Y at c
 split at c
 ·split at c
  ·rename_i f
   cases c
   rw[Bool.and_eq_true] at f
   exact X11 P ops J7 d e (by simpa using f.1) f.2 b t w h.1 h.2
  ·cases c
 ·cases c
theorem Q9T: ∃f:World→(World→Prop)→Prop,f=fun w A=>A w.drew:=⟨_,rfl⟩
noncomputable def sq:World→(World→Prop)→Prop:=Classical.choose Q9T
theorem X06:sq=fun w A=>A w.drew:=Classical.choose_spec Q9T
def Q3x:List Ent→Nat→Ent→(List Ent→Prop)→Prop
 | [],_,_,k=>k []
 | _::l,0,e,k=>k (e::l)
 | x::l,n+1,e,k=>Q3x l n e (fun l'=>k (x::l'))
def Q3D (S:List Ent) (d:Option Nat) (e:Ent) (k:List Ent→Prop):Prop:=
 match d with
 | some d=>Q3x S d e k
 | none=>k S
def Q6C:List Ent→Nat→(Ent→Prop)→Prop
 | [],_,k=>k (.val undef)
 | x::_,0,k=>k x
 | _::l,n+1,k=>Q6C l n k
def Q8n (S:List Ent) (x:Operand) (k:Ent→Prop):Prop:=
 match x with
 | .tmp t=>Q6C S t k
 | .const v=>k (.val v)
 | .global g=>k (.val (.pointer (some ⟨g,0,none⟩)))
 | .func f=>k (.val (.func (.func f) #[] #[]))
def Q07 (u:Nat→Value):List Ent→(List Value→Prop)→Prop
 | [],k=>k []
 | .val v::S,k=>Q07 u S (fun l=>k (v::l))
 | .ref j::S,k=>Q07 u S (fun l=>k (u j::l))
def Q6r:List Value→(List Ent→Prop)→Prop
 | [],k=>k []
 | v::l,k=>Q6r l (fun S=>k (.val v::S))
theorem Q4K: ∀(S:List Ent) (n:Nat) (e:Ent) (k:List Ent→Prop),Q3x S n e k=k (Q0Z S n e)
 | [],_,_,_=>rfl
 | _::_,0,_,_=>rfl
 | _::l,n+1,e,k=>by simp only[Q3x,Q0Z,Q4K l n e]
theorem Q0V (S:List Ent) (d:Option Nat) (e:Ent) (k:List Ent→Prop):Q3D S d e k=k (putE S d e):=by
 cases d with
 | none=>rfl
 | some d=>exact Q4K S d e k
theorem Q3I: ∀(S:List Ent) (n:Nat) (k:Ent→Prop),Q6C S n k=k (getE S n)
 | [],_,_=>rfl
 | _::_,0,_=>rfl
 | _::l,n+1,k=>Q3I l n k
theorem Q87 (S:List Ent) (x:Operand) (k:Ent→Prop):Q8n S x k=k (entOf S x):=by
 cases x with
 | tmp t=>exact Q3I S t k
 | _=>rfl
theorem Q1c (u:Nat→Value): ∀(S:List Ent) (k:List Value→Prop),Q07 u S k=k (K0 u S)
 | [],_=>rfl
 | .val v::S,k=>by simp only[Q07,Q1c u S];rfl
 | .ref j::S,k=>by simp only[Q07,Q1c u S];rfl
theorem Q6k: ∀(l:List Value) (k:List Ent→Prop),Q6r l k=k (l.map .val)
 | [],_=>rfl
 | v::l,k=>by simp only[Q6r,Q6k l];rfl
noncomputable def Ew (P:Program) (ops:List Oper) (T:World→World→Prop) (B:World→Prop) (J7:List Value→World→Prop) (tail:List Oper):Nat→List Oper→List Ent→Hc→List Nat→Prop
 | _,[],S,b,done=>Bs done (fun _=>undef) fun u=> ∀w,B w→Q0i b u w (Q07 u S fun l=>F4 P ops J7 tail l w) done
 | i,o::a,S,b,done=>
  match mv o with
  | some x=>Q8n S x fun e=>Q3D S o.dst e fun S=>Ew P ops T B J7 tail (i+1) a S b done
  | none=>match Q4w o with
   | true=>Q1g T (fun φ=>Bs (refs ops S o) (fun _=>undef) fun u=> ∀w,B w→Bc b u w (runOp P ops (K0 u S) o w (dk T (φ ((refs ops S o).map u)) w)) (refs ops S o))
    (fun φ=>Q3D S o.dst (.ref i) fun c=>Ew P ops T B J7 tail (i+1) a c (b++[(i,refs ops S o,φ)]) (done++[i]))
   | false=>Q7 T (fun φ=>Bs (refs ops S o) (fun _=>undef) fun u=> ∀w,B w→Bc b u w (runOp P ops (K0 u S) o w (dk T φ w)) (refs ops S o))
    (fun φ=>Q3D S o.dst (.ref i) fun c=>Ew P ops T B J7 tail (i+1) a c (b++[(i,[],fun _=>φ)]) (done++[i]))
theorem Rd (P:Program) (ops:List Oper) (T:World→World→Prop) (B:World→Prop) (J7:List Value→World→Prop) (tail:List Oper): ∀(a:List Oper) (i:Nat) (S:List Ent) (b:Hc) (done:List Nat),
 Ew P ops T B J7 tail i a S b done=chain P ops T B J7 tail i a S b done
 | [],i,S,b,done=>by simp only[Ew,chain,Q1c]
 | o::a,i,S,b,done=>by
  simp only[Ew,chain]
  split
  ·rw[Q87,Q0V,Rd]
  ·split
   ·congr 1
    funext φ
    rw[Q0V,Rd]
   ·congr 1
    funext φ
    rw[Q0V,Rd]
noncomputable def Q9Q (P:Program) (ops:List Oper) (J7:List Value→World→Prop) (l:List Value) (w:World):Prop:=
 dr w fun T B=>Q6r l fun S=>Ew P ops T B J7 ((Y6 ops (N0 ops)).drop (Dd ops (N0 ops) ops.length)) 0 ((Y6 ops (N0 ops)).take (Dd ops (N0 ops) ops.length)) S [] []
def Q09 (a b:List Nat):Bool:=a.all (b.contains ·)&&b.all (a.contains ·)
theorem Ep {a b:List Nat} (h:Q09 a b=true) (i:Nat):a.contains i=b.contains i:=by
 simp only[Q09,Bool.and_eq_true,List.all_eq_true] at h
 rw[Bool.eq_iff_iff]
 constructor
 ·intro c;exact h.1 i (by simpa using c)
 ·intro c;exact h.2 i (by simpa using c)
abbrev V4:=List (Option (List Nat×List Nat))
def V4.slots (a:V4):List (Option (List Nat)):=a.map (·.map (·.1))
theorem V4.slots_get (a:V4) (k:Nat):a.slots.getD k none=(a.getD k none).map (·.1):=by
 simp only[V4.slots,List.getD_eq_getElem?_getD,List.getElem?_map]
 cases a[k]? <;>rfl
noncomputable def Un (P:Program) (a:V4) (b:List (Option (List Nat))):Nat→Code→Oh→List Value→World→Prop
 | _, .skip,Q,l,w=>Q .normal l w
 | _, .label _,Q,l,w=>Q .normal l w
 | _, .exit id,Q,l,w=>Q (.exit id) l w
 | _, .ret,Q,l,w=>Q .ret l w
 | _, .region _ ops false,Q,l,w=>F4 P ops.toList (fun l w=>Q .normal l w) ops.toList l w
 | _, .region _ ops true,Q,l,w=>match Jv ops.toList l.length with
  | true=>match Q6Z ops.toList (N0 ops.toList) with
   | true=>sq w fun w=>F4 P ops.toList (fun l w=>Q .normal l w) (Y6 ops.toList (N0 ops.toList)) l w
   | false=>match Q6Y ops.toList with
    | some g=>sq w fun w=>F4 P ops.toList (fun l w=>Q .normal l w) (Y6 ops.toList (N0 ops.toList)) l w∧F4 P ops.toList (fun l w=>Q .normal l w) (Y6 ops.toList g) l w
    | none=>Q9Q P ops.toList (fun l w=>Q .normal l w) l w
  | false=>False
 | k, .seq x y,Q,l,w=>match a.getD k none with
  | none=>Un P a b (k+1) x (thn (fun l w=>Un P a b (k+1+K5 x) y Q l w) Q) l w
  | some (f,h)=>match Q09 h (W9 b (k+1) x) with
   | true=>jn w (fun J w=>Un P a b (k+1) x (thn (fun l' w'=>J (Ly l' f) w') Q) l w)
    (fun z d w=>Sw f h z d 0 l fun l=>Un P a b (k+1+K5 x) y Q l w)
   | false=>False
 | k, .cond c x y,Q,l,w=>X1 (ev l c) (Un P a b k x Q l w) (Un P a b (k+K5 x) y Q l w)
 | k, .block id c,Q,l,w=>Un P a b k c (Q1u id Q) l w
 | k, .loop c,Q,l,w=>match a.getD k none with
  | none=>False
  | some (f,h)=>match Q09 h (W9 b (k+1) c) with
   | true=>lp (Ly l f) w (fun e x d w=>Sw f h x d 0 l fun l=>Un P a b (k+1) c (thn (fun l' w'=>e (Ly l' f) w') Q) l w)
   | false=>False
 | _,_,_,_,_=>False
theorem Pa {next a:List Value→World→Prop} {Q b:Oh} (d: ∀l w,next l w→a l w) (c: ∀e l w,Q e l w→b e l w): ∀e l w,thn next Q e l w→thn a b e l w:=by
 intro e l w h;cases e<;>first | exact d _ _ h | exact c _ _ _ h
theorem Q8U (P:Program) (m:V4) (c:Code): ∀(k:Nat) (Q j:Oh) (l:List Value) (w:World),(∀e l w,Q e l w→j e l w)→
 Un P m m.slots k c Q l w→Mj P m.slots k c j l w:=by
 induction c with
 | skip=>intro k Q j l w g h;exact g _ _ _ h
 | label n=>intro k Q j l w g h;exact g _ _ _ h
 | exit id=>intro k Q j l w g h;exact g _ _ _ h
 | ret=>intro k Q j l w g h;exact g _ _ _ h
 | goto n=>intro k Q j l w g h;exact h.elim
 | refuse s=>intro k Q j l w g h;exact h.elim
 | scope c=>intro k Q j l w g h;exact h.elim
 | rangeFunc f p a b=>intro k Q j l w g h;exact h.elim
 | region id ops v=>
  intro k Q j l w g h
  cases v with
  | true=>
   simp only[Un] at h
   split at h
   ·rename_i u
    intro t
    have C:Y3 P ops.toList (fun l w=>Q .normal l w) ((Region.schedule (P.follows .mixedOrders) ops t).filterMap (ops[·]?)) l w.drew:=by
     split at h
     ·rename_i H
      simp only[X06,Dg] at h
      exact X1f P ops _ l u H _ t _ h
     ·split at h
      ·rename_i W L
       simp only[X06,Dg] at h
       exact X1t P ops _ l u L _ t _ h
      ·simp only[Q9Q,Q9F,Q6q,Q6k,Rd] at h
       obtain ⟨T,B,h0,hT,h⟩:=h
       exact X09 P ops T B _ l u hT h (P.follows .mixedOrders) t w.drew h0
    refine Yn P _ _ _ (O4 ops.toList) l _ _ _ ?_ (K4.refl _ _) (fun l w N _=>g _ _ _ N) C
    intro o E d C
    simp only[List.mem_filterMap] at E
    obtain ⟨i,_,hi⟩:=E
    simp only[O4,List.contains_eq_mem,List.mem_filterMap,decide_eq_true_eq]
    exact ⟨o,by simpa using Array.mem_of_getElem? hi,C⟩
   ·exact h.elim
  | false=>
   simp only[Un] at h
   rw[Dg] at h
   refine Yn P _ _ _ (O4 ops.toList) l _ _ _ ?_ (K4.refl _ _) (fun l w N _=>g _ _ _ N) h
   intro o E d C
   simp only[O4,List.contains_eq_mem,List.mem_filterMap,decide_eq_true_eq]
   exact ⟨o,E,C⟩
 | seq x y q r=>
  intro k Q j l w g h
  simp only[Un,Mj] at h⊢
  rw[V4.slots_get]
  split at h
  ·rename_i A
   simp only[A,Option.map_none]
   exact q _ _ _ _ _ (Pa (fun l w h=>r _ _ _ _ _ g h) g) h
  ·rename_i Y wr A
   simp only[A,Option.map_some]
   split at h
   ·rename_i O
    obtain ⟨J,h1,L⟩:=Q4M h
    refine Zt J (q _ _ _ _ _ (Pa (fun l w h=>h) g) h1) fun z d w hz=>?_
    have Z:=L z d w hz
    rw[Q2O,Rl _ _ _ (Ep O)] at Z
    exact r _ _ _ _ _ g Z
   ·exact h.elim
 | cond c x y q r=>
  intro k Q j l w g h
  exact Q30 (q k _ _ _ _ g) (r _ _ _ _ _ g) h
 | block id c V=>
  intro k Q j l w g h
  refine V k _ _ _ _ ?_ h
  intro e l' w' D
  cases e with
  | exit ae=>simp only[Q1u] at D⊢;split<;>rename_i M<;>simp only[M,if_true,if_false] at D<;>exact g _ _ _ D
  | _=>exact g _ _ _ D
 | loop c V=>
  intro k Q j l w g h
  simp only[Un,Mj] at h⊢
  split at h
  ·exact h.elim
  ·rename_i Y wr A
   have U:(m.slots.getD k none).getD []=Y:=by rw[V4.slots_get,A];rfl
   split at h
   ·rename_i O
    subst U
    refine Q3f (fun R x d w X=>?_) h
    rw[Q2O,Rl _ _ _ (Ep O)] at X
    exact V _ _ _ _ _ (Pa (fun l w h=>h) g) X
   ·exact h.elim
def Q1t (P:Program) (t:TypeId) (a:Value) (w:World) (K:Value→Prop):Prop:= ∃v,(do loadVar t (←asAddr a):Sem Value).run P w= .ok v w∧K v
theorem Q1z: ∃f:Program→TypeId→Value→World→(Value→Prop)→Prop,f=Q1t:=⟨_,rfl⟩
noncomputable def V7:Program→TypeId→Value→World→(Value→Prop)→Prop:=Classical.choose Q1z
theorem Q1q:V7=Q1t:=Classical.choose_spec Q1z
noncomputable def Q4N (P:Program) (l:List Value) (K:List Value→World→Prop):List ResultVar→List Value→World→Prop
 | [],b,w=>K b.reverse w
 | .tmp t::c,b,w=>Q4N P l K c (get l t::b) w
 | .cell a t::c,b,w=>V7 P t (get l a) w fun v=>Q4N P l K c (v::b) w
def Q1S:List Value→Value
 | [v]=>v
 | vs=> .tuple vs.toArray
noncomputable def results (P:Program) (a:List ResultVar) (K:Value→World→Prop) (l:List Value) (w:World):Prop:=
 Q4N P l (fun vs w=>K (Q1S vs) w) a [] w
noncomputable def Q78 (P:Program) (fn:Func) (K:Value→World→Prop):Oh
 | .normal,l,w | .ret,l,w=>results P fn.results.toList K l w
 | _,_,_=>False
def Q8V (K:Value→World→Prop) (e:Ending) (w:World):Prop:=match e with | .returned v=>K v w | _=>False
theorem Q42 (a:Array Value) (t:Nat):a.getD t undef=get a.toList t:=by
 simp[get,List.getD_eq_getElem?_getD]
theorem Q7y (vs:List Value):(if h:vs.toArray.size=1 then vs.toArray[0] else Value.tuple vs.toArray)=Q1S vs:=by
 match vs with
 | []=>rfl
 | [v]=>rfl
 | _::_::_=>rfl
theorem Q1a (P:Program) (l:List Value) (K:List Value→World→Prop) (f:ResultVar→Sem Value)
 (d: ∀t,f (.tmp t)=Pure.pure (get l t)) (c: ∀a t,f (.cell a t)=(do loadVar t (←asAddr (get l a)))): ∀(e:List ResultVar) (b:List Value) (w:World),Q4N P l K e b w→
 ∃vs,(e.mapM f).run P w= .ok vs w∧K (b.reverse++vs) w
 | [],b,w,h=>⟨[],by simp,by rw[List.append_nil];exact h⟩
 | .tmp t::e,b,w,h=>by
  obtain ⟨vs,i,g⟩:=Q1a P l K f d c e _ w h
  refine ⟨get l t::vs,?_,by simpa using g⟩
  rw[List.mapM_cons,d]
  simp[i]
 | .cell a t::e,b,w,h=>by
  simp only[Q4N,Q1q] at h
  obtain ⟨v,j,h⟩:=h
  obtain ⟨vs,i,g⟩:=Q1a P l K f d c e _ w h
  refine ⟨v::vs,?_,by simpa using g⟩
  rw[List.mapM_cons,c,Sem.run_bind,j]
  simp[i]
def X17 (a:Array Value):ResultVar→Sem Value
 | .tmp t=>Pure.pure (a.getD t undef)
 | .cell b t=>do loadVar t (←asAddr (a.getD b undef))
theorem Q3Y (fn:Func) (a:Array Value):Go.results fn a=(do
 let vs←fn.results.mapM (X17 a)
 Pure.pure (if h:vs.size=1 then vs[0] else .tuple vs)):=by
 unfold Go.results
 congr 1
theorem Q0L (P:Program) (fn:Func) (K:Value→World→Prop) (a:Array Value) (w:World) (h:results P fn.results.toList K a.toList w):
 ∃v,(Go.results fn a).run P w= .ok v w∧K v w:=by
 rw[Q3Y,Array.mapM_eq_mapM_toList]
 obtain ⟨vs,b,c⟩:=Q1a P a.toList (fun vs w=>K (Q1S vs) w) (X17 a) (fun t=>by rw[←Q42];rfl) (fun d t=>by rw[←Q42];rfl) fn.results.toList [] w h
 refine ⟨Q1S vs,?_,by simpa using c⟩
 rw[Sem.run_bind,Sem.run_map,b]
 simp only[Result.andThen_ok,Sem.run_pure,Q7y]
def Pr (fn:Func) (a:List Value):List Value:=a++List.replicate (fn.ntmps-a.length) undef
theorem Q4f {P:Program} {f:FuncId} {fn:Func} {c:Code} {b:List Value} {w:World} {K:Value→World→Prop} (d:List (Option (List Nat)))
 (j:P.funcs[f]? =some fn) (k:fn.body=some c) (h:Mj P d 0 c (Q78 P fn K) (Pr fn b) w):Calls P f b.toArray w (Q8V K):=by
 refine calls_of_wp j k (wp_mono (Q8v P d c 0 (Q78 P fn K) _ w rfl ?_) ?_)
 ·have:(b.toArray++Array.replicate (fn.ntmps-b.toArray.size) undef).toList=Pr fn b:=by simp[Pr]
  simp only[this];exact h
 ·intro e a w ⟨i,g⟩
  cases e with
  | normal=>exact ⟨i,Q0L P fn K _ _ g⟩
  | ret=>exact ⟨i,Q0L P fn K _ _ g⟩
  | _=>exact g.elim
theorem Uo {P:Program} {f:FuncId} {fn:Func} {a:List Value} {w:World} {K:Value→World→Prop}
 (g:P.funcs[f]? =some fn) (d:fn.body.isSome=true) (j:(fn.name== "runtime.NumGoroutine")=false) (h:Calls P f a.toArray w (Q8V K)):Q1 P f a w K:=by
 have k:(callFunc f a.toArray).run P w= .ok (.enter f a.toArray) w:=by
  unfold callFunc
  simp only[Sem.run_bind,run_program,Result.andThen_ok,g,j,Bool.false_eq_true,if_false]
  cases b:fn.body with
  | none=>rw[b] at d;cases d
  | some c=>simp
 unfold Q1
 rw[Xg]
 unfold T7
 rw[k]
 refine h.mono fun e w' i=>?_
 cases e<;>exact i
theorem Q2r {P:Program} {f:FuncId} {fn:Func} {a:List Value} {w:World} {K:Value→World→Prop}
 (g:P.funcs[f]? =some fn) (d:fn.body.isSome=true) (j:(fn.name== "runtime.NumGoroutine")=false) (h:Q1 P f a w K):Calls P f a.toArray w (Q8V K):=by
 have k:(callFunc f a.toArray).run P w= .ok (.enter f a.toArray) w:=by
  unfold callFunc
  simp only[Sem.run_bind,run_program,Result.andThen_ok,g,j,Bool.false_eq_true,if_false]
  cases b:fn.body with
  | none=>rw[b] at d;cases d
  | some c=>simp
 unfold Q1 at h
 rw[Xg] at h
 unfold T7 at h
 rw[k] at h
 refine Calls.mono h fun e w' i=>?_
 cases e<;>exact i
theorem X0D {P:Program} {f:FuncId} {fn:Func} {b:List Value} {w:World} {K:Value→World→Prop} (a:V4)
 (d:P.funcs[f]? =some fn) (g:fn.body.isSome=true) (i:(fn.name== "runtime.NumGoroutine")=false)
 (h:Un P a a.slots 0 (fn.body.getD .skip) (Q78 P fn K) (Pr fn b) w):Q1 P f b w K:=by
 refine Uo d g i ?_
 obtain ⟨c,e⟩:=Option.isSome_iff_exists.1 g
 rw[e] at h
 exact Q4f a.slots d e (Q8U P a c 0 _ _ _ _ (fun _ _ _ h=>h) h)
theorem X0 {P:Program} {f:FuncId} {fn:Func} {a:List Value} {w:World} {K:Value→World→Prop} {g:Prop} (b:V4)
 (c:P.funcs[f]? =some fn) (i:fn.body.isSome=true) (e:(fn.name== "runtime.NumGoroutine")=false)
 (d:g=Un P b b.slots 0 (fn.body.getD .skip) (Q78 P fn K) (Pr fn a) w) (h:g):Q1 P f a w K:=
 X0D b c i e (d▸h)
theorem Y9 {P:Program} {f:FuncId} {first caps:List Value} {a:List Value} {w:World} {K:Value→World→Prop} (h:Q1 P f (first++a++caps) w K):Z1 P (.func (.func f) first.toArray caps.toArray) a w K:=by
 simpa [Z1,Q1,Deferred.ofValue,invoke,pure_bind,List.append_toArray] using h
end Go.Emb

namespace Go.Proofs.YtfppjenblllfaaaGreatDoor
noncomputable abbrev P : Program := Tryz.prog
namespace F
abbrev bI : Nat := 4
abbrev az : Nat := 10
abbrev ae : Nat := 11
abbrev aO : Nat := 12
abbrev aU : Nat := 13
abbrev aE : Nat := 15
abbrev cB : Nat := 16
abbrev a4 : Nat := 17
abbrev b7 : Nat := 18
abbrev cN : Nat := 19
abbrev w : Nat := 20
abbrev cG : Nat := 25
abbrev ax : Nat := 26
abbrev bu : Nat := 27
abbrev bJ : Nat := 28
abbrev aF : Nat := 29
abbrev aG : Nat := 31
abbrev a1 : Nat := 32
abbrev aP : Nat := 33
abbrev aZ : Nat := 34
abbrev b : Nat := 35
abbrev cp : Nat := 36
abbrev am : Nat := 37
abbrev bn : Nat := 38
abbrev a2 : Nat := 39
abbrev af : Nat := 40
abbrev k : Nat := 41
abbrev cq : Nat := 44
abbrev cb : Nat := 45
abbrev cc : Nat := 46
abbrev b0 : Nat := 47
abbrev n : Nat := 48
abbrev b8 : Nat := 49
abbrev b9 : Nat := 50
abbrev aV : Nat := 51
abbrev ba : Nat := 52
abbrev bb : Nat := 53
abbrev c : Nat := 54
abbrev b1 : Nat := 55
abbrev ag : Nat := 56
abbrev aQ : Nat := 57
abbrev aW : Nat := 58
abbrev ac : Nat := 59
abbrev h : Nat := 60
abbrev a8 : Nat := 61
abbrev t : Nat := 62
abbrev bv : Nat := 63
abbrev aT : Nat := 64
abbrev cf : Nat := 65
abbrev c8 : Nat := 66
abbrev cr : Nat := 67
abbrev cg : Nat := 68
abbrev cH : Nat := 69
abbrev bw : Nat := 70
abbrev a3 : Nat := 71
abbrev aA : Nat := 72
abbrev ch : Nat := 73
abbrev cI : Nat := 74
abbrev c5 : Nat := 75
abbrev cs : Nat := 76
abbrev ci : Nat := 77
abbrev cj : Nat := 78
abbrev c9 : Nat := 79
abbrev cz : Nat := 80
abbrev ct : Nat := 81
abbrev cA : Nat := 82
abbrev ck : Nat := 83
abbrev cl : Nat := 84
abbrev ca : Nat := 85
abbrev bc : Nat := 86
abbrev cO : Nat := 87
abbrev bR : Nat := 88
abbrev ai : Nat := 89
abbrev cJ : Nat := 90
abbrev c6 : Nat := 91
abbrev ah : Nat := 92
abbrev cu : Nat := 94
abbrev cd : Nat := 95
abbrev a9 : Nat := 96
abbrev bK : Nat := 97
abbrev aX : Nat := 98
abbrev u : Nat := 99
abbrev bL : Nat := 100
abbrev d : Nat := 101
abbrev v : Nat := 102
abbrev aB : Nat := 103
abbrev bd : Nat := 104
abbrev aj : Nat := 105
abbrev ak : Nat := 106
abbrev aN : Nat := 107
abbrev a : Nat := 108
abbrev aC : Nat := 109
abbrev bS : Nat := 110
abbrev b2 : Nat := 111
abbrev bo : Nat := 112
abbrev be : Nat := 113
abbrev bf : Nat := 114
abbrev bg : Nat := 115
abbrev aH : Nat := 116
abbrev b3 : Nat := 117
abbrev cC : Nat := 118
abbrev bh : Nat := 119
abbrev i : Nat := 120
abbrev aI : Nat := 121
abbrev cL : Nat := 122
abbrev bG : Nat := 123
abbrev c7 : Nat := 125
abbrev a6 : Nat := 126
abbrev cv : Nat := 130
abbrev bp : Nat := 132
abbrev aw : Nat := 135
abbrev bq : Nat := 138
abbrev bi : Nat := 139
abbrev bH : Nat := 140
abbrev bT : Nat := 141
abbrev ad : Nat := 142
abbrev bY : Nat := 143
abbrev bZ : Nat := 144
abbrev a5 : Nat := 145
abbrev aJ : Nat := 146
abbrev c0 : Nat := 147
abbrev ay : Nat := 148
abbrev c1 : Nat := 149
abbrev ao : Nat := 150
abbrev c2 : Nat := 151
abbrev ap : Nat := 152
abbrev bm : Nat := 153
abbrev bx : Nat := 154
abbrev al : Nat := 155
abbrev aY : Nat := 156
abbrev aa : Nat := 157
abbrev ab : Nat := 158
abbrev s : Nat := 159
abbrev bM : Nat := 160
abbrev j : Nat := 161
abbrev b4 : Nat := 162
abbrev bU : Nat := 163
abbrev g : Nat := 164
abbrev cK : Nat := 165
abbrev aK : Nat := 166
abbrev o : Nat := 167
abbrev cm : Nat := 168
abbrev aL : Nat := 169
abbrev e : Nat := 170
abbrev r : Nat := 171
abbrev x : Nat := 172
abbrev y : Nat := 173
abbrev aR : Nat := 174
abbrev aD : Nat := 175
abbrev br : Nat := 176
abbrev an : Nat := 177
abbrev ce : Nat := 178
abbrev bV : Nat := 179
abbrev a7 : Nat := 183
abbrev bN : Nat := 184
abbrev cn : Nat := 185
abbrev bO : Nat := 186
abbrev aq : Nat := 187
abbrev bW : Nat := 188
abbrev c3 : Nat := 189
abbrev f : Nat := 190
abbrev bP : Nat := 191
abbrev bB : Nat := 192
abbrev bC : Nat := 193
abbrev bz : Nat := 194
abbrev b5 : Nat := 195
abbrev ar : Nat := 196
abbrev b6 : Nat := 197
abbrev cw : Nat := 198
abbrev au : Nat := 199
abbrev cP : Nat := 203
abbrev aM : Nat := 204
abbrev aS : Nat := 205
abbrev bQ : Nat := 206
abbrev cx : Nat := 207
abbrev cQ : Nat := 211
abbrev c4 : Nat := 212
abbrev l : Nat := 213
abbrev bD : Nat := 214
abbrev bX : Nat := 215
abbrev cD : Nat := 216
abbrev m : Nat := 217
abbrev bE : Nat := 218
abbrev bj : Nat := 221
abbrev bs : Nat := 222
abbrev av : Nat := 223
abbrev z : Nat := 224
abbrev cE : Nat := 225
abbrev bA : Nat := 226
abbrev co : Nat := 227
abbrev cF : Nat := 228
abbrev a0 : Nat := 229
abbrev bk : Nat := 232
abbrev bl : Nat := 233
abbrev cy : Nat := 234
abbrev bF : Nat := 235
abbrev q : Nat := 236
abbrev cM : Nat := 237
abbrev bt : Nat := 240
abbrev p : Nat := 242
end F
namespace T
abbrev x : Nat := 0
abbrev al : Nat := 2
abbrev e : Nat := 3
abbrev m : Nat := 4
abbrev w : Nat := 5
abbrev b : Nat := 9
abbrev ao : Nat := 12
abbrev af : Nat := 21
abbrev d : Nat := 22
abbrev f : Nat := 24
abbrev s : Nat := 25
abbrev h : Nat := 26
abbrev r : Nat := 31
abbrev l : Nat := 37
abbrev o : Nat := 38
abbrev c : Nat := 40
abbrev n : Nat := 42
abbrev ak : Nat := 43
abbrev y : Nat := 48
abbrev a0 : Nat := 51
abbrev t : Nat := 68
abbrev j : Nat := 71
abbrev v : Nat := 76
abbrev u : Nat := 78
abbrev i : Nat := 79
abbrev g : Nat := 80
abbrev a : Nat := 82
abbrev k : Nat := 89
abbrev a1 : Nat := 92
abbrev z : Nat := 94
abbrev ah : Nat := 104
abbrev a4 : Nat := 107
abbrev ag : Nat := 116
abbrev ai : Nat := 121
abbrev q : Nat := 124
abbrev a2 : Nat := 127
abbrev a7 : Nat := 128
abbrev a5 : Nat := 133
abbrev a3 : Nat := 152
abbrev a9 : Nat := 155
abbrev p : Nat := 159
abbrev aa : Nat := 180
abbrev ab : Nat := 183
abbrev am : Nat := 186
abbrev ad : Nat := 188
abbrev ap : Nat := 199
abbrev an : Nat := 200
abbrev ac : Nat := 202
abbrev ae : Nat := 203
abbrev a6 : Nat := 206
abbrev a8 : Nat := 207
abbrev aj : Nat := 214
abbrev aq : Nat := 217
abbrev ar : Nat := 220
end T
namespace G
abbrev b : Nat := 0
abbrev e : Nat := 1
abbrev d : Nat := 2
abbrev c : Nat := 3
abbrev a : Nat := 4
end G
end Go.Proofs.YtfppjenblllfaaaGreatDoor

set_option maxRecDepth 100000
namespace Go.Proofs.YtfppjenblllfaaaGreatDoor
open Go.Emb
def Ze (e g:Value) (w:World) (K:Value→World→Prop):Prop:= nilCheck P e w fun h w=>fieldAddr P T.u h 1 w fun c w=>Q2 P T.v c w fun b w=>lookup P T.v b g true w fun a w=>ext P a 0 w fun f w=>ext P a 1 w fun d w=>K d w
theorem Nl {a b:Value} {w:World} {K:Value→World→Prop} (h:Ze a b w K):Q1 P F.k [a,b] w K:=X0 (List.replicate 3 none) Tryz.func41 rfl (by decide) (by kernel_rfl) h
def Q4Q:V4:=[none,none,none,none,some ([1,10],[1,3,10,11,12,13,14,15,16,17,18]),none,none,none,none,none]
def Au (w:World) (K:Value→World→Prop):Prop:= O5 P T.a [(0,(.string ⟨#[79,98,106,101,99,116]⟩))] w fun i w=>O5 P T.k [(0,(.string ⟨#[119,104,97,116]⟩)),(1,(.string ⟨#[116,101,120,116]⟩))] w fun m w=>buildSlice P T.i 1 [(0,m)] w fun k w=>O5 P T.a [(0,(.string ⟨#[70,97,117,108,116]⟩)),(1,(.string ⟨#[79,98,106,101,99,116]⟩)),(6,k)] w fun n w=>buildSlice P T.h 2 [(0,i),(1,n)] w fun j w=>Q2 P T.ag (.pointer (some ⟨G.b,0,none⟩)) w fun l w=>lp (α:=Value×Value) (j,(.int .i64 0)) w fun a b o w=>Q4 P .lss T.e (.tmp 10) (.const (.int .i64 6)) b.2 (.int .i64 6) w fun f w=>X1 f (E0 P T.ag l b.2 w fun d w=>O5 P T.a [(0,d),(1,(.string ⟨#[70,97,117,108,116]⟩)),(5,(.bool true))] w fun g w=>buildSlice P T.h 1 [(0,g)] w fun e w=>X5 P .append [T.h,T.h] T.h [false,false] [b.1,e] w fun c w=>Q4 P .add T.e (.tmp 10) (.const (.int .i64 1)) b.2 (.int .i64 1) w fun h w=>a (c,h) w) (K b.1 w)
theorem Q4W {w:World} {K:Value→World→Prop} (h:Au w K):Q1 P F.cq [] w K:=X0 Q4Q Tryz.func44 rfl (by decide) (by kernel_rfl) h
def Q4x:V4:=[none,none,none,some ([8],[2,4,8,9,10,11,12,13,14,15,16,17,18,19,20,21,22,23,24,25,26,27,28,29,30,31,32,33]),none,none,none,none,none,none,none]
def Ty (X:Value) (w:World) (K:Value→World→Prop):Prop:= box P T.a X w fun b w=>fieldAddr P T.a b 7 w fun t5 w=>Q2 P T.g t5 w fun W w=>X5 P .len [T.g] T.e [false] [W] w fun Y w=>lp (α:=Value) (.int .i64 0) w fun h m d_ w=>Q4 P .lss T.e (.tmp 8) (.tmp 7) m Y w fun Z w=>X1 Z (indexAddr P T.g W m w fun y w=>Q2 P T.c y w fun U w=>W6 P T.c w fun a w=>Z4 P T.c a U w fun _u w=>fieldAddr P T.c a 1 w fun Q w=>Q2 P T.d Q w fun J w=>X5 P .len [T.d] T.e [false] [J] w fun l w=>Q4 P .gtr T.e (.tmp 14) (.const (.int .i64 32)) l (.int .i64 32) w fun c w=>Q0 c false w (fieldAddr P T.c a 6) fun v w=>Q0 c false w (Q2 P T.o v) fun u w=>Q0 c false w (X5 P .len [T.o] T.e [false] [u]) fun H w=>Q0 c false w (Q4 P .gtr T.e (.tmp 19) (.const (.int .i64 32)) H (.int .i64 32)) fun s w=>pick P c (.bool true) s w fun e w=>Q0 e false w (fieldAddr P T.c a 5) fun z w=>Q0 e false w (Q2 P T.l z) fun o w=>Q0 e false w (X5 P .len [T.l] T.e [false] [o]) fun B w=>Q0 e false w (Q4 P .gtr T.e (.tmp 25) (.const (.int .i64 200)) B (.int .i64 200)) fun i w=>pick P e (.bool true) i w fun g w=>Q0 g false w (fieldAddr P T.c a 4) fun n w=>Q0 g false w (Q2 P T.e n) fun t w=>Q0 g false w (Q4 P .gtr T.e (.tmp 30) (.const (.int .i64 64)) t (.int .i64 64)) fun N w=>pick P g (.bool true) N w fun A w=>X1 A (K (.bool true) w) (Q4 P .add T.e (.tmp 8) (.const (.int .i64 1)) m (.int .i64 1) w fun r w=>h r w)) (fieldAddr P T.a b 2 w fun k w=>Q2 P T.d k w fun L w=>X5 P .len [T.d] T.e [false] [L] w fun V w=>Q4 P .gtr T.e (.tmp 36) (.const (.int .i64 32)) V (.int .i64 32) w fun f w=>Q0 f false w (fieldAddr P T.a b 6) fun D w=>Q0 f false w (Q2 P T.i D) fun q w=>Q0 f false w (X5 P .len [T.i] T.e [false] [q]) fun C w=>Q0 f false w (Q4 P .gtr T.e (.tmp 41) (.const (.int .i64 32)) C (.int .i64 32)) fun R w=>pick P f (.bool true) R w fun d w=>Q0 d false w (fieldAddr P T.a b 7) fun p w=>Q0 d false w (Q2 P T.g p) fun O w=>Q0 d false w (X5 P .len [T.g] T.e [false] [O]) fun j w=>Q0 d false w (Q4 P .gtr T.e (.tmp 47) (.const (.int .i64 32)) j (.int .i64 32)) fun E w=>pick P d (.bool true) E w fun M w=>K M w)
theorem Q4y {a:Value} {w:World} {K:Value→World→Prop} (h:Ty a w K):Q1 P F.cu [a] w K:=X0 Q4x Tryz.func94 rfl (by decide) (by kernel_rfl) h
def Q6y:V4:=[none,none,none,some ([],[4,6,9,10,11,12,13,14,15]),none,none,none,none,none,none]
def Q1Y (h i:Value) (w:World) (K:Value→World→Prop):Prop:= rng P T.b h w fun g w=>lp (α:=Unit) () w fun a j k w=>J7 P g true T.x w fun f w=>ext P f 0 w fun d w=>X1 d (ext P f 2 w fun c w=>Z1 P i [c] w fun b w=>Z8 P .not b w fun e w=>X1 e (K (.bool false) w) (a () w)) (K (.bool true) w)
theorem Q74 {a b:Value} {w:World} {K:Value→World→Prop} (h:Q1Y a b w K):Q1 P F.cn [a,b] w K:=X0 Q6y Tryz.func185 rfl (by decide) (by kernel_rfl) h
def Ac (b:Value) (w:World) (K:Value→World→Prop):Prop:= Q4 P .geq T.af (.tmp 3) (.const (.int .i32 65)) b (.int .i32 65) w fun a w=>Q0 a true w (fun w J=>J b w) fun d w=>Q0 a true w (Q4 P .leq T.af (.tmp 6) (.const (.int .i32 90)) d (.int .i32 90)) fun e w=>pick P a e (.bool false) w fun c w=>K c w
theorem Q40 {a:Value} {w:World} {K:Value→World→Prop} (h:Ac a w K):Q1 P F.bT [a] w K:=X0 (List.replicate 2 none) Tryz.func141 rfl (by decide) (by kernel_rfl) h
def Py (b:Value) (w:World) (K:Value→World→Prop):Prop:= Q4 P .geq T.af (.tmp 3) (.const (.int .i32 97)) b (.int .i32 97) w fun a w=>Q0 a true w (fun w J=>J b w) fun d w=>Q0 a true w (Q4 P .leq T.af (.tmp 6) (.const (.int .i32 122)) d (.int .i32 122)) fun e w=>pick P a e (.bool false) w fun c w=>K c w
theorem Q4h {a:Value} {w:World} {K:Value→World→Prop} (h:Py a w K):Q1 P F.bV [a] w K:=X0 (List.replicate 2 none) Tryz.func179 rfl (by decide) (by kernel_rfl) h
def Ie (c:Value) (w:World) (K:Value→World→Prop):Prop:= Q1 P F.bT [c] w fun d w=>Q0 d false w (fun w J=>J c w) fun k w=>Q0 d false w (Q1 P F.bV [k]) fun l w=>pick P d (.bool true) l w fun b w=>Q0 b false w (fun w J=>J c w) fun j w=>Q0 b false w (Q4 P .geq T.af (.tmp 10) (.const (.int .i32 48)) j (.int .i32 48)) fun g w=>Q0 b false w (fun w J=>J g w) fun a w=>Q0 a true w (fun w J=>J c w) fun h w=>Q0 a true w (Q4 P .leq T.af (.tmp 13) (.const (.int .i32 57)) h (.int .i32 57)) fun f w=>Q0 b false w (pick P a f (.bool false)) fun i w=>pick P b (.bool true) i w fun e w=>K e w
theorem Q3r {a:Value} {w:World} {K:Value→World→Prop} (h:Ie a w K):Q1 P F.bO [a] w K:=X0 (List.replicate 2 none) Tryz.func186 rfl (by decide) (by kernel_rfl) h
def Q0C (c:Value) (w:World) (K:Value→World→Prop):Prop:= Q4 P .eql T.b (.tmp 3) (.const (.string ⟨#[]⟩)) c (.string ⟨#[]⟩) w fun d w=>Q0 d false w (fun w J=>J c w) fun p w=>Q0 d false w (X5 P .len [T.b] T.e [false] [p]) fun o w=>Q0 d false w (Q4 P .gtr T.e (.tmp 7) (.const (.int .i64 32)) o (.int .i64 32)) fun n w=>pick P d (.bool true) n w fun b w=>Q0 b false w (fun w J=>J c w) fun m w=>Q0 b false w (E0 P T.b m (.int .i64 0)) fun l w=>Q0 b false w (Q4 P .geq T.w (.tmp 12) (.const (.int .u8 48)) l (.int .u8 48)) fun j w=>Q0 b false w (fun w J=>J j w) fun a w=>Q0 a true w (fun w J=>J c w) fun f w=>Q0 a true w (E0 P T.b f (.int .i64 0)) fun e w=>Q0 a true w (Q4 P .leq T.w (.tmp 16) (.const (.int .u8 57)) e (.int .u8 57)) fun g w=>Q0 b false w (pick P a g (.bool false)) fun h w=>pick P b (.bool true) h w fun i w=>X1 i (K (.bool false) w) (Q1 P F.cn [c,(.func (.func F.bO) #[] #[])] w fun k w=>K k w)
theorem Q5j {a:Value} {w:World} {K:Value→World→Prop} (h:Q0C a w K):Q1 P F.bH [a] w K:=X0 (List.replicate 5 none) Tryz.func140 rfl (by decide) (by kernel_rfl) h
def Ti (c:Value) (w:World) (K:Value→World→Prop):Prop:= Q1 P F.bH [c] w fun a w=>Q0 a true w (fun w J=>J c w) fun e w=>Q0 a true w (E0 P T.b e (.int .i64 0)) fun g w=>Q0 a true w (conv P T.w T.af g) fun d w=>Q0 a true w (Q1 P F.bT [d]) fun f w=>pick P a f (.bool false) w fun b w=>K b w
theorem Q54 {a:Value} {w:World} {K:Value→World→Prop} (h:Ti a w K):Q1 P F.ah [a] w K:=X0 (List.replicate 2 none) Tryz.func92 rfl (by decide) (by kernel_rfl) h
def Qd:V4:=[none,none,none,some ([8],[4,5,8,9,10,11,12,13,14,15,16,17,18]),none,none,none,none,none,none,none]
def H9 (g i:Value) (w:World) (K:Value→World→Prop):Prop:= X5 P .len [T.g] T.e [false] [g] w fun h w=>lp (α:=Value) (.int .i64 0) w fun a b k w=>Q4 P .lss T.e (.tmp 8) (.tmp 7) b h w fun j w=>X1 j (indexAddr P T.g g b w fun d w=>Q2 P T.c d w fun f w=>Z1 P i [f] w fun c w=>X1 c (K b w) (Q4 P .add T.e (.tmp 8) (.const (.int .i64 1)) b (.int .i64 1) w fun e w=>a e w)) (K (.int .i64 (-1)) w)
theorem Qf {a b:Value} {w:World} {K:Value→World→Prop} (h:H9 a b w K):Q1 P F.g [a,b] w K:=X0 Qd Tryz.func164 rfl (by decide) (by kernel_rfl) h
def E4 (b d:Value) (w:World) (K:Value→World→Prop):Prop:= Q1 P F.g [b,d] w fun c w=>Q4 P .geq T.e (.tmp 7) (.const (.int .i64 0)) c (.int .i64 0) w fun a w=>K a w
theorem P3 {a b:Value} {w:World} {K:Value→World→Prop} (h:E4 a b w K):Q1 P F.a [a,b] w K:=X0 (List.replicate 2 none) Tryz.func108 rfl (by decide) (by kernel_rfl) h
def Wb:V4:=[none,none,none,some ([8],[4,5,8,9,10,11,12,13,14,15,16,17,18]),none,none,none,none,none,none,none]
def P5 (g i:Value) (w:World) (K:Value→World→Prop):Prop:= X5 P .len [T.d] T.e [false] [g] w fun h w=>lp (α:=Value) (.int .i64 0) w fun a b k w=>Q4 P .lss T.e (.tmp 8) (.tmp 7) b h w fun j w=>X1 j (indexAddr P T.d g b w fun d w=>Q2 P T.b d w fun f w=>Q4 P .eql T.b (.tmp 11) (.tmp 15) i f w fun c w=>X1 c (K b w) (Q4 P .add T.e (.tmp 8) (.const (.int .i64 1)) b (.int .i64 1) w fun e w=>a e w)) (K (.int .i64 (-1)) w)
theorem Wg {a b:Value} {w:World} {K:Value→World→Prop} (h:P5 a b w K):Q1 P F.aq [a,b] w K:=X0 Wb Tryz.func187 rfl (by decide) (by kernel_rfl) h
def G5 (b d:Value) (w:World) (K:Value→World→Prop):Prop:= Q1 P F.aq [b,d] w fun c w=>Q4 P .geq T.e (.tmp 7) (.const (.int .i64 0)) c (.int .i64 0) w fun a w=>K a w
theorem Jt {a b:Value} {w:World} {K:Value→World→Prop} (h:G5 a b w K):Q1 P F.ad [a,b] w K:=X0 (List.replicate 2 none) Tryz.func142 rfl (by decide) (by kernel_rfl) h
def Rm (c:Value) (w:World) (K:Value→World→Prop):Prop:= box P T.c c w fun a w=>fieldAddr P T.c a 3 w fun d w=>Q2 P T.m d w fun b w=>K b w
theorem Q1n {a:Value} {w:World} {K:Value→World→Prop} (h:Rm a w K):Q1 P F.bY [a] w K:=X0 (List.replicate 2 none) Tryz.func143 rfl (by decide) (by kernel_rfl) h
def Rq (c:Value) (w:World) (K:Value→World→Prop):Prop:= box P T.c c w fun a w=>fieldAddr P T.c a 3 w fun d w=>Q2 P T.m d w fun b w=>Z8 P .not b w fun e w=>K e w
theorem Q1s {a:Value} {w:World} {K:Value→World→Prop} (h:Rq a w K):Q1 P F.bZ [a] w K:=X0 (List.replicate 2 none) Tryz.func144 rfl (by decide) (by kernel_rfl) h
def Jk:V4:=[none,none,none,some ([8],[4,5,8,9,10,11,12,13,14,15,16,17,18]),none,none,none,none,none,none,none]
def G0 (g i:Value) (w:World) (K:Value→World→Prop):Prop:= X5 P .len [T.d] T.e [false] [g] w fun h w=>lp (α:=Value) (.int .i64 0) w fun a b k w=>Q4 P .lss T.e (.tmp 8) (.tmp 7) b h w fun j w=>X1 j (indexAddr P T.d g b w fun d w=>Q2 P T.b d w fun f w=>Z1 P i [f] w fun c w=>X1 c (K b w) (Q4 P .add T.e (.tmp 8) (.const (.int .i64 1)) b (.int .i64 1) w fun e w=>a e w)) (K (.int .i64 (-1)) w)
theorem Jj {a b:Value} {w:World} {K:Value→World→Prop} (h:G0 a b w K):Q1 P F.s [a,b] w K:=X0 Jk Tryz.func159 rfl (by decide) (by kernel_rfl) h
def B3 (b d:Value) (w:World) (K:Value→World→Prop):Prop:= Q1 P F.s [b,d] w fun c w=>Q4 P .geq T.e (.tmp 7) (.const (.int .i64 0)) c (.int .i64 0) w fun a w=>K a w
theorem Yk {a b:Value} {w:World} {K:Value→World→Prop} (h:B3 a b w K):Q1 P F.d [a,b] w K:=X0 (List.replicate 2 none) Tryz.func101 rfl (by decide) (by kernel_rfl) h
def Jp (b e:Value) (w:World) (K:Value→World→Prop):Prop:= Q2 P T.y e w fun a w=>Z1 P a [b] w fun c w=>Z8 P .not c w fun d w=>K d w
theorem Rx {a b:Value} {w:World} {K:Value→World→Prop} (h:Jp a b w K):Q1 P F.bW [a,b] w K:=X0 (List.replicate 2 none) Tryz.func188 rfl (by decide) (by kernel_rfl) h
def Wq (c f:Value) (w:World) (K:Value→World→Prop):Prop:= box P T.y f w fun a w=>M6 P (.func F.bW) [] [a] w fun d w=>Q1 P F.d [c,d] w fun e w=>Z8 P .not e w fun b w=>K b w
theorem Ft {a b:Value} {w:World} {K:Value→World→Prop} (h:Wq a b w K):Q1 P F.a5 [a,b] w K:=X0 (List.replicate 2 none) Tryz.func145 rfl (by decide) (by kernel_rfl) h
def Ux (n k o:Value) (w:World) (K:Value→World→Prop):Prop:= dr w fun a b=>Q7 a (fun c=> ∀w,b w→Q2 P T.a5 k w (dk a c w)) fun c=>Q7 a (fun g=> ∀d w,b w→c d w→Z1 P d [n] w (dk a g w)) fun g=>Q7 a (fun h=> ∀w,b w→Q2 P T.a5 k w (dk a h w)) fun h=>Q7 a (fun e=> ∀w,b w→Q2 P T.b o w (dk a e w)) fun e=>∀d m j l w,b w→c d w→g m w→h j w→e l w→ Z1 P j [l] w fun i w=>Q4 P .eql T.b (.tmp 7) (.tmp 10) m i w fun f w=>K f w
theorem Sm {a c b:Value} {w:World} {K:Value→World→Prop} (h:Ux a c b w K):Q1 P F.c3 [a,c,b] w K:=X0 (List.replicate 2 none) Tryz.func189 rfl (by decide) (by kernel_rfl) h
def Is:V4:=[none,none,none,some ([9],[4,5,6,9,10,11,12,13,14,15,16,17,18,19]),none,none,none,none,none,none,none]
def Lr (e n:Value) (w:World) (K:Value→World→Prop):Prop:= box P T.a5 n w fun a w=>X5 P .len [T.d] T.e [false] [e] w fun m w=>lp (α:=Value) (.int .i64 0) w fun c d o w=>Q4 P .lss T.e (.tmp 9) (.tmp 8) d m w fun l w=>X1 l (indexAddr P T.d e d w fun f w=>Q2 P T.b f w fun j w=>W6 P T.b w fun b w=>Z4 P T.b b j w fun _u w=>H4 P T.d e none (some d) none w fun g w=>M6 P (.func F.c3) [] [a,b] w fun k w=>Q1 P F.d [g,k] w fun h w=>X1 h (K (.bool false) w) (Q4 P .add T.e (.tmp 9) (.const (.int .i64 1)) d (.int .i64 1) w fun i w=>c i w)) (K (.bool true) w)
theorem Ky {a b:Value} {w:World} {K:Value→World→Prop} (h:Lr a b w K):Q1 P F.aJ [a,b] w K:=X0 Is Tryz.func146 rfl (by decide) (by kernel_rfl) h
def Q1w (a:Value) (w:World) (K:Value→World→Prop):Prop:= K a w
theorem Q1R {a:Value} {w:World} {K:Value→World→Prop} (h:Q1w a w K):Q1 P F.c0 [a] w K:=X0 (List.replicate 2 none) Tryz.func147 rfl (by decide) (by kernel_rfl) h
def Qx:V4:=[none,none,none,some ([8],[4,5,8,9,10,11,12,13,14,15,16,17,18]),none,none,none,none,none,none,none]
def R3 (g i:Value) (w:World) (K:Value→World→Prop):Prop:= X5 P .len [T.i] T.e [false] [g] w fun h w=>lp (α:=Value) (.int .i64 0) w fun a b k w=>Q4 P .lss T.e (.tmp 8) (.tmp 7) b h w fun j w=>X1 j (indexAddr P T.i g b w fun d w=>Q2 P T.k d w fun f w=>Z1 P i [f] w fun c w=>X1 c (K b w) (Q4 P .add T.e (.tmp 8) (.const (.int .i64 1)) b (.int .i64 1) w fun e w=>a e w)) (K (.int .i64 (-1)) w)
theorem Qw {a b:Value} {w:World} {K:Value→World→Prop} (h:R3 a b w K):Q1 P F.j [a,b] w K:=X0 Qx Tryz.func161 rfl (by decide) (by kernel_rfl) h
def H5 (b d:Value) (w:World) (K:Value→World→Prop):Prop:= Q1 P F.j [b,d] w fun c w=>Q4 P .geq T.e (.tmp 7) (.const (.int .i64 0)) c (.int .i64 0) w fun a w=>K a w
theorem T4 {a b:Value} {w:World} {K:Value→World→Prop} (h:H5 a b w K):Q1 P F.f [a,b] w K:=X0 (List.replicate 2 none) Tryz.func190 rfl (by decide) (by kernel_rfl) h
def Zo (q p r:Value) (w:World) (K:Value→World→Prop):Prop:= box P T.k q w fun b w=>dr w fun a c=>Q7 a (fun f=> ∀w,c w→Q2 P T.a3 p w (dk a f w)) fun f=>Q7 a (fun d=> ∀w,c w→Q2 P T.k b w (dk a d w)) fun d=>Q7 a (fun l=> ∀e g w,c w→f e w→d g w→Z1 P e [g] w (dk a l w)) fun l=>Q7 a (fun h=> ∀w,c w→Q2 P T.a3 p w (dk a h w)) fun h=>Q7 a (fun j=> ∀w,c w→Q2 P T.k r w (dk a j w)) fun j=>∀e g n m o w,c w→f e w→d g w→l n w→h m w→j o w→ Z1 P m [o] w fun i w=>Q4 P .eql T.b (.tmp 7) (.tmp 10) n i w fun k w=>K k w
theorem Ds {a c b:Value} {w:World} {K:Value→World→Prop} (h:Zo a c b w K):Q1 P F.bP [a,c,b] w K:=X0 (List.replicate 2 none) Tryz.func191 rfl (by decide) (by kernel_rfl) h
def Sd:V4:=[none,none,none,some ([9],[4,5,6,9,10,11,12,13,14,15,16,17,18,19]),none,none,none,none,none,none,none]
def Jq (e n:Value) (w:World) (K:Value→World→Prop):Prop:= box P T.a3 n w fun a w=>X5 P .len [T.i] T.e [false] [e] w fun m w=>lp (α:=Value) (.int .i64 0) w fun c d o w=>Q4 P .lss T.e (.tmp 9) (.tmp 8) d m w fun l w=>X1 l (indexAddr P T.i e d w fun f w=>Q2 P T.k f w fun j w=>W6 P T.k w fun b w=>Z4 P T.k b j w fun _u w=>H4 P T.i e none (some d) none w fun g w=>M6 P (.func F.bP) [] [a,b] w fun k w=>Q1 P F.f [g,k] w fun h w=>X1 h (K (.bool false) w) (Q4 P .add T.e (.tmp 9) (.const (.int .i64 1)) d (.int .i64 1) w fun i w=>c i w)) (K (.bool true) w)
theorem Sf {a b:Value} {w:World} {K:Value→World→Prop} (h:Jq a b w K):Q1 P F.ay [a,b] w K:=X0 Sd Tryz.func148 rfl (by decide) (by kernel_rfl) h
def Hy (c:Value) (w:World) (K:Value→World→Prop):Prop:= box P T.k c w fun a w=>fieldAddr P T.k a 0 w fun d w=>Q2 P T.b d w fun b w=>K b w
theorem Q1P {a:Value} {w:World} {K:Value→World→Prop} (h:Hy a w K):Q1 P F.c1 [a] w K:=X0 (List.replicate 2 none) Tryz.func149 rfl (by decide) (by kernel_rfl) h
def Yj (q p r:Value) (w:World) (K:Value→World→Prop):Prop:= box P T.c q w fun b w=>dr w fun a c=>Q7 a (fun f=> ∀w,c w→Q2 P T.a2 p w (dk a f w)) fun f=>Q7 a (fun d=> ∀w,c w→Q2 P T.c b w (dk a d w)) fun d=>Q7 a (fun l=> ∀e g w,c w→f e w→d g w→Z1 P e [g] w (dk a l w)) fun l=>Q7 a (fun h=> ∀w,c w→Q2 P T.a2 p w (dk a h w)) fun h=>Q7 a (fun j=> ∀w,c w→Q2 P T.c r w (dk a j w)) fun j=>∀e g n m o w,c w→f e w→d g w→l n w→h m w→j o w→ Z1 P m [o] w fun i w=>Q4 P .eql T.b (.tmp 7) (.tmp 10) n i w fun k w=>K k w
theorem Da {a c b:Value} {w:World} {K:Value→World→Prop} (h:Yj a c b w K):Q1 P F.bB [a,c,b] w K:=X0 (List.replicate 2 none) Tryz.func192 rfl (by decide) (by kernel_rfl) h
def Ho:V4:=[none,none,none,some ([9],[4,5,6,9,10,11,12,13,14,15,16,17,18,19]),none,none,none,none,none,none,none]
def Ja (e n:Value) (w:World) (K:Value→World→Prop):Prop:= box P T.a2 n w fun a w=>X5 P .len [T.g] T.e [false] [e] w fun m w=>lp (α:=Value) (.int .i64 0) w fun c d o w=>Q4 P .lss T.e (.tmp 9) (.tmp 8) d m w fun l w=>X1 l (indexAddr P T.g e d w fun f w=>Q2 P T.c f w fun j w=>W6 P T.c w fun b w=>Z4 P T.c b j w fun _u w=>H4 P T.g e none (some d) none w fun g w=>M6 P (.func F.bB) [] [a,b] w fun k w=>Q1 P F.a [g,k] w fun h w=>X1 h (K (.bool false) w) (Q4 P .add T.e (.tmp 9) (.const (.int .i64 1)) d (.int .i64 1) w fun i w=>c i w)) (K (.bool true) w)
theorem Hk {a b:Value} {w:World} {K:Value→World→Prop} (h:Ja a b w K):Q1 P F.ao [a,b] w K:=X0 Ho Tryz.func150 rfl (by decide) (by kernel_rfl) h
def Rf (c:Value) (w:World) (K:Value→World→Prop):Prop:= box P T.c c w fun a w=>fieldAddr P T.c a 0 w fun d w=>Q2 P T.b d w fun b w=>K b w
theorem Q1B {a:Value} {w:World} {K:Value→World→Prop} (h:Rf a w K):Q1 P F.c2 [a] w K:=X0 (List.replicate 2 none) Tryz.func151 rfl (by decide) (by kernel_rfl) h
def Yh (c g:Value) (w:World) (K:Value→World→Prop):Prop:= box P T.k c w fun a w=>Q2 P T.a9 g w fun b w=>Q2 P T.k a w fun e w=>Z1 P b [e] w fun d w=>Z8 P .not d w fun f w=>K f w
theorem Oy {a b:Value} {w:World} {K:Value→World→Prop} (h:Yh a b w K):Q1 P F.bC [a,b] w K:=X0 (List.replicate 2 none) Tryz.func193 rfl (by decide) (by kernel_rfl) h
def Jg (c f:Value) (w:World) (K:Value→World→Prop):Prop:= box P T.a9 f w fun a w=>M6 P (.func F.bC) [] [a] w fun d w=>Q1 P F.f [c,d] w fun e w=>Z8 P .not e w fun b w=>K b w
theorem Hp {a b:Value} {w:World} {K:Value→World→Prop} (h:Jg a b w K):Q1 P F.ap [a,b] w K:=X0 (List.replicate 2 none) Tryz.func152 rfl (by decide) (by kernel_rfl) h
def Tk (c:Value) (w:World) (K:Value→World→Prop):Prop:= Q4 P .eql T.b (.tmp 3) (.const (.string ⟨#[105,110,116]⟩)) c (.string ⟨#[105,110,116]⟩) w fun a w=>Q0 a false w (fun w J=>J c w) fun g w=>Q0 a false w (Q4 P .eql T.b (.tmp 6) (.const (.string ⟨#[98,111,111,108]⟩)) g (.string ⟨#[98,111,111,108]⟩)) fun h w=>pick P a (.bool true) h w fun b w=>Q0 b false w (fun w J=>J c w) fun f w=>Q0 b false w (Q4 P .eql T.b (.tmp 10) (.const (.string ⟨#[116,101,120,116]⟩)) f (.string ⟨#[116,101,120,116]⟩)) fun e w=>pick P b (.bool true) e w fun d w=>K d w
theorem Q50 {a:Value} {w:World} {K:Value→World→Prop} (h:Tk a w K):Q1 P F.af [a] w K:=X0 (List.replicate 2 none) Tryz.func40 rfl (by decide) (by kernel_rfl) h
def Je (b m:Value) (w:World) (K:Value→World→Prop):Prop:= X5 P .len [T.b] T.e [false] [b] w fun o w=>X5 P .len [T.b] T.e [false] [m] w fun n w=>Q4 P .geq T.e (.tmp 6) (.tmp 8) o n w fun a w=>Q0 a true w (fun w J=>J b w) fun g w=>Q0 a true w (fun w J=>J b w) fun d w=>Q0 a true w (X5 P .len [T.b] T.e [false] [d]) fun i w=>Q0 a true w (fun w J=>J m w) fun f w=>Q0 a true w (X5 P .len [T.b] T.e [false] [f]) fun j w=>Q0 a true w (Q4 P .sub T.e (.tmp 13) (.tmp 15) i j) fun e w=>Q0 a true w (H4 P T.b g (some e) none none) fun c w=>Q0 a true w (fun w J=>J m w) fun l w=>Q0 a true w (Q4 P .eql T.b (.tmp 17) (.tmp 18) c l) fun h w=>pick P a h (.bool false) w fun k w=>K k w
theorem Hq {a b:Value} {w:World} {K:Value→World→Prop} (h:Je a b w K):Q1 P F.a7 [a,b] w K:=X0 (List.replicate 2 none) Tryz.func183 rfl (by decide) (by kernel_rfl) h
def Ml (a c:Value) (w:World) (K:Value→World→Prop):Prop:= Q1 P F.a7 [a,c] w fun b w=>K b w
theorem Kb {a b:Value} {w:World} {K:Value→World→Prop} (h:Ml a b w K):Q1 P F.bq [a,b] w K:=X0 (List.replicate 2 none) Tryz.func138 rfl (by decide) (by kernel_rfl) h
def Zk (a f:Value) (w:World) (K:Value→World→Prop):Prop:= Q1 P F.a7 [a,f] w fun g w=>X1 g (X5 P .len [T.b] T.e [false] [a] w fun e w=>X5 P .len [T.b] T.e [false] [f] w fun b w=>Q4 P .sub T.e (.tmp 10) (.tmp 12) e b w fun d w=>H4 P T.b a none (some d) none w fun c w=>K c w) (K a w)
theorem Hf {a b:Value} {w:World} {K:Value→World→Prop} (h:Zk a b w K):Q1 P F.bN [a,b] w K:=X0 (List.replicate 5 none) Tryz.func184 rfl (by decide) (by kernel_rfl) h
def Vo (a c:Value) (w:World) (K:Value→World→Prop):Prop:= Q1 P F.bN [a,c] w fun b w=>K b w
theorem Bh {a b:Value} {w:World} {K:Value→World→Prop} (h:Vo a b w K):Q1 P F.bi [a,b] w K:=X0 (List.replicate 2 none) Tryz.func139 rfl (by decide) (by kernel_rfl) h
def Q5K:V4:=[none,none,none,some ([0,4],[0,4,5,6,7,8,9,10]),none,none,none]
def Q0K (e:Value) (w:World) (K:Value→World→Prop):Prop:= lp (α:=Value×Value) (e,(.int .i64 0)) w fun a b g w=>Q1 P F.bq [b.1,(.string ⟨#[91,93]⟩)] w fun f w=>X1 f (Q1 P F.bi [b.1,(.string ⟨#[91,93]⟩)] w fun d w=>Q4 P .add T.e (.tmp 9) (.const (.int .i64 1)) b.2 (.int .i64 1) w fun c w=>a (d,c) w) (K (.tuple #[b.1,b.2]) w)
theorem Q5N {a:Value} {w:World} {K:Value→World→Prop} (h:Q0K a w K):Q1 P F.c6 [a] w K:=X0 Q5K Tryz.func91 rfl (by decide) (by kernel_rfl) h
def Pu (k:Value) (w:World) (K:Value→World→Prop):Prop:= Q1 P F.c6 [k] w fun j w=>ext P j 0 w fun i w=>ext P j 1 w fun l w=>Q4 P .leq T.e (.tmp 10) (.const (.int .i64 3)) l (.int .i64 3) w fun a w=>Q0 a true w (fun w J=>J i w) fun g w=>Q0 a true w (Q1 P F.af [g]) fun e w=>Q0 a true w (fun w J=>J e w) fun b w=>Q0 b false w (fun w J=>J i w) fun d w=>Q0 b false w (Q1 P F.ah [d]) fun c w=>Q0 a true w (pick P b (.bool true) c) fun h w=>pick P a h (.bool false) w fun f w=>K f w
theorem Q4r {a:Value} {w:World} {K:Value→World→Prop} (h:Pu a w K):Q1 P F.a2 [a] w K:=X0 (List.replicate 3 none) Tryz.func39 rfl (by decide) (by kernel_rfl) h
def Cy (b:Value) (w:World) (K:Value→World→Prop):Prop:= Q1 P F.bH [b] w fun a w=>Q0 a true w (fun w J=>J b w) fun d w=>Q0 a true w (Q1 P F.ah [d]) fun e w=>Q0 a true w (Z8 P .not e) fun c w=>pick P a c (.bool false) w fun f w=>K f w
theorem Q26 {a:Value} {w:World} {K:Value→World→Prop} (h:Cy a w K):Q1 P F.bx [a] w K:=X0 (List.replicate 2 none) Tryz.func154 rfl (by decide) (by kernel_rfl) h
def Rj (f:Value) (w:World) (K:Value→World→Prop):Prop:= box P T.k f w fun a w=>fieldAddr P T.k a 0 w fun g w=>Q2 P T.b g w fun d w=>Q1 P F.bx [d] w fun b w=>Q0 b true w (fieldAddr P T.k a 1) fun i w=>Q0 b true w (Q2 P T.b i) fun e w=>Q0 b true w (Q1 P F.a2 [e]) fun h w=>pick P b h (.bool false) w fun c w=>K c w
theorem Q1m {a:Value} {w:World} {K:Value→World→Prop} (h:Rj a w K):Q1 P F.bm [a] w K:=X0 (List.replicate 2 none) Tryz.func153 rfl (by decide) (by kernel_rfl) h
def Xm (c g:Value) (w:World) (K:Value→World→Prop):Prop:= box P T.c c w fun a w=>Q2 P T.a7 g w fun b w=>Q2 P T.c a w fun e w=>Z1 P b [e] w fun d w=>Z8 P .not d w fun f w=>K f w
theorem Og {a b:Value} {w:World} {K:Value→World→Prop} (h:Xm a b w K):Q1 P F.bz [a,b] w K:=X0 (List.replicate 2 none) Tryz.func194 rfl (by decide) (by kernel_rfl) h
def Zh (c f:Value) (w:World) (K:Value→World→Prop):Prop:= box P T.a7 f w fun a w=>M6 P (.func F.bz) [] [a] w fun d w=>Q1 P F.a [c,d] w fun e w=>Z8 P .not e w fun b w=>K b w
theorem Dq {a b:Value} {w:World} {K:Value→World→Prop} (h:Zh a b w K):Q1 P F.al [a,b] w K:=X0 (List.replicate 2 none) Tryz.func155 rfl (by decide) (by kernel_rfl) h
def Ey (C A:Value) (w:World) (K:Value→World→Prop):Prop:= box P T.p C w fun a w=>fieldAddr P T.p a 0 w fun E w=>Q2 P T.e E w fun H w=>Q4 P .geq T.e (.tmp 5) (.const (.int .i64 0)) H (.int .i64 0) w fun f w=>Q0 f true w (fieldAddr P T.p a 1) fun B w=>Q0 f true w (Q2 P T.e B) fun D w=>Q0 f true w (fieldAddr P T.p a 0) fun q w=>Q0 f true w (Q2 P T.e q) fun z w=>Q0 f true w (Q4 P .gtr T.e (.tmp 9) (.tmp 11) D z) fun y w=>pick P f y (.bool false) w fun c w=>Q0 c true w (fieldAddr P T.p a 1) fun n w=>Q0 c true w (Q2 P T.e n) fun i w=>Q0 c true w (Q2 P T.e A) fun o w=>Q0 c true w (Q4 P .leq T.e (.tmp 16) (.tmp 17) i o) fun p w=>pick P c p (.bool false) w fun e w=>Q0 e true w (fieldAddr P T.p a 2) fun u w=>Q0 e true w (Q2 P T.e u) fun l w=>Q0 e true w (Q4 P .geq T.e (.tmp 22) (.const (.int .i64 0)) l (.int .i64 0)) fun r w=>pick P e r (.bool false) w fun b w=>Q0 b true w (fieldAddr P T.p a 2) fun g w=>Q0 b true w (Q2 P T.e g) fun k w=>Q0 b true w (Q2 P T.e A) fun t w=>Q0 b true w (Q4 P .lss T.e (.tmp 27) (.tmp 28) k t) fun j w=>pick P b j (.bool false) w fun d w=>Q0 d true w (fieldAddr P T.p a 3) fun s w=>Q0 d true w (Q2 P T.b s) fun m w=>Q0 d true w (Q1 P F.ah [m]) fun h w=>pick P d h (.bool false) w fun v w=>K v w
theorem Q15 {a b:Value} {w:World} {K:Value→World→Prop} (h:Ey a b w K):Q1 P F.b5 [a,b] w K:=X0 (List.replicate 2 none) Tryz.func195 rfl (by decide) (by kernel_rfl) h
def Qu:V4:=[none,none,none,some ([8],[4,5,8,9,10,11,12,13,14,15,16,17,18]),none,none,none,none,none,none,none]
def R9 (g i:Value) (w:World) (K:Value→World→Prop):Prop:= X5 P .len [T.l] T.e [false] [g] w fun h w=>lp (α:=Value) (.int .i64 0) w fun a b k w=>Q4 P .lss T.e (.tmp 8) (.tmp 7) b h w fun j w=>X1 j (indexAddr P T.l g b w fun d w=>Q2 P T.n d w fun f w=>Z1 P i [f] w fun c w=>X1 c (K b w) (Q4 P .add T.e (.tmp 8) (.const (.int .i64 1)) b (.int .i64 1) w fun e w=>a e w)) (K (.int .i64 (-1)) w)
theorem Xd {a b:Value} {w:World} {K:Value→World→Prop} (h:R9 a b w K):Q1 P F.z [a,b] w K:=X0 Qu Tryz.func224 rfl (by decide) (by kernel_rfl) h
def H3 (b d:Value) (w:World) (K:Value→World→Prop):Prop:= Q1 P F.z [b,d] w fun c w=>Q4 P .geq T.e (.tmp 7) (.const (.int .i64 0)) c (.int .i64 0) w fun a w=>K a w
theorem T5 {a b:Value} {w:World} {K:Value→World→Prop} (h:H3 a b w K):Q1 P F.l [a,b] w K:=X0 (List.replicate 2 none) Tryz.func213 rfl (by decide) (by kernel_rfl) h
def Xz (c g:Value) (w:World) (K:Value→World→Prop):Prop:= box P T.n c w fun a w=>Q2 P T.ab g w fun b w=>Q2 P T.n a w fun e w=>Z1 P b [e] w fun d w=>Z8 P .not d w fun f w=>K f w
theorem Dc {a b:Value} {w:World} {K:Value→World→Prop} (h:Xz a b w K):Q1 P F.bD [a,b] w K:=X0 (List.replicate 2 none) Tryz.func214 rfl (by decide) (by kernel_rfl) h
def Zz (c f:Value) (w:World) (K:Value→World→Prop):Prop:= box P T.ab f w fun a w=>M6 P (.func F.bD) [] [a] w fun d w=>Q1 P F.l [c,d] w fun e w=>Z8 P .not e w fun b w=>K b w
theorem Hr {a b:Value} {w:World} {K:Value→World→Prop} (h:Zz a b w K):Q1 P F.ar [a,b] w K:=X0 (List.replicate 2 none) Tryz.func196 rfl (by decide) (by kernel_rfl) h
def Zd:V4:=[none,none,none,some ([8],[4,5,8,9,10,11,12,13,14,15,16,17,18]),none,none,none,none,none,none,none]
def F2 (g i:Value) (w:World) (K:Value→World→Prop):Prop:= X5 P .len [T.aj] T.e [false] [g] w fun h w=>lp (α:=Value) (.int .i64 0) w fun a b k w=>Q4 P .lss T.e (.tmp 8) (.tmp 7) b h w fun j w=>X1 j (indexAddr P T.aj g b w fun d w=>Q2 P T.a6 d w fun f w=>Z1 P i [f] w fun c w=>X1 c (K b w) (Q4 P .add T.e (.tmp 8) (.const (.int .i64 1)) b (.int .i64 1) w fun e w=>a e w)) (K (.int .i64 (-1)) w)
theorem Yy {a b:Value} {w:World} {K:Value→World→Prop} (h:F2 a b w K):Q1 P F.q [a,b] w K:=X0 Zd Tryz.func236 rfl (by decide) (by kernel_rfl) h
def Ij (c g:Value) (w:World) (K:Value→World→Prop):Prop:= box P T.a6 c w fun a w=>fieldAddr P T.a6 a 0 w fun b w=>Q2 P T.b b w fun e w=>Q2 P T.b g w fun d w=>Q4 P .eql T.b (.tmp 5) (.tmp 6) e d w fun f w=>K f w
theorem Q3m {a b:Value} {w:World} {K:Value→World→Prop} (h:Ij a b w K):Q1 P F.cM [a,b] w K:=X0 (List.replicate 2 none) Tryz.func237 rfl (by decide) (by kernel_rfl) h
def Q0S (c:Value) (w:World) (K:Value→World→Prop):Prop:= box P T.b c w fun a w=>H4 P T.a8 (.pointer (some ⟨G.a,0,none⟩)) none none none w fun d w=>M6 P (.func F.cM) [] [a] w fun b w=>Q1 P F.q [d,b] w fun e w=>K e w
theorem Q5v {a:Value} {w:World} {K:Value→World→Prop} (h:Q0S a w K):Q1 P F.cE [a] w K:=X0 (List.replicate 2 none) Tryz.func225 rfl (by decide) (by kernel_rfl) h
def Pm (p:Value) (w:World) (K:Value→World→Prop):Prop:= Q1 P F.cE [p] w fun o w=>Q4 P .lss T.e (.tmp 8) (.const (.int .i64 0)) o (.int .i64 0) w fun q w=>X1 q (K (.tuple #[(.bool false),(.bool false),(.bool false)]) w) (dr w fun a j=>Q7 a (fun d=> ∀w,j w→indexAddr P T.a8 (.pointer (some ⟨G.a,0,none⟩)) o w (dk a d w)) fun d=>Q7 a (fun f=> ∀i w,j w→d i w→fieldAddr P T.a6 i 1 w (dk a f w)) fun f=>Q7 a (fun c=> ∀w,j w→indexAddr P T.a8 (.pointer (some ⟨G.a,0,none⟩)) o w (dk a c w)) fun c=>Q7 a (fun g=> ∀e w,j w→c e w→fieldAddr P T.a6 e 2 w (dk a g w)) fun g=>Q7 a (fun k=> ∀h w,j w→f h w→Q2 P T.m h w (dk a k w)) fun k=>Q7 a (fun l=> ∀b w,j w→g b w→Q2 P T.m b w (dk a l w)) fun l=>∀i h e b n m w,j w→d i w→f h w→c e w→g b w→k n w→l m w→ K (.tuple #[n,m,(.bool true)]) w)
theorem Q3H {a:Value} {w:World} {K:Value→World→Prop} (h:Pm a w K):Q1 P F.bX [a] w K:=X0 (List.replicate 6 none) Tryz.func215 rfl (by decide) (by kernel_rfl) h
def Jf (a c:Value) (w:World) (K:Value→World→Prop):Prop:= Q1 P F.bF [a,c] w fun b w=>K b w
theorem Hl {a b:Value} {w:World} {K:Value→World→Prop} (h:Jf a b w K):Q1 P F.av [a,b] w K:=X0 (List.replicate 2 none) Tryz.func223 rfl (by decide) (by kernel_rfl) h
def Ke:V4:=[none,none,none,none,none,none,none,none,none,none,none,none,none,none,none,none,none,some ([8,10],[4,8,10,11,12,13,57,58,59,60,61,62,63,64,65,66,67,68,69,70,71,72,73,74,75,76,77,78,79,80,81,82,83,84,85,86,87,88,89,90,91,92,93,94,95,96,97,98,99,100,101,102,103,104,105,106,107,108,109,110,111,112,113,114,115,116,117,118,119,120,121,122,123,124,125,126,127,128,129,130,131,132,133,134,135,136,137,138,139,140,141,142]),none,none,some ([8],[4,8,11,60,61,62,63,64,65,66,67,68,69,70,71,72,73,74,75,76,77]),none,none,none,none,none,none,none,none,none,none,none,none,none,none,none,none,none,none,none,none,none,none,none]
def Md (h m:Value) (w:World) (K:Value→World→Prop):Prop:= X5 P .len [T.b] T.e [false] [m] w fun c w=>Q4 P .eql T.e (.tmp 17) (.const (.int .i64 0)) c (.int .i64 0) w fun k w=>Q0 k false w (fun w J=>J m w) fun a6 w=>Q0 k false w (fun w J=>J h w) fun aq w=>Q0 k false w (Q4 P .eql T.b (.tmp 20) (.tmp 21) a6 aq) fun ai w=>pick P k (.bool true) ai w fun a9 w=>X1 a9 (K (.int .i64 0) w) (Q4 P .eql T.e (.tmp 25) (.const (.int .i64 1)) c (.int .i64 1) w fun aa w=>X1 aa (E0 P T.b m (.int .i64 0) w fun ad w=>Q1 P F.av [h,ad] w fun a7 w=>K a7 w) (X5 P .len [T.b] T.e [false] [h] w fun az w=>Q4 P .geq T.e (.tmp 32) (.tmp 34) c az w fun bd w=>X1 bd (K (.int .i64 (-1)) w) (Q2 P T.e (.pointer (some ⟨G.c,0,none⟩)) w fun be w=>Q4 P .leq T.e (.tmp 37) (.tmp 38) c be w fun l w=>Q0 l true w (fun w J=>J h w) fun am w=>Q0 l true w (X5 P .len [T.b] T.e [false] [am]) fun bf w=>Q0 l true w (Q4 P .leq T.e (.tmp 42) (.const (.int .i64 64)) bf (.int .i64 64)) fun ba w=>pick P l ba (.bool false) w fun aj w=>X1 aj (Q1 P F.c4 [h,m] w fun ab w=>K ab w) (E0 P T.b m (.int .i64 0) w fun D w=>E0 P T.b m (.int .i64 1) w fun a3 w=>X5 P .len [T.b] T.e [false] [h] w fun ah w=>Q4 P .sub T.e (.tmp 53) (.tmp 54) ah c w fun ap w=>Q4 P .add T.e (.tmp 55) (.const (.int .i64 1)) ap (.int .i64 1) w fun q w=>lp (α:=Value×Value) ((.int .i64 0),(.int .i64 0)) w fun i g d_ w=>Q4 P .lss T.e (.tmp 57) (.tmp 58) g.1 q w fun ae w=>X1 ae (jn (α:=Value) w (fun A w=>E0 P T.b h g.1 w fun an w=>Q4 P .neq T.w (.tmp 62) (.tmp 63) an D w fun bb w=>X1 bb (Q4 P .add T.e (.tmp 66) (.const (.int .i64 1)) g.1 (.int .i64 1) w fun al w=>H4 P T.b h (some al) (some q) none w fun a8 w=>Q1 P F.av [a8,D] w fun H w=>Q4 P .lss T.e (.tmp 72) (.const (.int .i64 0)) H (.int .i64 0) w fun a2 w=>X1 a2 (K (.int .i64 (-1)) w) (Q4 P .add T.e (.tmp 75) (.const (.int .i64 1)) H (.int .i64 1) w fun aw w=>Q4 P .add T.e (.tmp 74) (.tmp 76) g.1 aw w fun bc w=>A bc w)) (A g.1 w)) fun j d_ w=>Q4 P .add T.e (.tmp 79) (.const (.int .i64 1)) j (.int .i64 1) w fun av w=>E0 P T.b h av w fun ay w=>Q4 P .eql T.w (.tmp 81) (.tmp 82) ay a3 w fun b w=>Q0 b true w (fun w J=>J h w) fun ao w=>Q0 b true w (fun w J=>J j w) fun ar w=>Q0 b true w (fun w J=>J j w) fun ax w=>Q0 b true w (fun w J=>J c w) fun ag w=>Q0 b true w (Q4 P .add T.e (.tmp 87) (.tmp 88) ax ag) fun a5 w=>Q0 b true w (H4 P T.b ao (some ar) (some a5) none) fun af w=>Q0 b true w (fun w J=>J m w) fun ak w=>Q0 b true w (Q4 P .eql T.b (.tmp 90) (.tmp 91) af ak) fun a4 w=>pick P b a4 (.bool false) w fun ac w=>X1 ac (K j w) (Q4 P .add T.e (.tmp 95) (.const (.int .i64 1)) j (.int .i64 1) w fun d w=>Q4 P .add T.e (.tmp 97) (.const (.int .i64 1)) g.2 (.int .i64 1) w fun p w=>Q2 P T.e (.pointer (some ⟨G.c,0,none⟩)) w fun Z w=>Q4 P .leq T.e (.tmp 99) (.tmp 100) c Z w fun e w=>Q0 e true w (fun w J=>J p w) fun O w=>Q0 e true w (fun w J=>J d w) fun N w=>Q0 e true w (Q1 P F.cQ [N]) fun E w=>Q0 e true w (Q4 P .gtr T.e (.tmp 103) (.tmp 105) O E) fun z w=>pick P e z (.bool false) w fun Y w=>X1 Y (H4 P T.b h (some d) none none w fun B w=>Q1 P F.c4 [B,m] w fun n w=>Q4 P .geq T.e (.tmp 113) (.const (.int .i64 0)) n (.int .i64 0) w fun v w=>X1 v (Q4 P .add T.e (.tmp 115) (.tmp 116) n d w fun W w=>K W w) (K (.int .i64 (-1)) w)) (Q2 P T.e (.pointer (some ⟨G.c,0,none⟩)) w fun M w=>Q4 P .gtr T.e (.tmp 118) (.tmp 119) c M w fun a w=>Q0 a true w (fun w J=>J p w) fun C w=>Q0 a true w (fun w J=>J d w) fun R w=>Q0 a true w (Q4 P .shr T.e (.tmp 123) (.const (.int .u64 4)) R (.int .u64 4)) fun V w=>Q0 a true w (Q4 P .add T.e (.const (.int .i64 4)) (.tmp 124) (.int .i64 4) V) fun U w=>Q0 a true w (Q4 P .geq T.e (.tmp 122) (.tmp 125) C U) fun X w=>pick P a X (.bool false) w fun f w=>Q0 f true w (fun w J=>J d w) fun r w=>Q0 f true w (fun w J=>J q w) fun u w=>Q0 f true w (Q4 P .lss T.e (.tmp 129) (.tmp 130) r u) fun L w=>pick P f L (.bool false) w fun Q w=>X1 Q (H4 P T.b h (some d) none none w fun s w=>Q1 P F.cy [s,m] w fun o w=>Q4 P .lss T.e (.tmp 138) (.const (.int .i64 0)) o (.int .i64 0) w fun y w=>X1 y (K (.int .i64 (-1)) w) (Q4 P .add T.e (.tmp 140) (.tmp 141) d o w fun t w=>K t w)) (i (d,p) w)))) (K (.int .i64 (-1)) w)))))
theorem Iu {a b:Value} {w:World} {K:Value→World→Prop} (h:Md a b w K):Q1 P F.bs [a,b] w K:=X0 Ke Tryz.func222 rfl (by decide) (by kernel_rfl) h
def Om (l n:Value) (w:World) (K:Value→World→Prop):Prop:= Q1 P F.bs [l,n] w fun h w=>Q4 P .geq T.e (.tmp 11) (.const (.int .i64 0)) h (.int .i64 0) w fun m w=>X1 m (dr w fun e i=>Q7 e (fun g=> ∀w,i w→H4 P T.b l none (some h) none w (dk e g w)) fun g=>Q7 e (fun a=> ∀w,i w→X5 P .len [T.b] T.e [false] [n] w (dk e a w)) fun a=>Q7 e (fun b=> ∀c w,i w→a c w→Q4 P .add T.e (.tmp 17) (.tmp 19) h c w (dk e b w)) fun b=>Q7 e (fun f=> ∀d w,i w→b d w→H4 P T.b l (some d) none none w (dk e f w)) fun f=>∀j c d k w,i w→g j w→a c w→b d w→f k w→ K (.tuple #[j,k,(.bool true)]) w) (K (.tuple #[l,(.string ⟨#[]⟩),(.bool false)]) w)
theorem Q0m {a b:Value} {w:World} {K:Value→World→Prop} (h:Om a b w K):Q1 P F.cx [a,b] w K:=X0 (List.replicate 6 none) Tryz.func207 rfl (by decide) (by kernel_rfl) h
def Ik (e f:Value) (w:World) (K:Value→World→Prop):Prop:= Q1 P F.cx [e,f] w fun d w=>ext P d 0 w fun c w=>ext P d 1 w fun b w=>ext P d 2 w fun a w=>K (.tuple #[c,b,a]) w
theorem Q3n {a b:Value} {w:World} {K:Value→World→Prop} (h:Ik a b w K):Q1 P F.ce [a,b] w K:=X0 (List.replicate 2 none) Tryz.func178 rfl (by decide) (by kernel_rfl) h
def Tj (t:Value) (w:World) (K:Value→World→Prop):Prop:= Q1 P F.ce [t,(.string ⟨#[46]⟩)] w fun d w=>ext P d 0 w fun f w=>ext P d 1 w fun e w=>ext P d 2 w fun r w=>Z8 P .not r w fun b w=>Q0 b false w (fun w J=>J f w) fun l w=>Q0 b false w (Q1 P F.ah [l]) fun m w=>Q0 b false w (Z8 P .not m) fun q w=>pick P b (.bool true) q w fun c w=>Q0 c false w (fun w J=>J e w) fun j w=>Q0 c false w (Q1 P F.bH [j]) fun n w=>Q0 c false w (Z8 P .not n) fun h w=>pick P c (.bool true) h w fun a w=>Q0 a false w (fun w J=>J e w) fun i w=>Q0 a false w (E0 P T.b i (.int .i64 0)) fun p w=>Q0 a false w (conv P T.w T.af p) fun g w=>Q0 a false w (Q1 P F.bV [g]) fun k w=>Q0 a false w (Z8 P .not k) fun s w=>pick P a (.bool true) s w fun o w=>X1 o (K (.tuple #[(.string ⟨#[]⟩),(.string ⟨#[]⟩),(.int .i64 30)]) w) (K (.tuple #[f,e,(.int .i64 0)]) w)
theorem Q4J {a:Value} {w:World} {K:Value→World→Prop} (h:Tj a w K):Q1 P F.cv [a] w K:=X0 (List.replicate 6 none) Tryz.func130 rfl (by decide) (by kernel_rfl) h
end Go.Proofs.YtfppjenblllfaaaGreatDoor

set_option maxRecDepth 100000
namespace Go.Proofs.YtfppjenblllfaaaGreatDoor
open Go.Emb
def Q0I (c:Value) (w:World) (K:Value→World→Prop):Prop:= Q1 P F.c6 [c] w fun d w=>ext P d 0 w fun f w=>ext P d 1 w fun e w=>Q1 P F.a2 [c] w fun b w=>Z8 P .not b w fun a w=>X1 a (K (.int .i64 0) w) (K e w)
theorem Q5t {a:Value} {w:World} {K:Value→World→Prop} (h:Q0I a w K):Q1 P F.cF [a] w K:=X0 (List.replicate 6 none) Tryz.func228 rfl (by decide) (by kernel_rfl) h
def Q5e:V4:=[none,none,none,none,none,none,none,some ([27],[27,28,29]),none,none,none,none,none,none]
def Q0z (g c:Value) (w:World) (K:Value→World→Prop):Prop:= Q4 P .eql T.b (.tmp 8) (.const (.string ⟨#[119,111,114,100]⟩)) g (.string ⟨#[119,111,114,100]⟩) w fun v w=>X1 v (X5 P .len [T.b] T.e [false] [c] w fun D w=>Q4 P .leq T.e (.tmp 12) (.const (.int .i64 64)) D (.int .i64 64) w fun f w=>Q0 f true w (fun w J=>J c w) fun t w=>Q0 f true w (Q1 P F.bA [t]) fun k w=>pick P f k (.bool false) w fun b w=>Q0 b true w (fun w J=>J c w) fun z w=>Q0 b true w (Q1 P F.co [z,(.string ⟨#[10]⟩)]) fun u w=>Q0 b true w (Z8 P .not u) fun A w=>pick P b A (.bool false) w fun p w=>K p w) (Q4 P .eql T.b (.tmp 8) (.const (.string ⟨#[110,101,119]⟩)) g (.string ⟨#[110,101,119]⟩) w fun m w=>X1 m (Q1 P F.ah [c] w fun i w=>K i w) (jn (α:=Value) w (fun L w=>Q4 P .eql T.b (.tmp 8) (.const (.string ⟨#[105,115]⟩)) g (.string ⟨#[105,115]⟩) w fun h w=>X1 h (L h w) (Q4 P .eql T.b (.tmp 8) (.const (.string ⟨#[99,97,115,116]⟩)) g (.string ⟨#[99,97,115,116]⟩) w fun l w=>L l w)) fun M Q w=>X1 M (Q1 P F.a2 [c] w fun d w=>Q0 d true w (fun w J=>J c w) fun s w=>Q0 d true w (Q1 P F.af [s]) fun j w=>Q0 d true w (Z8 P .not j) fun B w=>pick P d B (.bool false) w fun H w=>K H w) (Q4 P .eql T.b (.tmp 8) (.const (.string ⟨#[97,114,114,97,121]⟩)) g (.string ⟨#[97,114,114,97,121]⟩) w fun C w=>X1 C (Q1 P F.a2 [c] w fun a w=>Q0 a true w (fun w J=>J c w) fun E w=>Q0 a true w (Q1 P F.cF [E]) fun y w=>Q0 a true w (Q4 P .lss T.e (.tmp 43) (.const (.int .i64 3)) y (.int .i64 3)) fun r w=>pick P a r (.bool false) w fun n w=>K n w) (Q1 P F.cv [c] w fun e w=>ext P e 0 w fun O w=>ext P e 1 w fun N w=>ext P e 2 w fun q w=>Q4 P .eql T.r (.tmp 52) (.const (.int .i64 0)) q (.int .i64 0) w fun o w=>K o w))))
theorem Q5B {a b:Value} {w:World} {K:Value→World→Prop} (h:Q0z a b w K):Q1 P F.cD [a,b] w K:=X0 Q5e Tryz.func216 rfl (by decide) (by kernel_rfl) h
def Q45:V4:=[none,none,none,none,none,some ([16],[16,17,18,19,20,21,22,23,24,25,26,27,28,29,30,31,32,33,34,35,36,37,38,39]),none,none,none,none]
def Ta (B:Value) (w:World) (K:Value→World→Prop):Prop:= box P T.n B w fun a w=>fieldAddr P T.n a 0 w fun C w=>Q2 P T.b C w fun A w=>Q1 P F.bX [A] w fun j w=>ext P j 0 w fun p w=>ext P j 1 w fun b w=>ext P j 2 w fun v w=>Z8 P .not v w fun n w=>X1 n (K (.int .i64 40) w) (jn (α:=Value) w (fun m w=>Z8 P .not p w fun c w=>Q0 c true w (fieldAddr P T.n a 1) fun o w=>Q0 c true w (Q2 P T.al o) fun s w=>Q0 c true w (Q4 P .neq T.al (.tmp 21) (.const (.int .i64 0)) s (.int .i64 0)) fun k w=>pick P c k (.bool false) w fun f w=>X1 f (m f w) (Z8 P .not b w fun d w=>Q0 d true w (fieldAddr P T.n a 2) fun i w=>Q0 d true w (Q2 P T.b i) fun q w=>Q0 d true w (Q4 P .neq T.b (.tmp 28) (.const (.string ⟨#[]⟩)) q (.string ⟨#[]⟩)) fun h w=>pick P d h (.bool false) w fun e w=>X1 e (m e w) (Q0 b true w (fieldAddr P T.n a 0) fun l w=>Q0 b true w (Q2 P T.b l) fun g w=>Q0 b true w (fieldAddr P T.n a 2) fun t w=>Q0 b true w (Q2 P T.b t) fun z w=>Q0 b true w (Q1 P F.cD [g,z]) fun y w=>Q0 b true w (Z8 P .not y) fun u w=>pick P b u (.bool false) w fun r w=>m r w))) fun D E w=>X1 D (K (.int .i64 41) w) (K (.int .i64 0) w))
theorem Q3T {a:Value} {w:World} {K:Value→World→Prop} (h:Ta a w K):Q1 P F.cw [a] w K:=X0 Q45 Tryz.func198 rfl (by decide) (by kernel_rfl) h
def Ev (c:Value) (w:World) (K:Value→World→Prop):Prop:= box P T.n c w fun a w=>Q2 P T.n a w fun d w=>Q1 P F.cw [d] w fun b w=>Q4 P .eql T.r (.tmp 4) (.const (.int .i64 0)) b (.int .i64 0) w fun e w=>K e w
theorem Q18 {a:Value} {w:World} {K:Value→World→Prop} (h:Ev a w K):Q1 P F.b6 [a] w K:=X0 (List.replicate 2 none) Tryz.func197 rfl (by decide) (by kernel_rfl) h
def Xa:V4:=[none,none,none,some ([8],[4,5,8,9,10,11,12,13,14,15,16,17,18]),none,none,none,none,none,none,none]
def R5 (g i:Value) (w:World) (K:Value→World→Prop):Prop:= X5 P .len [T.o] T.e [false] [g] w fun h w=>lp (α:=Value) (.int .i64 0) w fun a b k w=>Q4 P .lss T.e (.tmp 8) (.tmp 7) b h w fun j w=>X1 j (indexAddr P T.o g b w fun d w=>Q2 P T.p d w fun f w=>Z1 P i [f] w fun c w=>X1 c (K b w) (Q4 P .add T.e (.tmp 8) (.const (.int .i64 1)) b (.int .i64 1) w fun e w=>a e w)) (K (.int .i64 (-1)) w)
theorem Xf {a b:Value} {w:World} {K:Value→World→Prop} (h:R5 a b w K):Q1 P F.a0 [a,b] w K:=X0 Xa Tryz.func229 rfl (by decide) (by kernel_rfl) h
def H6 (b d:Value) (w:World) (K:Value→World→Prop):Prop:= Q1 P F.a0 [b,d] w fun c w=>Q4 P .geq T.e (.tmp 7) (.const (.int .i64 0)) c (.int .i64 0) w fun a w=>K a w
theorem T6 {a b:Value} {w:World} {K:Value→World→Prop} (h:H6 a b w K):Q1 P F.m [a,b] w K:=X0 (List.replicate 2 none) Tryz.func217 rfl (by decide) (by kernel_rfl) h
def Yi (c g:Value) (w:World) (K:Value→World→Prop):Prop:= box P T.p c w fun a w=>Q2 P T.aa g w fun b w=>Q2 P T.p a w fun e w=>Z1 P b [e] w fun d w=>Z8 P .not d w fun f w=>K f w
theorem Ot {a b:Value} {w:World} {K:Value→World→Prop} (h:Yi a b w K):Q1 P F.bE [a,b] w K:=X0 (List.replicate 2 none) Tryz.func218 rfl (by decide) (by kernel_rfl) h
def Jd (c f:Value) (w:World) (K:Value→World→Prop):Prop:= box P T.aa f w fun a w=>M6 P (.func F.bE) [] [a] w fun d w=>Q1 P F.m [c,d] w fun e w=>Z8 P .not e w fun b w=>K b w
theorem Hn {a b:Value} {w:World} {K:Value→World→Prop} (h:Jd a b w K):Q1 P F.au [a,b] w K:=X0 (List.replicate 2 none) Tryz.func199 rfl (by decide) (by kernel_rfl) h
def Ci (a0:Value) (w:World) (K:Value→World→Prop):Prop:= box P T.c a0 w fun b w=>fieldAddr P T.c b 0 w fun t5 w=>Q2 P T.b t5 w fun t6 w=>Q1 P F.bx [t6] w fun t7 w=>Z8 P .not t7 w fun i w=>Q0 i false w (fieldAddr P T.c b 1) fun N w=>Q0 i false w (Q2 P T.d N) fun al w=>Q0 i false w (Q1 P F.a5 [al,(.func (.func F.a2) #[] #[])]) fun ai w=>Q0 i false w (Z8 P .not ai) fun ad w=>pick P i (.bool true) ad w fun c w=>Q0 c false w (fieldAddr P T.c b 2) fun n w=>Q0 c false w (Q2 P T.b n) fun L w=>Q0 c false w (Q4 P .neq T.b (.tmp 17) (.const (.string ⟨#[]⟩)) L (.string ⟨#[]⟩)) fun H w=>Q0 c false w (fun w J=>J H w) fun e w=>Q0 e true w (fieldAddr P T.c b 2) fun E w=>Q0 e true w (Q2 P T.b E) fun ae w=>Q0 e true w (Q1 P F.a2 [ae]) fun y w=>Q0 e true w (Z8 P .not y) fun O w=>Q0 c false w (pick P e O (.bool false)) fun r w=>pick P c (.bool true) r w fun V w=>X1 V (K (.bool false) w) (fieldAddr P T.c b 3 w fun j w=>Q2 P T.m j w fun t w=>X1 t (fieldAddr P T.c b 4 w fun U w=>Q2 P T.e U w fun o w=>Q4 P .eql T.e (.tmp 29) (.const (.int .i64 0)) o (.int .i64 0) w fun d w=>Q0 d true w (fieldAddr P T.c b 5) fun Q w=>Q0 d true w (Q2 P T.l Q) fun C w=>Q0 d true w (X5 P .len [T.l] T.e [false] [C]) fun k w=>Q0 d true w (Q4 P .eql T.e (.tmp 34) (.const (.int .i64 0)) k (.int .i64 0)) fun af w=>pick P d af (.bool false) w fun g w=>Q0 g true w (fieldAddr P T.c b 6) fun ah w=>Q0 g true w (Q2 P T.o ah) fun Z w=>Q0 g true w (X5 P .len [T.o] T.e [false] [Z]) fun B w=>Q0 g true w (Q4 P .eql T.e (.tmp 40) (.const (.int .i64 0)) B (.int .i64 0)) fun Y w=>pick P g Y (.bool false) w fun aj w=>K aj w) (fieldAddr P T.c b 5 w fun R w=>Q2 P T.l R w fun A w=>X5 P .len [T.l] T.e [false] [A] w fun s w=>W6 P T.e w fun M w=>Z4 P T.e M s w fun _u w=>M6 P (.func F.b5) [] [M] w fun ag w=>Q2 P T.e M w fun l w=>Q4 P .gtr T.e (.tmp 47) (.const (.int .i64 0)) l (.int .i64 0) w fun a w=>Q0 a true w (fieldAddr P T.c b 4) fun p w=>Q0 a true w (Q2 P T.e p) fun z w=>Q0 a true w (fieldAddr P T.c b 1) fun W w=>Q0 a true w (Q2 P T.d W) fun v w=>Q0 a true w (X5 P .len [T.d] T.e [false] [v]) fun D w=>Q0 a true w (Q4 P .gtr T.e (.tmp 51) (.tmp 54) z D) fun ac w=>pick P a ac (.bool false) w fun h w=>Q0 h true w (fieldAddr P T.c b 5) fun m w=>Q0 h true w (Q2 P T.l m) fun q w=>Q0 h true w (Q1 P F.ar [q,(.func (.func F.b6) #[] #[])]) fun am w=>pick P h am (.bool false) w fun f w=>Q0 f true w (fieldAddr P T.c b 6) fun u w=>Q0 f true w (Q2 P T.o u) fun ab w=>Q0 f true w (fun w J=>J ag w) fun X w=>Q0 f true w (Q1 P F.au [ab,X]) fun ak w=>pick P f ak (.bool false) w fun aa w=>K aa w))
theorem Q29 {a:Value} {w:World} {K:Value→World→Prop} (h:Ci a w K):Q1 P F.aY [a] w K:=X0 (List.replicate 10 none) Tryz.func156 rfl (by decide) (by kernel_rfl) h
def Gy (a0:Value) (w:World) (K:Value→World→Prop):Prop:= box P T.a a0 w fun b w=>fieldAddr P T.a b 0 w fun t7 w=>Q2 P T.b t7 w fun t8 w=>fieldAddr P T.a b 1 w fun t9 w=>Q2 P T.b t9 w fun V w=>buildSlice P T.d 2 [(0,t8),(1,V)] w fun al w=>fieldAddr P T.a b 2 w fun bd w=>Q2 P T.d bd w fun ad w=>X5 P .append [T.d,T.d] T.d [false,false] [al,ad] w fun q w=>dr w fun o u=>Q7 o (fun n=> ∀w,u w→H4 P T.d q (some (.int .i64 1)) none none w (dk o n w)) fun n=>Q7 o (fun h=> ∀w,u w→fieldAddr P T.a b 0 w (dk o h w)) fun h=>Q7 o (fun l=> ∀f w,u w→h f w→Q2 P T.b f w (dk o l w)) fun l=>∀p f t w,u w→n p w→h f w→l t w→ Q1 P F.ad [p,t] w fun ac w=>fieldAddr P T.a b 7 w fun az w=>Q2 P T.g az w fun ae w=>Q1 P F.a [ae,(.func (.func F.bY) #[] #[])] w fun M w=>fieldAddr P T.a b 7 w fun a2 w=>Q2 P T.g a2 w fun D w=>Q1 P F.a [D,(.func (.func F.bZ) #[] #[])] w fun X w=>Q1 P F.a5 [q,(.func (.func F.ah) #[] #[])] w fun W w=>Z8 P .not W w fun r w=>Q0 r false w (fun w J=>J ac w) fun ba w=>pick P r (.bool true) ba w fun e w=>Q0 e false w (fieldAddr P T.a b 2) fun ap w=>Q0 e false w (Q2 P T.d ap) fun a7 w=>Q0 e false w (Q1 P F.aJ [a7,(.func (.func F.c0) #[] #[])]) fun ao w=>Q0 e false w (Z8 P .not ao) fun am w=>pick P e (.bool true) am w fun bb w=>X1 bb (K (.bool false) w) (fieldAddr P T.a b 3 w fun ax w=>Q2 P T.m ax w fun a w=>Q0 a true w (fieldAddr P T.a b 4) fun a3 w=>Q0 a true w (Q2 P T.m a3) fun N w=>Q0 a true w (Z8 P .not N) fun H w=>Q0 a true w (fun w J=>J H w) fun k w=>Q0 k false w (fieldAddr P T.a b 1) fun v w=>Q0 k false w (Q2 P T.b v) fun aa w=>Q0 k false w (Q4 P .neq T.b (.tmp 48) (.const (.string ⟨#[79,98,106,101,99,116]⟩)) aa (.string ⟨#[79,98,106,101,99,116]⟩)) fun af w=>Q0 a true w (pick P k (.bool true) af) fun aq w=>Q0 a true w (fun w J=>J aq w) fun d w=>Q0 d false w (fieldAddr P T.a b 6) fun a4 w=>Q0 d false w (Q2 P T.i a4) fun L w=>Q0 d false w (X5 P .len [T.i] T.e [false] [L]) fun O w=>Q0 d false w (Q4 P .gtr T.e (.tmp 54) (.const (.int .i64 0)) O (.int .i64 0)) fun ab w=>Q0 a true w (pick P d (.bool true) ab) fun a6 w=>Q0 a true w (fun w J=>J a6 w) fun s w=>Q0 s false w (fun w J=>J X w) fun y w=>Q0 a true w (pick P s (.bool true) y) fun B w=>pick P a B (.bool false) w fun an w=>X1 an (K (.bool false) w) (fieldAddr P T.a b 4 w fun Y w=>Q2 P T.m Y w fun m w=>Q0 m true w (fieldAddr P T.a b 5) fun a5 w=>Q0 m true w (Q2 P T.m a5) fun aj w=>pick P m aj (.bool false) w fun g w=>Q0 g false w (fun w J=>J M w) fun a1 w=>Q0 g false w (fun w J=>J a1 w) fun i w=>Q0 i true w (fieldAddr P T.a b 4) fun ai w=>Q0 i true w (Q2 P T.m ai) fun A w=>Q0 i true w (Z8 P .not A) fun av w=>Q0 g false w (pick P i av (.bool false)) fun Q w=>pick P g (.bool true) Q w fun aw w=>X1 aw (K (.bool false) w) (fieldAddr P T.a b 6 w fun a8 w=>Q2 P T.i a8 w fun a9 w=>Q1 P F.ay [a9,(.func (.func F.c1) #[] #[])] w fun bc w=>Z8 P .not bc w fun c w=>Q0 c false w (fieldAddr P T.a b 7) fun ar w=>Q0 c false w (Q2 P T.g ar) fun U w=>Q0 c false w (Q1 P F.ao [U,(.func (.func F.c2) #[] #[])]) fun ag w=>Q0 c false w (Z8 P .not ag) fun Z w=>pick P c (.bool true) Z w fun ah w=>X1 ah (K (.bool false) w) (fieldAddr P T.a b 6 w fun ak w=>Q2 P T.i ak w fun E w=>Q1 P F.ap [E,(.func (.func F.bm) #[] #[])] w fun j w=>Q0 j true w (fieldAddr P T.a b 7) fun R w=>Q0 j true w (Q2 P T.g R) fun ay w=>Q0 j true w (Q1 P F.al [ay,(.func (.func F.aY) #[] #[])]) fun z w=>pick P j z (.bool false) w fun C w=>K C w))))
theorem Q3i {a:Value} {w:World} {K:Value→World→Prop} (h:Gy a w K):Q1 P F.cd [a] w K:=X0 (List.replicate 15 none) Tryz.func95 rfl (by decide) (by kernel_rfl) h
def Ig (d:Value) (w:World) (K:Value→World→Prop):Prop:= box P T.a d w fun a w=>Q2 P T.a a w fun b w=>Q1 P F.cu [b] w fun e w=>X1 e (K (.int .i64 51) w) (Q2 P T.a a w fun f w=>Q1 P F.cd [f] w fun c w=>Z8 P .not c w fun g w=>X1 g (K (.int .i64 50) w) (K (.int .i64 0) w))
theorem Q3p {a:Value} {w:World} {K:Value→World→Prop} (h:Ig a w K):Q1 P F.cb [a] w K:=X0 (List.replicate 7 none) Tryz.func45 rfl (by decide) (by kernel_rfl) h
def N6 (a:Value) (w:World) (K:Value→World→Prop):Prop:= Q4 P .eql T.d (.tmp 3) (.const (.slice none 0 0)) a (.slice none 0 0) w fun b w=>X1 b (K (.slice none 0 0) w) (buildSlice P T.d 0 [] w fun c w=>X5 P .append [T.d,T.d] T.d [false,false] [c,a] w fun d w=>K d w)
theorem R7 {a:Value} {w:World} {K:Value→World→Prop} (h:N6 a w K):Q1 P F.b [a] w K:=X0 (List.replicate 5 none) Tryz.func35 rfl (by decide) (by kernel_rfl) h
def B9 (a:Value) (w:World) (K:Value→World→Prop):Prop:= Q4 P .eql T.i (.tmp 3) (.const (.slice none 0 0)) a (.slice none 0 0) w fun b w=>X1 b (K (.slice none 0 0) w) (buildSlice P T.i 0 [] w fun c w=>X5 P .append [T.i,T.i] T.i [false,false] [c,a] w fun d w=>K d w)
theorem Yz {a:Value} {w:World} {K:Value→World→Prop} (h:B9 a w K):Q1 P F.a9 [a] w K:=X0 (List.replicate 5 none) Tryz.func96 rfl (by decide) (by kernel_rfl) h
def F3 (a:Value) (w:World) (K:Value→World→Prop):Prop:= Q4 P .eql T.l (.tmp 3) (.const (.slice none 0 0)) a (.slice none 0 0) w fun b w=>X1 b (K (.slice none 0 0) w) (buildSlice P T.l 0 [] w fun c w=>X5 P .append [T.l,T.l] T.l [false,false] [c,a] w fun d w=>K d w)
theorem Yv {a:Value} {w:World} {K:Value→World→Prop} (h:F3 a w K):Q1 P F.aa [a] w K:=X0 (List.replicate 5 none) Tryz.func157 rfl (by decide) (by kernel_rfl) h
def B8 (a:Value) (w:World) (K:Value→World→Prop):Prop:= Q4 P .eql T.o (.tmp 3) (.const (.slice none 0 0)) a (.slice none 0 0) w fun b w=>X1 b (K (.slice none 0 0) w) (buildSlice P T.o 0 [] w fun c w=>X5 P .append [T.o,T.o] T.o [false,false] [c,a] w fun d w=>K d w)
theorem Zg {a:Value} {w:World} {K:Value→World→Prop} (h:B8 a w K):Q1 P F.ab [a] w K:=X0 (List.replicate 5 none) Tryz.func158 rfl (by decide) (by kernel_rfl) h
def Ic (D:Value) (w:World) (K:Value→World→Prop):Prop:= box P T.c D w fun a w=>W6 P T.c w fun A w=>dr w fun b c=>Q7 b (fun n=> ∀w,c w→fieldAddr P T.c a 1 w (dk b n w)) fun n=>Q7 b (fun j=> ∀w,c w→fieldAddr P T.c a 5 w (dk b j w)) fun j=>Q7 b (fun q=> ∀w,c w→fieldAddr P T.c a 6 w (dk b q w)) fun q=>Q7 b (fun l=> ∀o w,c w→n o w→Q2 P T.d o w (dk b l w)) fun l=>Q7 b (fun z=> ∀p w,c w→l p w→Q1 P F.b [p] w (dk b z w)) fun z=>Q7 b (fun s=> ∀r w,c w→j r w→Q2 P T.l r w (dk b s w)) fun s=>Q7 b (fun u=> ∀k w,c w→s k w→Q1 P F.aa [k] w (dk b u w)) fun u=>Q7 b (fun e=> ∀m w,c w→q m w→Q2 P T.o m w (dk b e w)) fun e=>Q7 b (fun g=> ∀w,c w→fieldAddr P T.c a 1 w (dk b g w)) fun g=>Q7 b (fun f=> ∀d w,c w→e d w→Q1 P F.ab [d] w (dk b f w)) fun f=>∀o r m p C k B d h i w,c w→n o w→j r w→q m w→l p w→z C w→s k w→u B w→e d w→g h w→f i w→ Z4 P T.d h C w fun _u w=>fieldAddr P T.c a 5 w fun y w=>Z4 P T.l y B w fun _u w=>fieldAddr P T.c a 6 w fun t w=>Z4 P T.o t i w fun _u w=>Q2 P T.c a w fun v w=>Z4 P T.c A v w fun _u w=>V7 P T.c A w fun E=>K E w
theorem Q3q {a:Value} {w:World} {K:Value→World→Prop} (h:Ic a w K):Q1 P F.bK [a] w K:=X0 (List.replicate 3 none) Tryz.func97 rfl (by decide) (by kernel_rfl) h
def Q3s:V4:=[none,none,none,none,none,some ([3,17],[3,5,17,18,19,20,21,22,23,24,25,26]),none,none,none,none,none,none]
def Gx (Q:Value) (w:World) (K:Value→World→Prop):Prop:= box P T.a Q w fun a w=>W6 P T.a w fun N w=>dr w fun b g=>Q7 b (fun n=> ∀w,g w→fieldAddr P T.a a 2 w (dk b n w)) fun n=>Q7 b (fun q=> ∀w,g w→fieldAddr P T.a a 6 w (dk b q w)) fun q=>Q7 b (fun s=> ∀r w,g w→n r w→Q2 P T.d r w (dk b s w)) fun s=>Q7 b (fun A=> ∀o w,g w→s o w→Q1 P F.b [o] w (dk b A w)) fun A=>Q7 b (fun f=> ∀p w,g w→q p w→Q2 P T.i p w (dk b f w)) fun f=>Q7 b (fun i=> ∀w,g w→fieldAddr P T.a a 2 w (dk b i w)) fun i=>Q7 b (fun h=> ∀e w,g w→f e w→Q1 P F.a9 [e] w (dk b h w)) fun h=>∀r p o O e l m w,g w→n r w→q p w→s o w→A O w→f e w→i l w→h m w→ Z4 P T.d l O w fun _u w=>fieldAddr P T.a a 6 w fun M w=>Z4 P T.i M m w fun _u w=>fieldAddr P T.a a 7 w fun v w=>Q2 P T.g v w fun k w=>X5 P .len [T.g] T.e [false] [k] w fun u w=>lp (α:=Value×Value) ((.slice none 0 0),(.int .i64 0)) w fun d j U w=>Q4 P .lss T.e (.tmp 17) (.tmp 16) j.2 u w fun D w=>X1 D (indexAddr P T.g k j.2 w fun L w=>Q2 P T.c L w fun C w=>W6 P T.c w fun c w=>Z4 P T.c c C w fun _u w=>Q2 P T.c c w fun B w=>Q1 P F.bK [B] w fun E w=>buildSlice P T.g 1 [(0,E)] w fun z w=>X5 P .append [T.g,T.g] T.g [false,false] [j.1,z] w fun J w=>Q4 P .add T.e (.tmp 17) (.const (.int .i64 1)) j.2 (.int .i64 1) w fun t w=>d (J,t) w) (fieldAddr P T.a a 7 w fun H w=>Z4 P T.g H j.1 w fun _u w=>Q2 P T.a a w fun y w=>Z4 P T.a N y w fun _u w=>V7 P T.a N w fun R=>K R w)
theorem Q3l {a:Value} {w:World} {K:Value→World→Prop} (h:Gx a w K):Q1 P F.cc [a] w K:=X0 Q3s Tryz.func46 rfl (by decide) (by kernel_rfl) h
def Wc (s v:Value) (w:World) (K:Value→World→Prop):Prop:= W6 P T.a w fun t w=>dr w fun a h=>Q7 a (fun k=> ∀w,h w→nilCheck P s w (dk a k w)) fun k=>Q7 a (fun n=> ∀m w,h w→k m w→fieldAddr P T.u m 0 w (dk a n w)) fun n=>Q7 a (fun e=> ∀w,h w→nilCheck P s w (dk a e w)) fun e=>Q7 a (fun b=> ∀d w,h w→e d w→fieldAddr P T.u d 1 w (dk a b w)) fun b=>Q7 a (fun p=> ∀l w,h w→n l w→Q2 P T.h l w (dk a p w)) fun p=>Q7 a (fun c=> ∀g w,h w→b g w→Q2 P T.v g w (dk a c w)) fun c=>Q7 a (fun i=> ∀f w,h w→c f w→lookup P T.v f v false w (dk a i w)) fun i=>∀m l d g r f j w,h w→k m w→n l w→e d w→b g w→p r w→c f w→i j w→ indexAddr P T.h r j w fun q w=>Q2 P T.a q w fun o w=>Z4 P T.a t o w fun _u w=>V7 P T.a t w fun u=>K u w
theorem By {a b:Value} {w:World} {K:Value→World→Prop} (h:Wc a b w K):Q1 P F.h [a,b] w K:=X0 (List.replicate 2 none) Tryz.func60 rfl (by decide) (by kernel_rfl) h
def So:V4:=[none,none,none,none,none,none,some ([29],[4,6,29,30,31,32,33,34,35,36,37,38,39,40,41,42,43,44]),none,none,none,none,none,none,none]
def Ur (f R:Value) (w:World) (K:Value→World→Prop):Prop:= box P T.a R w fun a w=>fieldAddr P T.a a 1 w fun O w=>Q2 P T.b O w fun Q w=>Q1 P F.k [f,Q] w fun u w=>Z8 P .not u w fun c w=>Q0 c false w (fun w J=>J f w) fun E w=>Q0 c false w (fieldAddr P T.a a 1) fun k w=>Q0 c false w (Q2 P T.b k) fun p w=>Q0 c false w (Q1 P F.h [E,p]) fun j w=>Q0 c false w (Vn P T.a j 3) fun t w=>pick P c (.bool true) t w fun b w=>Q0 b false w (fun w J=>J f w) fun r w=>Q0 b false w (fieldAddr P T.a a 1) fun D w=>Q0 b false w (Q2 P T.b D) fun m w=>Q0 b false w (Q1 P F.h [r,m]) fun v w=>Q0 b false w (Vn P T.a v 5) fun l w=>pick P b (.bool true) l w fun A w=>X1 A (K (.int .i64 61) w) (fieldAddr P T.a a 2 w fun i w=>Q2 P T.d i w fun g w=>X5 P .len [T.d] T.e [false] [g] w fun z w=>lp (α:=Value) (.int .i64 0) w fun e q U w=>Q4 P .lss T.e (.tmp 29) (.tmp 28) q z w fun s w=>X1 s (indexAddr P T.d g q w fun L w=>Q2 P T.b L w fun h w=>Q1 P F.k [f,h] w fun H w=>Z8 P .not H w fun d w=>Q0 d false w (fun w J=>J f w) fun M w=>Q0 d false w (fun w J=>J h w) fun C w=>Q0 d false w (Q1 P F.h [M,C]) fun o w=>Q0 d false w (Vn P T.a o 3) fun B w=>Q0 d false w (Z8 P .not B) fun N w=>pick P d (.bool true) N w fun y w=>X1 y (K (.int .i64 62) w) (Q4 P .add T.e (.tmp 29) (.const (.int .i64 1)) q (.int .i64 1) w fun n w=>e n w)) (K (.int .i64 0) w))
theorem Cw {a b:Value} {w:World} {K:Value→World→Prop} (h:Ur a b w K):Q1 P F.b0 [a,b] w K:=X0 So Tryz.func47 rfl (by decide) (by kernel_rfl) h
def Qy:V4:=[none,none,none,some ([8],[4,5,8,9,10,11,12,13,14,15,16,17,18]),none,none,none,none,none,none,none]
def R8 (g i:Value) (w:World) (K:Value→World→Prop):Prop:= X5 P .len [T.h] T.e [false] [g] w fun h w=>lp (α:=Value) (.int .i64 0) w fun a b k w=>Q4 P .lss T.e (.tmp 8) (.tmp 7) b h w fun j w=>X1 j (indexAddr P T.h g b w fun d w=>Q2 P T.a d w fun f w=>Z1 P i [f] w fun c w=>X1 c (K b w) (Q4 P .add T.e (.tmp 8) (.const (.int .i64 1)) b (.int .i64 1) w fun e w=>a e w)) (K (.int .i64 (-1)) w)
theorem Qv {a b:Value} {w:World} {K:Value→World→Prop} (h:R8 a b w K):Q1 P F.n [a,b] w K:=X0 Qy Tryz.func48 rfl (by decide) (by kernel_rfl) h
def Bl:V4:=[none,none,none,some ([7],[6,7,9,10,11,12,16,17,18,19,20,21,22,23,24,25,26,27,28,29,30,31,32,33,34,35,36,37,38,39,40,41,42,43,44,45,46,47,48,49,50,51,52]),none,none,none,none,none,none,none,none,none,none,none,none,none]
def Wa (R W U:Value) (w:World) (K:Value→World→Prop):Prop:= buildSlice P T.d 1 [(0,W)] w fun y w=>Rb P T.v none w fun s w=>lp (α:=Value) y w fun b z X w=>X5 P .len [T.d] T.e [false] [z] w fun E w=>Q4 P .gtr T.e (.tmp 17) (.const (.int .i64 0)) E (.int .i64 0) w fun D w=>X1 D (indexAddr P T.d z (.int .i64 0) w fun C w=>Q2 P T.b C w fun j w=>H4 P T.d z (some (.int .i64 1)) none none w fun t w=>lookup P T.v s j true w fun q w=>ext P q 0 w fun V w=>ext P q 1 w fun d w=>Q0 d false w (fun w J=>J R w) fun H w=>Q0 d false w (fun w J=>J j w) fun B w=>Q0 d false w (Q1 P F.k [H,B]) fun v w=>Q0 d false w (Z8 P .not v) fun O w=>pick P d (.bool true) O w fun Q w=>X1 Q (b t w) (mapUpdate P T.v s j (.int .i64 1) w fun _u w=>Q1 P F.h [R,j] w fun N w=>W6 P T.a w fun a w=>Z4 P T.a a N w fun _u w=>Q2 P T.a a w fun L w=>Z1 P U [L] w fun A w=>X1 A (K (.bool true) w) (dr w fun c n=>Q7 c (fun l=> ∀w,n w→fieldAddr P T.a a 1 w (dk c l w)) fun l=>Q7 c (fun h=> ∀w,n w→fieldAddr P T.a a 2 w (dk c h w)) fun h=>Q7 c (fun f=> ∀k w,n w→l k w→Q2 P T.b k w (dk c f w)) fun f=>Q7 c (fun m=> ∀e w,n w→f e w→buildSlice P T.d 1 [(0,e)] w (dk c m w)) fun m=>Q7 c (fun p=> ∀i w,n w→m i w→X5 P .append [T.d,T.d] T.d [false,false] [t,i] w (dk c p w)) fun p=>Q7 c (fun o=> ∀g w,n w→h g w→Q2 P T.d g w (dk c o w)) fun o=>∀k g e i u r w,n w→l k w→h g w→f e w→m i w→p u w→o r w→ X5 P .append [T.d,T.d] T.d [false,false] [u,r] w fun M w=>b M w))) (K (.bool false) w)
theorem Bq {a c b:Value} {w:World} {K:Value→World→Prop} (h:Wa a c b w K):Q1 P F.u [a,c,b] w K:=X0 Bl Tryz.func99 rfl (by decide) (by kernel_rfl) h
def Zi (d h:Value) (w:World) (K:Value→World→Prop):Prop:= box P T.a d w fun a w=>fieldAddr P T.a a 0 w fun b w=>Q2 P T.b b w fun f w=>fieldAddr P T.a h 0 w fun e w=>Q2 P T.b e w fun g w=>Q4 P .eql T.b (.tmp 5) (.tmp 7) f g w fun c w=>K c w
theorem He {a b:Value} {w:World} {K:Value→World→Prop} (h:Zi a b w K):Q1 P F.bL [a,b] w K:=X0 (List.replicate 2 none) Tryz.func100 rfl (by decide) (by kernel_rfl) h
def Jy (b f e:Value) (w:World) (K:Value→World→Prop):Prop:= Q2 P T.s f w fun c w=>M6 P (.func F.bL) [] [e] w fun d w=>Q1 P F.u [c,b,d] w fun a w=>K a w
theorem Sk {a c b:Value} {w:World} {K:Value→World→Prop} (h:Jy a c b w K):Q1 P F.aX [a,c,b] w K:=X0 (List.replicate 2 none) Tryz.func98 rfl (by decide) (by kernel_rfl) h
def Lb (k m:Value) (w:World) (K:Value→World→Prop):Prop:= box P T.s k w fun c w=>box P T.a m w fun a w=>M6 P (.func F.aX) [] [c,a] w fun i w=>fieldAddr P T.a a 1 w fun j w=>Q2 P T.b j w fun l w=>Z1 P i [l] w fun b w=>Q0 b false w (fieldAddr P T.a a 2) fun d w=>Q0 b false w (Q2 P T.d d) fun g w=>Q0 b false w (fun w J=>J i w) fun f w=>Q0 b false w (Q1 P F.d [g,f]) fun h w=>pick P b (.bool true) h w fun e w=>K e w
theorem Fl {a b:Value} {w:World} {K:Value→World→Prop} (h:Lb a b w K):Q1 P F.b8 [a,b] w K:=X0 (List.replicate 3 none) Tryz.func49 rfl (by decide) (by kernel_rfl) h
def Em:V4:=[none,none,none,some ([8],[4,5,8,9,10,11,12,13,14,15,16,17,18]),none,none,none,none,none,none,none]
def Yq (g i:Value) (w:World) (K:Value→World→Prop):Prop:= X5 P .len [T.a0] T.e [false] [g] w fun h w=>lp (α:=Value) (.int .i64 0) w fun a b k w=>Q4 P .lss T.e (.tmp 8) (.tmp 7) b h w fun j w=>X1 j (indexAddr P T.a0 g b w fun d w=>Q2 P T.e d w fun f w=>Q4 P .eql T.e (.tmp 11) (.tmp 15) i f w fun c w=>X1 c (K b w) (Q4 P .add T.e (.tmp 8) (.const (.int .i64 1)) b (.int .i64 1) w fun e w=>a e w)) (K (.int .i64 (-1)) w)
theorem Ez {a b:Value} {w:World} {K:Value→World→Prop} (h:Yq a b w K):Q1 P F.bM [a,b] w K:=X0 Em Tryz.func160 rfl (by decide) (by kernel_rfl) h
def Qr (b d:Value) (w:World) (K:Value→World→Prop):Prop:= Q1 P F.bM [b,d] w fun c w=>Q4 P .geq T.e (.tmp 7) (.const (.int .i64 0)) c (.int .i64 0) w fun a w=>K a w
theorem Nr {a b:Value} {w:World} {K:Value→World→Prop} (h:Qr a b w K):Q1 P F.aB [a,b] w K:=X0 (List.replicate 2 none) Tryz.func103 rfl (by decide) (by kernel_rfl) h
def Ry:V4:=[none,none,none,none,some ([35],[7,35,36,37,38,39,40,41,42,43,44,45,46,47]),none,none,none,none]
def P9 (a0 a1 a2 a3 a4:Value) (w:World) (K:Value→World→Prop):Prop:= Q2 P T.e a1 w fun t9 w=>Q4 P .lss T.e (.tmp 8) (.tmp 9) a0 t9 w fun t w=>Q0 t false w (Q2 P T.a0 a2) fun av w=>Q0 t false w (fun w J=>J a0 w) fun ap w=>Q0 t false w (Q1 P F.aB [av,ap]) fun aj w=>pick P t (.bool true) aj w fun am w=>X1 am (K (.tuple #[]) w) (dr w fun a b=>Q7 a (fun M=> ∀w,b w→Q2 P T.s a3 w (dk a M w)) fun M=>Q7 a (fun R=> ∀g w,b w→M g w→nilCheck P g w (dk a R w)) fun R=>Q7 a (fun d=> ∀r w,b w→R r w→fieldAddr P T.u r 0 w (dk a d w)) fun d=>Q7 a (fun m=> ∀s w,b w→d s w→Q2 P T.h s w (dk a m w)) fun m=>Q7 a (fun v=> ∀E w,b w→m E w→indexAddr P T.h E a0 w (dk a v w)) fun v=>Q7 a (fun c=> ∀H w,b w→v H w→fieldAddr P T.a H 1 w (dk a c w)) fun c=>Q7 a (fun N=> ∀l w,b w→c l w→Q2 P T.b l w (dk a N w)) fun N=>Q7 a (fun W=> ∀u w,b w→N u w→buildSlice P T.d 1 [(0,u)] w (dk a W w)) fun W=>Q7 a (fun e=> ∀w,b w→Q2 P T.s a3 w (dk a e w)) fun e=>Q7 a (fun B=> ∀A w,b w→e A w→nilCheck P A w (dk a B w)) fun B=>Q7 a (fun j=> ∀p w,b w→B p w→fieldAddr P T.u p 0 w (dk a j w)) fun j=>Q7 a (fun o=> ∀k w,b w→j k w→Q2 P T.h k w (dk a o w)) fun o=>Q7 a (fun U=> ∀z w,b w→o z w→indexAddr P T.h z a0 w (dk a U w)) fun U=>Q7 a (fun i=> ∀q w,b w→U q w→fieldAddr P T.a q 2 w (dk a i w)) fun i=>Q7 a (fun Y=> ∀L w,b w→i L w→Q2 P T.d L w (dk a Y w)) fun Y=>∀g r s E H l u ab A p k z q L ae w,b w→M g w→R r w→d s w→m E w→v H w→c l w→N u w→W ab w→e A w→B p w→j k w→o z w→U q w→i L w→Y ae w→ X5 P .append [T.d,T.d] T.d [false,false] [ab,ae] w fun ad w=>X5 P .len [T.d] T.e [false] [ad] w fun ah w=>lp (α:=Value) (.int .i64 0) w fun V x4 d_ w=>Q4 P .lss T.e (.tmp 35) (.tmp 34) x4 ah w fun ax w=>X1 ax (indexAddr P T.d ad x4 w fun aw w=>Q2 P T.b aw w fun aq w=>dr w fun a b=>Q7 a (fun Z=> ∀w,b w→Q2 P T.ai a4 w (dk a Z w)) fun Z=>Q7 a (fun f=> ∀w,b w→Q2 P T.s a3 w (dk a f w)) fun f=>Q7 a (fun h=> ∀n w,b w→f n w→nilCheck P n w (dk a h w)) fun h=>Q7 a (fun Q=> ∀C w,b w→h C w→fieldAddr P T.u C 1 w (dk a Q w)) fun Q=>Q7 a (fun D=> ∀O w,b w→Q O w→Q2 P T.v O w (dk a D w)) fun D=>Q7 a (fun X=> ∀y w,b w→D y w→lookup P T.v y aq false w (dk a X w)) fun X=>∀af n C O y ac w,b w→Z af w→f n w→h C w→Q O w→D y w→X ac w→ Z1 P af [ac] w fun a6 w=>Q4 P .add T.e (.tmp 35) (.const (.int .i64 1)) x4 (.int .i64 1) w fun ag w=>V ag w) (Q2 P T.a0 a2 w fun ao w=>buildSlice P T.a0 1 [(0,a0)] w fun ak w=>X5 P .append [T.a0,T.a0] T.a0 [false,false] [ao,ak] w fun al w=>Z4 P T.a0 a2 al w fun _u w=>K (.tuple #[]) w))
theorem Ub {a d c e b:Value} {w:World} {K:Value→World→Prop} (h:P9 a d c e b w K):Q1 P F.v [a,d,c,e,b] w K:=X0 Ry Tryz.func102 rfl (by decide) (by kernel_rfl) h
def Fp:V4:=[none,none,none,none,none,none,some ([7],[7,10,11,12,13,14,15,16,17,18,19,20,21]),none,none,none,none]
def Wh (q t:Value) (w:World) (K:Value→World→Prop):Prop:= box P T.s q w fun d w=>box P T.e t w fun b w=>W6 P T.a0 w fun c w=>W6 P T.ai w fun a w=>M6 P (.func F.v) [] [b,c,d,a] w fun p w=>Z4 P T.ai a p w fun _u w=>Q2 P T.e b w fun r w=>lp (α:=Value) r w fun e j u w=>Q2 P T.s d w fun o w=>nilCheck P o w fun n w=>fieldAddr P T.u n 0 w fun m w=>Q2 P T.h m w fun g w=>X5 P .len [T.h] T.e [false] [g] w fun i w=>Q4 P .lss T.e (.tmp 10) (.tmp 15) j i w fun f w=>X1 f (Q2 P T.ai a w fun l w=>Z1 P l [j] w fun s w=>Q4 P .add T.e (.tmp 17) (.const (.int .i64 1)) j (.int .i64 1) w fun k w=>e k w) (Q2 P T.a0 c w fun h w=>K h w)
theorem Fv {a b:Value} {w:World} {K:Value→World→Prop} (h:Wh a b w K):Q1 P F.b9 [a,b] w K:=X0 Fp Tryz.func50 rfl (by decide) (by kernel_rfl) h
def Xw:V4:=[none,some ([2,3],[2,3,7,8,9,10,11,12,13,14,15,16,17,18,19,20,21,22,23,24,25,26,27]),none,none,none]
def C6 (j:Value) (w:World) (K:Value→World→Prop):Prop:= X5 P .len [T.h] T.e [false] [j] w fun s w=>Q4 P .sub T.e (.tmp 5) (.const (.int .i64 1)) s (.int .i64 1) w fun t w=>lp (α:=Value×Value) ((.int .i64 0),t) w fun b g u w=>Q4 P .lss T.e (.tmp 7) (.tmp 8) g.1 g.2 w fun r w=>X1 r (dr w fun f k=>Q7 f (fun e=> ∀w,k w→indexAddr P T.h j g.2 w (dk f e w)) fun e=>Q7 f (fun a=> ∀w,k w→indexAddr P T.h j g.1 w (dk f a w)) fun a=>Q7 f (fun i=> ∀d w,k w→e d w→Q2 P T.a d w (dk f i w)) fun i=>Q7 f (fun h=> ∀c w,k w→a c w→Q2 P T.a c w (dk f h w)) fun h=>∀d c m l w,k w→e d w→a c w→i m w→h l w→ indexAddr P T.h j g.1 w fun n w=>Z4 P T.a n m w fun _u w=>indexAddr P T.h j g.2 w fun o w=>Z4 P T.a o l w fun _u w=>Q4 P .add T.e (.tmp 10) (.const (.int .i64 1)) g.1 (.int .i64 1) w fun q w=>Q4 P .sub T.e (.tmp 12) (.const (.int .i64 1)) g.2 (.int .i64 1) w fun p w=>b (q,p) w) (K (.tuple #[]) w)
theorem Xy {a:Value} {w:World} {K:Value→World→Prop} (h:C6 a w K):Q1 P F.o [a] w K:=X0 Xw Tryz.func167 rfl (by decide) (by kernel_rfl) h
def Ki:V4:=[none,none,none,none,some ([5,6],[5,6,8,9,10,11,12,13,14,15,16,17,18,19,20]),none,none,none,none,none]
def Ma (c j:Value) (w:World) (K:Value→World→Prop):Prop:= lp (α:=Value×Value) ((.slice none 0 0),j) w fun a b l w=>Q1 P F.k [c,b.2] w fun f w=>X1 f (Q1 P F.h [c,b.2] w fun e w=>buildSlice P T.h 1 [(0,e)] w fun g w=>X5 P .append [T.h,T.h] T.h [false,false] [b.1,g] w fun i w=>Q1 P F.h [c,b.2] w fun h w=>Vn P T.a h 1 w fun d w=>a (i,d) w) (Q1 P F.o [b.1] w fun k w=>K b.1 w)
theorem Kk {a b:Value} {w:World} {K:Value→World→Prop} (h:Ma a b w K):Q1 P F.aK [a,b] w K:=X0 Ki Tryz.func166 rfl (by decide) (by kernel_rfl) h
def Ce:V4:=[none,none,none,none,some ([5,12],[5,7,12,13,14,15,16,17,18,19,20]),none,none,none,none,none]
def Va (m n:Value) (w:World) (K:Value→World→Prop):Prop:= Q1 P F.aK [m,n] w fun d w=>X5 P .len [T.h] T.e [false] [d] w fun g w=>lp (α:=Value×Value) ((.slice none 0 0),(.int .i64 0)) w fun b c o w=>Q4 P .lss T.e (.tmp 12) (.tmp 11) c.2 g w fun i w=>X1 i (indexAddr P T.h d c.2 w fun f w=>Q2 P T.a f w fun j w=>W6 P T.a w fun a w=>Z4 P T.a a j w fun _u w=>fieldAddr P T.a a 6 w fun e w=>Q2 P T.i e w fun l w=>X5 P .append [T.i,T.i] T.i [false,false] [c.1,l] w fun h w=>Q4 P .add T.e (.tmp 12) (.const (.int .i64 1)) c.2 (.int .i64 1) w fun k w=>b (h,k) w) (K c.1 w)
theorem Cb {a b:Value} {w:World} {K:Value→World→Prop} (h:Va a b w K):Q1 P F.b4 [a,b] w K:=X0 Ce Tryz.func162 rfl (by decide) (by kernel_rfl) h
def Jn (c g:Value) (w:World) (K:Value→World→Prop):Prop:= box P T.k c w fun a w=>fieldAddr P T.k a 0 w fun b w=>Q2 P T.b b w fun e w=>Q2 P T.b g w fun d w=>Q4 P .eql T.b (.tmp 5) (.tmp 6) e d w fun f w=>K f w
theorem Rv {a b:Value} {w:World} {K:Value→World→Prop} (h:Jn a b w K):Q1 P F.bU [a,b] w K:=X0 (List.replicate 2 none) Tryz.func163 rfl (by decide) (by kernel_rfl) h
def Wi (d e f:Value) (w:World) (K:Value→World→Prop):Prop:= box P T.b f w fun a w=>Q1 P F.b4 [d,e] w fun g w=>M6 P (.func F.bU) [] [a] w fun c w=>Q1 P F.j [g,c] w fun b w=>K b w
theorem Bz {a c b:Value} {w:World} {K:Value→World→Prop} (h:Wi a c b w K):Q1 P F.bd [a,c,b] w K:=X0 (List.replicate 2 none) Tryz.func104 rfl (by decide) (by kernel_rfl) h
def T3 (b d:Value) (w:World) (K:Value→World→Prop):Prop:= nilCheck P b w fun c w=>indexAddr P T.a4 c d w fun a w=>Q2 P T.m a w fun e w=>K e w
theorem Lo {a b:Value} {w:World} {K:Value→World→Prop} (h:T3 a b w K):Q1 P F.aw [a,b] w K:=X0 (List.replicate 2 none) Tryz.func135 rfl (by decide) (by kernel_rfl) h
def Dw:V4:=[none,some ([0],[0,5,6,7,8,9,10,11,12,13,14,15,16,17,18,19,20]),some ([0],[0,5,6,7,8,9,10,11,12,13,14,15,16,17,18,19,20]),none,none,none,none,none]
def Yr (l o:Value) (w:World) (K:Value→World→Prop):Prop:= jn (α:=Value) w (fun k w=>lp (α:=Value) l w fun a b n w=>X5 P .len [T.b] T.e [false] [b] w fun q w=>Q4 P .gtr T.e (.tmp 6) (.const (.int .i64 0)) q (.int .i64 0) w fun m w=>X1 m (X5 P .len [T.b] T.e [false] [b] w fun j w=>Q4 P .sub T.e (.tmp 11) (.const (.int .i64 1)) j (.int .i64 1) w fun i w=>E0 P T.b b i w fun h w=>Q1 P F.aw [o,h] w fun c w=>Z8 P .not c w fun d w=>X1 d (k b w) (X5 P .len [T.b] T.e [false] [b] w fun f w=>Q4 P .sub T.e (.tmp 18) (.const (.int .i64 1)) f (.int .i64 1) w fun g w=>H4 P T.b b none (some g) none w fun e w=>a e w)) (k b w)) fun p n w=>K p w
theorem Et {a b:Value} {w:World} {K:Value→World→Prop} (h:Yr a b w K):Q1 P F.ai [a,b] w K:=X0 Dw Tryz.func89 rfl (by decide) (by kernel_rfl) h
end Go.Proofs.YtfppjenblllfaaaGreatDoor

set_option maxRecDepth 100000
namespace Go.Proofs.YtfppjenblllfaaaGreatDoor
open Go.Emb
def Mc (d c:Value) (w:World) (K:Value→World→Prop):Prop:= Q4 P .eql T.b (.tmp 7) (.const (.string ⟨#[]⟩)) d (.string ⟨#[]⟩) w fun f w=>Q0 f false w (fun w J=>J c w) fun n w=>Q0 f false w (Q4 P .eql T.b (.tmp 10) (.const (.string ⟨#[]⟩)) n (.string ⟨#[]⟩)) fun s w=>pick P f (.bool true) s w fun r w=>X1 r (K d w) (X5 P .len [T.b] T.e [false] [c] w fun j w=>Q4 P .eql T.e (.tmp 15) (.const (.int .i64 1)) j (.int .i64 1) w fun b w=>Q0 b true w (fun w J=>J c w) fun m w=>Q0 b true w (E0 P T.b m (.int .i64 0)) fun p w=>Q0 b true w (Q4 P .lss T.w (.tmp 19) (.const (.int .u8 128)) p (.int .u8 128)) fun k w=>pick P b k (.bool false) w fun q w=>X1 q (E0 P T.b c (.int .i64 0) w fun h w=>Q1 P F.cO [d,h] w fun o w=>K o w) (Q1 P F.bR [c] w fun e w=>ext P e 0 w fun g w=>ext P e 1 w fun l w=>W6 P T.a4 w fun a w=>Z4 P T.a4 a g w fun _u w=>X1 l (Q1 P F.ai [d,a] w fun i w=>K i w) (Q1 P F.cJ [d,c] w fun t w=>K t w)))
theorem Iq {a b:Value} {w:World} {K:Value→World→Prop} (h:Mc a b w K):Q1 P F.bn [a,b] w K:=X0 (List.replicate 12 none) Tryz.func38 rfl (by decide) (by kernel_rfl) h
def Me (l j:Value) (w:World) (K:Value→World→Prop):Prop:= Q4 P .eql T.b (.tmp 6) (.const (.string ⟨#[110,117,108,108]⟩)) j (.string ⟨#[110,117,108,108]⟩) w fun m w=>X1 m (K (.bool true) w) (Q1 P F.bn [j,(.string ⟨#[91,93]⟩)] w fun k w=>Q1 P F.a2 [j] w fun a w=>Q0 a true w (fun w J=>J k w) fun g w=>Q0 a true w (Q1 P F.af [g]) fun e w=>Q0 a true w (fun w J=>J e w) fun b w=>Q0 b false w (fun w J=>J l w) fun d w=>Q0 b false w (fun w J=>J k w) fun c w=>Q0 b false w (Q1 P F.k [d,c]) fun i w=>Q0 a true w (pick P b (.bool true) i) fun f w=>pick P a f (.bool false) w fun h w=>K h w)
theorem Il {a b:Value} {w:World} {K:Value→World→Prop} (h:Me a b w K):Q1 P F.w [a,b] w K:=X0 (List.replicate 6 none) Tryz.func20 rfl (by decide) (by kernel_rfl) h
def Yp (c g:Value) (w:World) (K:Value→World→Prop):Prop:= Q4 P .neq T.b (.tmp 4) (.const (.string ⟨#[110,117,108,108]⟩)) c (.string ⟨#[110,117,108,108]⟩) w fun a w=>Q0 a true w (Q2 P T.s g) fun f w=>Q0 a true w (fun w J=>J c w) fun d w=>Q0 a true w (Q1 P F.w [f,d]) fun e w=>pick P a e (.bool false) w fun b w=>K b w
theorem Eg {a b:Value} {w:World} {K:Value→World→Prop} (h:Yp a b w K):Q1 P F.aj [a,b] w K:=X0 (List.replicate 2 none) Tryz.func105 rfl (by decide) (by kernel_rfl) h
def Zm (b e:Value) (w:World) (K:Value→World→Prop):Prop:= Q2 P T.y e w fun a w=>Z1 P a [b] w fun c w=>Z8 P .not c w fun d w=>K d w
theorem Ha {a b:Value} {w:World} {K:Value→World→Prop} (h:Zm a b w K):Q1 P F.ak [a,b] w K:=X0 (List.replicate 2 none) Tryz.func106 rfl (by decide) (by kernel_rfl) h
def Aw (s:Value) (w:World) (K:Value→World→Prop):Prop:= box P T.c s w fun b w=>dr w fun a c=>Q7 a (fun h=> ∀w,c w→fieldAddr P T.c b 1 w (dk a h w)) fun h=>Q7 a (fun f=> ∀w,c w→fieldAddr P T.c b 2 w (dk a f w)) fun f=>Q7 a (fun g=> ∀i w,c w→h i w→Q2 P T.d i w (dk a g w)) fun g=>Q7 a (fun l=> ∀j w,c w→g j w→Q1 P F.cK [j,(.string ⟨#[44]⟩)] w (dk a l w)) fun l=>Q7 a (fun e=> ∀k w,c w→l k w→Q4 P .add T.b (.const (.string ⟨#[40]⟩)) (.tmp 5) (.string ⟨#[40]⟩) k w (dk a e w)) fun e=>Q7 a (fun p=> ∀m w,c w→e m w→Q4 P .add T.b (.tmp 6) (.const (.string ⟨#[41]⟩)) m (.string ⟨#[41]⟩) w (dk a p w)) fun p=>Q7 a (fun o=> ∀d w,c w→f d w→Q2 P T.b d w (dk a o w)) fun o=>∀i d j k m q r w,c w→h i w→f d w→g j w→l k w→e m w→p q w→o r w→ Q4 P .add T.b (.tmp 7) (.tmp 9) q r w fun n w=>K n w
theorem Q4I {a:Value} {w:World} {K:Value→World→Prop} (h:Aw a w K):Q1 P F.bS [a] w K:=X0 (List.replicate 2 none) Tryz.func110 rfl (by decide) (by kernel_rfl) h
def Xl (Y X a2 a3:Value) (w:World) (K:Value→World→Prop):Prop:= box P T.c Y w fun b w=>Q2 P T.q X w fun Z w=>fieldAddr P T.c b 0 w fun O w=>Q2 P T.b O w fun W w=>lookup P T.q Z W true w fun H w=>ext P H 0 w fun U w=>ext P H 1 w fun e w=>dr w fun a d=>Q7 a (fun u=> ∀w,d w→fieldAddr P T.c b 0 w (dk a u w)) fun u=>Q7 a (fun m=> ∀w,d w→fieldAddr P T.c b 0 w (dk a m w)) fun m=>Q7 a (fun v=> ∀w,d w→fieldAddr P T.a a2 0 w (dk a v w)) fun v=>Q7 a (fun f=> ∀w,d w→Q2 P T.q X w (dk a f w)) fun f=>Q7 a (fun y=> ∀k w,d w→u k w→Q2 P T.b k w (dk a y w)) fun y=>Q7 a (fun A=> ∀w,d w→Q2 P T.q a3 w (dk a A w)) fun A=>Q7 a (fun B=> ∀s w,d w→m s w→Q2 P T.b s w (dk a B w)) fun B=>Q7 a (fun p=> ∀w,d w→Q2 P T.c b w (dk a p w)) fun p=>Q7 a (fun h=> ∀t w,d w→p t w→Q1 P F.bS [t] w (dk a h w)) fun h=>Q7 a (fun z=> ∀o w,d w→v o w→Q2 P T.b o w (dk a z w)) fun z=>Q7 a (fun i=> ∀c n w,d w→f c w→y n w→mapEntry P T.q c n w (dk a i w)) fun i=>Q7 a (fun r=> ∀q w,d w→i q w→ext P q 1 w (dk a r w)) fun r=>Q7 a (fun g=> ∀c j l w,d w→f c w→r j w→h l w→entryStore P T.q c j l w (dk a g w)) fun g=>∀k s o c n E D t l C q j R w,d w→u k w→m s w→v o w→f c w→y n w→A E w→B D w→p t w→h l w→z C w→i q w→r j w→g R w→ mapUpdate P T.q E D C w fun _u w=>Q0 e true w (fun w J=>J U w) fun L w=>Q0 e true w (Q2 P T.c b) fun N w=>Q0 e true w (Q1 P F.bS [N]) fun V w=>Q0 e true w (Q4 P .neq T.b (.tmp 29) (.tmp 31) L V) fun Q w=>pick P e Q (.bool false) w fun M w=>K M w
theorem Oj {a c b d:Value} {w:World} {K:Value→World→Prop} (h:Xl a c b d w K):Q1 P F.aC [a,c,b,d] w K:=X0 (List.replicate 4 none) Tryz.func109 rfl (by decide) (by kernel_rfl) h
def Yx (c h g:Value) (w:World) (K:Value→World→Prop):Prop:= box P T.a c w fun a w=>fieldAddr P T.a a 7 w fun e w=>Q2 P T.g e w fun d w=>M6 P (.func F.aC) [] [h,a,g] w fun f w=>Q1 P F.a [d,f] w fun b w=>K b w
theorem Ef {a c b:Value} {w:World} {K:Value→World→Prop} (h:Yx a c b w K):Q1 P F.aN [a,c,b] w K:=X0 (List.replicate 2 none) Tryz.func107 rfl (by decide) (by kernel_rfl) h
def Pq (c g:Value) (w:World) (K:Value→World→Prop):Prop:= box P T.c c w fun a w=>fieldAddr P T.c a 0 w fun b w=>Q2 P T.b b w fun e w=>Q2 P T.b g w fun d w=>Q4 P .eql T.b (.tmp 5) (.tmp 6) e d w fun f w=>K f w
theorem Q4T {a b:Value} {w:World} {K:Value→World→Prop} (h:Pq a b w K):Q1 P F.cP [a,b] w K:=X0 (List.replicate 2 none) Tryz.func203 rfl (by decide) (by kernel_rfl) h
def Q1j (n q:Value) (w:World) (K:Value→World→Prop):Prop:= box P T.a n w fun b w=>box P T.b q w fun a w=>W6 P T.c w fun d w=>fieldAddr P T.a b 7 w fun o w=>Q2 P T.g o w fun m w=>M6 P (.func F.cP) [] [a] w fun p w=>Q1 P F.g [m,p] w fun c w=>Q4 P .lss T.e (.tmp 11) (.const (.int .i64 0)) c (.int .i64 0) w fun l w=>X1 l (O5 P T.c [] w fun k w=>Z4 P T.c d k w fun _u w=>V7 P T.c d w fun f=>K (.tuple #[f,(.bool false)]) w) (fieldAddr P T.a b 7 w fun e w=>Q2 P T.g e w fun g w=>indexAddr P T.g g c w fun i w=>Q2 P T.c i w fun h w=>Q1 P F.bK [h] w fun j w=>Z4 P T.c d j w fun _u w=>V7 P T.c d w fun f=>K (.tuple #[f,(.bool true)]) w)
theorem Q6v {a b:Value} {w:World} {K:Value→World→Prop} (h:Q1j a b w K):Q1 P F.cm [a,b] w K:=X0 (List.replicate 6 none) Tryz.func168 rfl (by decide) (by kernel_rfl) h
def Kg:V4:=[none,none,none,some ([19],[6,8,10,11,12,13,14,15,19,20,21,22,23,24,25,26,27,28,29,30,31,32,33,34,35,36,37,38,39,40,41,42,43,44,45,46,47]),none,none,none,none,none,none,none,none,none,none,none,none]
def Lw (s M L:Value) (w:World) (K:Value→World→Prop):Prop:= box P T.a M w fun f w=>W6 P T.c w fun i w=>fieldAddr P T.a f 2 w fun t w=>Q2 P T.d t w fun m w=>X5 P .len [T.d] T.e [false] [m] w fun A w=>lp (α:=Value) (.int .i64 0) w fun c u N w=>Q4 P .lss T.e (.tmp 19) (.tmp 18) u A w fun y w=>X1 y (indexAddr P T.d m u w fun E w=>Q2 P T.b E w fun d w=>Q1 P F.h [s,d] w fun q w=>Q1 P F.cm [q,L] w fun o w=>ext P o 0 w fun v w=>ext P o 1 w fun z w=>W6 P T.c w fun a w=>Z4 P T.c a v w fun _u w=>X1 z (dr w fun l j=>Q7 l (fun g=> ∀w,j w→Q2 P T.c a w (dk l g w)) fun g=>∀k w,j w→g k w→ Z4 P T.c i k w fun _u w=>V7 P T.c i w fun n=>K (.tuple #[d,n,(.bool true)]) w) (Q1 P F.h [s,d] w fun H w=>Q1 P F.aL [s,H,L] w fun e w=>ext P e 0 w fun C w=>ext P e 1 w fun J w=>ext P e 2 w fun B w=>W6 P T.c w fun b w=>Z4 P T.c b J w fun _u w=>X1 B (dr w fun l j=>Q7 l (fun h=> ∀w,j w→Q2 P T.c b w (dk l h w)) fun h=>∀p w,j w→h p w→ Z4 P T.c i p w fun _u w=>V7 P T.c i w fun n=>K (.tuple #[C,n,(.bool true)]) w) (Q4 P .add T.e (.tmp 19) (.const (.int .i64 1)) u (.int .i64 1) w fun r w=>c r w))) (O5 P T.c [] w fun D w=>Z4 P T.c i D w fun _u w=>V7 P T.c i w fun n=>K (.tuple #[(.string ⟨#[]⟩),n,(.bool false)]) w)
theorem Iz {a c b:Value} {w:World} {K:Value→World→Prop} (h:Lw a c b w K):Q1 P F.aL [a,c,b] w K:=X0 Kg Tryz.func169 rfl (by decide) (by kernel_rfl) h
def Sr:V4:=[none,none,none,none,none,some ([26],[6,8,11,12,13,26,27,28,29,30,31,32,33,34,35,36,37,38,39,40]),none,none,none,none,none,none,none,none,none,some ([43],[6,8,15,16,17,18,43,44,45,46,47,48,49,50,51,52,53,54,55,56,57,58]),none,none,none,none,none,none,none,none]
def Vb (Y a1 Z:Value) (w:World) (K:Value→World→Prop):Prop:= W6 P T.c w fun q w=>Q1 P F.aK [Y,a1] w fun f w=>Q1 P F.o [f] w fun ab w=>X5 P .len [T.h] T.e [false] [f] w fun O w=>lp (α:=Value) (.int .i64 0) w fun g A d_ w=>Q4 P .lss T.e (.tmp 26) (.tmp 25) A O w fun E w=>X1 E (indexAddr P T.h f A w fun N w=>Q2 P T.a N w fun B w=>W6 P T.a w fun a w=>Z4 P T.a a B w fun _u w=>Q2 P T.a a w fun V w=>Q1 P F.cm [V,Z] w fun s w=>ext P s 0 w fun z w=>ext P s 1 w fun R w=>W6 P T.c w fun b w=>Z4 P T.c b z w fun _u w=>X1 R (dr w fun i k=>Q7 i (fun h=> ∀w,k w→fieldAddr P T.a a 0 w (dk i h w)) fun h=>Q7 i (fun n=> ∀j w,k w→h j w→Q2 P T.b j w (dk i n w)) fun n=>Q7 i (fun o=> ∀w,k w→Q2 P T.c b w (dk i o w)) fun o=>∀j v u w,k w→h j w→n v w→o u w→ Z4 P T.c q u w fun _u w=>V7 P T.c q w fun t=>K (.tuple #[v,t,(.bool true)]) w) (Q4 P .add T.e (.tmp 26) (.const (.int .i64 1)) A (.int .i64 1) w fun L w=>g L w)) (X5 P .len [T.h] T.e [false] [f] w fun X w=>lp (α:=Value) (.int .i64 0) w fun e l d_ w=>Q4 P .lss T.e (.tmp 43) (.tmp 42) l X w fun J w=>X1 J (indexAddr P T.h f l w fun D w=>Q2 P T.a D w fun W w=>W6 P T.a w fun c w=>Z4 P T.a c W w fun _u w=>Q2 P T.a c w fun U w=>Q1 P F.aL [Y,U,Z] w fun m w=>ext P m 0 w fun Q w=>ext P m 1 w fun H w=>ext P m 2 w fun M w=>W6 P T.c w fun d w=>Z4 P T.c d H w fun _u w=>X1 M (dr w fun i k=>Q7 i (fun p=> ∀w,k w→Q2 P T.c d w (dk i p w)) fun p=>∀r w,k w→p r w→ Z4 P T.c q r w fun _u w=>V7 P T.c q w fun t=>K (.tuple #[Q,t,(.bool true)]) w) (Q4 P .add T.e (.tmp 43) (.const (.int .i64 1)) l (.int .i64 1) w fun y w=>e y w)) (O5 P T.c [] w fun C w=>Z4 P T.c q C w fun _u w=>V7 P T.c q w fun t=>K (.tuple #[(.string ⟨#[]⟩),t,(.bool false)]) w))
theorem Cl {a c b:Value} {w:World} {K:Value→World→Prop} (h:Vb a c b w K):Q1 P F.b2 [a,c,b] w K:=X0 Sr Tryz.func111 rfl (by decide) (by kernel_rfl) h
def Rw:V4:=[none,none,none,some ([21],[4,6,21,22,23,24,25,26,27,28,29,30,31,32]),none,none,none,none,none,none,none,none,none,some ([37],[4,9,37,38,39,40,41,42,43,44,45,46]),none,none,none,none,none,none,none,none,some ([50],[4,11,50,51,52,53,54,55,56,57,58,59,60,61,62,63,64,65,66,67,68,69,70]),none,none,none,none,none,none,none,none,none,none,none,none,none,none,none,some ([],[4,14,15,16,17,82,83,84,85,86,87,88,89,90,91,92,93,94,95,96,97,98,99,100]),none,none,none,none,none,none,none]
def Jr (a0 a1:Value) (w:World) (K:Value→World→Prop):Prop:= box P T.s a0 w fun v w=>box P T.a a1 w fun j w=>fieldAddr P T.a j 6 w fun X w=>Q2 P T.i X w fun p w=>X5 P .len [T.i] T.e [false] [p] w fun a5 w=>lp (α:=Value) (.int .i64 0) w fun g C d_ w=>Q4 P .lss T.e (.tmp 21) (.tmp 20) C a5 w fun O w=>X1 O (indexAddr P T.i p C w fun a9 w=>Q2 P T.k a9 w fun J w=>W6 P T.k w fun t6 w=>Z4 P T.k t6 J w fun _u w=>Q2 P T.s v w fun aa w=>fieldAddr P T.a j 1 w fun y w=>Q2 P T.b y w fun av w=>fieldAddr P T.k t6 0 w fun Y w=>Q2 P T.b Y w fun D w=>Q1 P F.bd [aa,av,D] w fun a6 w=>Q4 P .geq T.e (.tmp 30) (.const (.int .i64 0)) a6 (.int .i64 0) w fun bj w=>X1 bj (K (.int .i64 64) w) (Q4 P .add T.e (.tmp 21) (.const (.int .i64 1)) C (.int .i64 1) w fun ba w=>g ba w)) (M6 P (.func F.aj) [] [v] w fun a3 w=>W6 P T.y w fun u w=>Z4 P T.y u a3 w fun _u w=>fieldAddr P T.a j 6 w fun aq w=>Q2 P T.i aq w fun r w=>X5 P .len [T.i] T.e [false] [r] w fun ao w=>lp (α:=Value) (.int .i64 0) w fun d i d_ w=>Q4 P .lss T.e (.tmp 37) (.tmp 36) i ao w fun bl w=>X1 bl (indexAddr P T.i r i w fun be w=>Q2 P T.k be w fun a2 w=>W6 P T.k w fun t9 w=>Z4 P T.k t9 a2 w fun _u w=>Q2 P T.y u w fun ab w=>fieldAddr P T.k t9 1 w fun bn w=>Q2 P T.b bn w fun bb w=>Z1 P ab [bb] w fun Q w=>Z8 P .not Q w fun M w=>X1 M (K (.int .i64 65) w) (Q4 P .add T.e (.tmp 37) (.const (.int .i64 1)) i (.int .i64 1) w fun bk w=>d bk w)) (fieldAddr P T.a j 7 w fun z w=>Q2 P T.g z w fun o w=>X5 P .len [T.g] T.e [false] [o] w fun af w=>lp (α:=Value) (.int .i64 0) w fun b l d_ w=>Q4 P .lss T.e (.tmp 50) (.tmp 49) l af w fun az w=>X1 az (indexAddr P T.g o l w fun bc w=>Q2 P T.c bc w fun N w=>W6 P T.c w fun f w=>Z4 P T.c f N w fun _u w=>Q2 P T.y u w fun R w=>fieldAddr P T.c f 2 w fun ae w=>Q2 P T.b ae w fun bf w=>Z1 P R [bf] w fun E w=>Z8 P .not E w fun e w=>Q0 e true w (fieldAddr P T.c f 2) fun an w=>Q0 e true w (Q2 P T.b an) fun bi w=>Q0 e true w (Q4 P .neq T.b (.tmp 61) (.const (.string ⟨#[]⟩)) bi (.string ⟨#[]⟩)) fun ac w=>pick P e ac (.bool false) w fun a w=>Q0 a false w (fieldAddr P T.c f 1) fun bd w=>Q0 a false w (Q2 P T.d bd) fun al w=>Q0 a false w (M6 P (.func F.ak) [] [u]) fun Z w=>Q0 a false w (Q1 P F.d [al,Z]) fun ah w=>pick P a (.bool true) ah w fun a7 w=>X1 a7 (K (.int .i64 65) w) (Q4 P .add T.e (.tmp 50) (.const (.int .i64 1)) l (.int .i64 1) w fun ar w=>b ar w)) (Rb P T.q none w fun ak w=>Rb P T.q none w fun B w=>W6 P T.q w fun s w=>W6 P T.q w fun k w=>Z4 P T.q s ak w fun _u w=>Z4 P T.q k B w fun _u w=>Q2 P T.s v w fun ax w=>fieldAddr P T.a j 0 w fun U w=>Q2 P T.b U w fun ay w=>M6 P (.func F.aN) [] [s,k] w fun aj w=>Q1 P F.u [ax,ay,aj] w fun bg w=>X1 bg (K (.int .i64 66) w) (fieldAddr P T.a j 4 w fun bh w=>Q2 P T.m bh w fun bm w=>X1 bm (K (.int .i64 0) w) (Q2 P T.q k w fun ai w=>rng P T.q ai w fun q w=>lp (α:=Unit) () w fun c br d_ w=>J7 P q false T.x w fun aw w=>ext P aw 0 w fun W w=>X1 W (Q6A P q w fun ag w=>ext P ag 0 w fun ad w=>Q2 P T.s v w fun am w=>fieldAddr P T.a j 0 w fun L w=>Q2 P T.b L w fun a4 w=>Q1 P F.b2 [am,a4,ad] w fun h w=>ext P h 0 w fun bs w=>ext P h 1 w fun A w=>ext P h 2 w fun H w=>W6 P T.c w fun n w=>Z4 P T.c n A w fun _u w=>Z8 P .not H w fun m w=>Q0 m false w (fieldAddr P T.c n 3) fun V w=>Q0 m false w (Q2 P T.m V) fun ap w=>pick P m (.bool true) ap w fun t w=>X1 t (K (.int .i64 67) w) (c () w)) (K (.int .i64 0) w))))))
theorem Rz {a b:Value} {w:World} {K:Value→World→Prop} (h:Jr a b w K):Q1 P F.aV [a,b] w K:=X0 Rw Tryz.func51 rfl (by decide) (by kernel_rfl) h
def Q77:V4:=[none,none,none,none,none,some ([30],[2,3,4,7,8,9,30,31,32,33,34,35,36,37,38,39,40,41,42,43,44,45,46,47,48,49,50,51,52]),none,none,none,none,none,none,none,none,none,none,some ([58],[2,3,4,10,11,58,59,60,61,62,63,64,65,66,67,68,69,70,71,72,73,74,75,76,77]),none,none,none,none,none,none,none,none,none,some ([85],[2,3,4,12,13,14,85,86,87,88,89,90,91,92,93,94,95,96,97]),none,none,none,none,none,none,none,none,none,none,none,none,none,some ([114],[2,3,4,17,18,114,115,116,117,118,119,120,121,122,123,124,125,126,127,128,129,130,131,132,133]),none,none,none,none,none,none,none,none]
def Q1G (a0:Value) (w:World) (K:Value→World→Prop):Prop:= Q1 P F.cq [] w fun a9 w=>Rb P T.v none w fun bm w=>O5 P T.u [(0,a9),(1,bm)] w fun a8 w=>box P T.u a8 w fun a w=>nilCheck P a w fun a1 w=>fieldAddr P T.u a1 0 w fun a5 w=>Q2 P T.h a5 w fun ar w=>X5 P .len [T.h] T.e [false] [ar] w fun g w=>X5 P .len [T.h] T.e [false] [a0] w fun aw w=>lp (α:=Value) (.int .i64 0) w fun n x5 d_ w=>Q4 P .lss T.e (.tmp 30) (.tmp 29) x5 aw w fun bw w=>X1 bw (indexAddr P T.h a0 x5 w fun bk w=>Q2 P T.a bk w fun bh w=>W6 P T.a w fun t8 w=>Z4 P T.a t8 bh w fun _u w=>Q2 P T.a t8 w fun bu w=>Q1 P F.cb [bu] w fun aa w=>Q4 P .neq T.r (.tmp 37) (.const (.int .i64 0)) aa (.int .i64 0) w fun bx w=>X1 bx (K (.tuple #[(.pointer none),x5,aa]) w) (dr w fun b c=>Q7 b (fun p=> ∀w,c w→nilCheck P a w (dk b p w)) fun p=>Q7 b (fun m=> ∀v w,c w→p v w→fieldAddr P T.u v 0 w (dk b m w)) fun m=>Q7 b (fun E=> ∀l w,c w→m l w→Q2 P T.h l w (dk b E w)) fun E=>Q7 b (fun s=> ∀w,c w→Q2 P T.a t8 w (dk b s w)) fun s=>Q7 b (fun t=> ∀y w,c w→s y w→Q1 P F.cc [y] w (dk b t w)) fun t=>Q7 b (fun N=> ∀i w,c w→t i w→buildSlice P T.h 1 [(0,i)] w (dk b N w)) fun N=>∀v l O y i V w,c w→p v w→m l w→E O w→s y w→t i w→N V w→ X5 P .append [T.h,T.h] T.h [false,false] [O,V] w fun ba w=>nilCheck P a w fun bi w=>fieldAddr P T.u bi 0 w fun bj w=>Z4 P T.h bj ba w fun _u w=>Q4 P .add T.e (.tmp 30) (.const (.int .i64 1)) x5 (.int .i64 1) w fun bp w=>n bp w)) (nilCheck P a w fun a3 w=>fieldAddr P T.u a3 0 w fun a7 w=>Q2 P T.h a7 w fun al w=>X5 P .len [T.h] T.e [false] [al] w fun ay w=>lp (α:=Value) (.int .i64 0) w fun d f d_ w=>Q4 P .lss T.e (.tmp 58) (.tmp 57) f ay w fun ax w=>X1 ax (indexAddr P T.h al f w fun bv w=>Q2 P T.a bv w fun a6 w=>W6 P T.a w fun L w=>Z4 P T.a L a6 w fun _u w=>fieldAddr P T.a L 0 w fun br w=>Q2 P T.b br w fun bq w=>Q1 P F.k [a,bq] w fun be w=>X1 be (Q4 P .sub T.e (.tmp 67) (.tmp 68) f g w fun bn w=>K (.tuple #[(.pointer none),bn,(.int .i64 60)]) w) (dr w fun b c=>Q7 b (fun u=> ∀w,c w→nilCheck P a w (dk b u w)) fun u=>Q7 b (fun k=> ∀q w,c w→u q w→fieldAddr P T.u q 1 w (dk b k w)) fun k=>Q7 b (fun z=> ∀w,c w→fieldAddr P T.a L 0 w (dk b z w)) fun z=>Q7 b (fun M=> ∀j w,c w→k j w→Q2 P T.v j w (dk b M w)) fun M=>Q7 b (fun J=> ∀o w,c w→z o w→Q2 P T.b o w (dk b J w)) fun J=>∀q j o ae ag w,c w→u q w→k j w→z o w→M ae w→J ag w→ mapUpdate P T.v ae ag f w fun _u w=>Q4 P .add T.e (.tmp 58) (.const (.int .i64 1)) f (.int .i64 1) w fun bs w=>d bs w)) (nilCheck P a w fun bz w=>fieldAddr P T.u bz 0 w fun bd w=>Q2 P T.h bd w fun bf w=>H4 P T.h bf (some g) none none w fun R w=>X5 P .len [T.h] T.e [false] [R] w fun bb w=>lp (α:=Value) (.int .i64 0) w fun e r d_ w=>Q4 P .lss T.e (.tmp 85) (.tmp 84) r bb w fun bc w=>X1 bc (indexAddr P T.h R r w fun a2 w=>Q2 P T.a a2 w fun bl w=>W6 P T.a w fun W w=>Z4 P T.a W bl w fun _u w=>Q2 P T.a W w fun a4 w=>Q1 P F.b0 [a,a4] w fun ai w=>Q4 P .neq T.r (.tmp 93) (.const (.int .i64 0)) ai (.int .i64 0) w fun az w=>X1 az (K (.tuple #[(.pointer none),r,ai]) w) (Q4 P .add T.e (.tmp 85) (.const (.int .i64 1)) r (.int .i64 1) w fun b0 w=>e b0 w)) (nilCheck P a w fun bg w=>fieldAddr P T.u bg 0 w fun ap w=>Q2 P T.h ap w fun af w=>H4 P T.h af (some g) none none w fun aj w=>M6 P (.func F.b8) [a] [] w fun Y w=>Q1 P F.n [aj,Y] w fun B w=>Q4 P .geq T.e (.tmp 107) (.const (.int .i64 0)) B (.int .i64 0) w fun an w=>X1 an (K (.tuple #[(.pointer none),B,(.int .i64 63)]) w) (Q1 P F.b9 [a,g] w fun A w=>X5 P .len [T.a0] T.e [false] [A] w fun Q w=>lp (α:=Value) (.int .i64 0) w fun h H d_ w=>Q4 P .lss T.e (.tmp 114) (.tmp 113) H Q w fun ab w=>X1 ab (indexAddr P T.a0 A H w fun ao w=>Q2 P T.e ao w fun C w=>nilCheck P a w fun ac w=>fieldAddr P T.u ac 0 w fun ah w=>Q2 P T.h ah w fun U w=>indexAddr P T.h U C w fun am w=>Q2 P T.a am w fun ak w=>Q1 P F.aV [a,ak] w fun D w=>Q4 P .neq T.r (.tmp 127) (.const (.int .i64 0)) D (.int .i64 0) w fun Z w=>X1 Z (Q4 P .sub T.e (.tmp 129) (.tmp 130) C g w fun ad w=>K (.tuple #[(.pointer none),ad,D]) w) (Q4 P .add T.e (.tmp 114) (.const (.int .i64 1)) H (.int .i64 1) w fun X w=>h X w)) (K (.tuple #[a,(.int .i64 0),(.int .i64 0)]) w)))))
theorem Q6x {a:Value} {w:World} {K:Value→World→Prop} (h:Q1G a w K):Q1 P F.cG [a] w K:=X0 Q77 Tryz.func25 rfl (by decide) (by kernel_rfl) h
def Ue (w:World) (K:Value→World→Prop):Prop:= O5 P T.n [(0,(.string ⟨#[105,110,116]⟩)),(1,(.int .i64 1))] w fun o w=>O5 P T.n [(0,(.string ⟨#[114,101,116,117,114,110]⟩))] w fun q w=>buildSlice P T.l 2 [(0,o),(1,q)] w fun r w=>O5 P T.k [(0,(.string ⟨#[120]⟩)),(1,(.string ⟨#[105,110,116]⟩))] w fun s w=>O5 P T.k [(0,(.string ⟨#[110,101,120,116]⟩)),(1,(.string ⟨#[65]⟩))] w fun t w=>buildSlice P T.i 2 [(0,s),(1,t)] w fun p w=>buildSlice P T.d 2 [(0,(.string ⟨#[105,110,116]⟩)),(1,(.string ⟨#[65]⟩))] w fun n w=>O5 P T.c [(0,(.string ⟨#[102]⟩)),(1,n),(2,(.string ⟨#[105,110,116]⟩)),(4,(.int .i64 3)),(5,r)] w fun h w=>O5 P T.n [(0,(.string ⟨#[114,101,116,117,114,110]⟩))] w fun m w=>buildSlice P T.l 1 [(0,m)] w fun l w=>O5 P T.c [(0,(.string ⟨#[103]⟩)),(4,(.int .i64 1)),(5,l)] w fun j w=>buildSlice P T.g 2 [(0,h),(1,j)] w fun b w=>O5 P T.a [(0,(.string ⟨#[65]⟩)),(1,(.string ⟨#[79,98,106,101,99,116]⟩)),(6,p),(7,b)] w fun d w=>buildSlice P T.d 1 [(0,(.string ⟨#[73]⟩))] w fun a w=>O5 P T.k [(0,(.string ⟨#[108]⟩)),(1,(.string ⟨#[65,91,93]⟩))] w fun g w=>buildSlice P T.i 1 [(0,g)] w fun f w=>O5 P T.a [(0,(.string ⟨#[66]⟩)),(1,(.string ⟨#[65]⟩)),(2,a),(6,f)] w fun i w=>O5 P T.a [(0,(.string ⟨#[73]⟩)),(1,(.string ⟨#[79,98,106,101,99,116]⟩)),(3,(.bool true)),(4,(.bool true))] w fun e w=>O5 P T.a [(0,(.string ⟨#[68]⟩)),(1,(.string ⟨#[79,98,106,101,99,116]⟩)),(4,(.bool true))] w fun k w=>buildSlice P T.h 4 [(0,d),(1,i),(2,e),(3,k)] w fun c w=>K c w
theorem Ru {w:World} {K:Value→World→Prop} (h:Ue w K):Q1 P F.ax [] w K:=X0 (List.replicate 3 none) Tryz.func26 rfl (by decide) (by kernel_rfl) h
def Gh:V4:=[none,none,none,none,none,some ([1,3],[1,3,10,11,12,13,14,15,16,17,18,19,20,21,22,23]),none,none,none,none]
def Lc (w:World) (K:Value→World→Prop):Prop:= O5 P T.a [(0,(.string ⟨#[79,98,106,101,99,116]⟩))] w fun n w=>O5 P T.k [(0,(.string ⟨#[119,104,97,116]⟩)),(1,(.string ⟨#[116,101,120,116]⟩))] w fun o w=>buildSlice P T.i 1 [(0,o)] w fun p w=>O5 P T.a [(0,(.string ⟨#[70,97,117,108,116]⟩)),(1,(.string ⟨#[79,98,106,101,99,116]⟩)),(6,p)] w fun m w=>buildSlice P T.h 2 [(0,n),(1,m)] w fun l w=>buildSlice P T.d 6 [(0,(.string ⟨#[78,117,108,108,70,97,117,108,116]⟩)),(1,(.string ⟨#[73,110,100,101,120,70,97,117,108,116]⟩)),(2,(.string ⟨#[67,97,115,116,70,97,117,108,116]⟩)),(3,(.string ⟨#[90,101,114,111,70,97,117,108,116]⟩)),(4,(.string ⟨#[82,111,111,109,70,97,117,108,116]⟩)),(5,(.string ⟨#[67,97,108,108,70,97,117,108,116]⟩))] w fun k w=>lp (α:=Value×Value) (l,(.int .i64 0)) w fun a b q w=>X5 P .len [T.d] T.e [false] [k] w fun j w=>Q4 P .lss T.e (.tmp 10) (.tmp 12) b.2 j w fun h w=>X1 h (indexAddr P T.d k b.2 w fun g w=>Q2 P T.b g w fun e w=>O5 P T.a [(0,e),(1,(.string ⟨#[70,97,117,108,116]⟩)),(5,(.bool true))] w fun i w=>buildSlice P T.h 1 [(0,i)] w fun c w=>X5 P .append [T.h,T.h] T.h [false,false] [b.1,c] w fun f w=>Q4 P .add T.e (.tmp 14) (.const (.int .i64 1)) b.2 (.int .i64 1) w fun d w=>a (f,d) w) (K b.1 w)
theorem Fz {w:World} {K:Value→World→Prop} (h:Lc w K):Q1 P F.ba [] w K:=X0 Gh Tryz.func52 rfl (by decide) (by kernel_rfl) h
def Kf:V4:=[none,none,none,some ([3],[2,3,4,5,6,7,8,9,10,11,12,13,14,15,16,17,18,19,20,21,22,23,24,25,26,27,28,29,30,31,32,33,34,35,36,37]),none,none,none,none,none,none,none]
def Mi (Z:Value) (w:World) (K:Value→World→Prop):Prop:= box P T.a Z w fun a w=>lp (α:=Value) (.int .i64 0) w fun g k d_ w=>fieldAddr P T.a a 7 w fun t6 w=>Q2 P T.g t6 w fun t7 w=>X5 P .len [T.g] T.e [false] [t7] w fun Y w=>Q4 P .lss T.e (.tmp 5) (.tmp 8) k Y w fun t9 w=>X1 t9 (fieldAddr P T.a a 7 w fun U w=>Q2 P T.g U w fun L w=>indexAddr P T.g L k w fun u w=>Q2 P T.c u w fun j w=>W6 P T.c w fun b w=>Z4 P T.c b j w fun _u w=>fieldAddr P T.c b 1 w fun z w=>Q2 P T.d z w fun y w=>X5 P .len [T.d] T.e [false] [y] w fun J w=>Q4 P .gtr T.e (.tmp 19) (.const (.int .i64 32)) J (.int .i64 32) w fun e w=>Q0 e false w (fieldAddr P T.c b 6) fun q w=>Q0 e false w (Q2 P T.o q) fun A w=>Q0 e false w (X5 P .len [T.o] T.e [false] [A]) fun n w=>Q0 e false w (Q4 P .gtr T.e (.tmp 24) (.const (.int .i64 32)) n (.int .i64 32)) fun D w=>pick P e (.bool true) D w fun c w=>Q0 c false w (fieldAddr P T.c b 5) fun C w=>Q0 c false w (Q2 P T.l C) fun l w=>Q0 c false w (X5 P .len [T.l] T.e [false] [l]) fun v w=>Q0 c false w (Q4 P .gtr T.e (.tmp 30) (.const (.int .i64 200)) v (.int .i64 200)) fun O w=>pick P c (.bool true) O w fun h w=>Q0 h false w (fieldAddr P T.c b 4) fun i w=>Q0 h false w (Q2 P T.e i) fun M w=>Q0 h false w (Q4 P .gtr T.e (.tmp 35) (.const (.int .i64 64)) M (.int .i64 64)) fun X w=>pick P h (.bool true) X w fun W w=>X1 W (K (.bool true) w) (Q4 P .add T.e (.tmp 10) (.const (.int .i64 1)) k (.int .i64 1) w fun V w=>g V w)) (fieldAddr P T.a a 2 w fun Q w=>Q2 P T.d Q w fun H w=>X5 P .len [T.d] T.e [false] [H] w fun t w=>Q4 P .gtr T.e (.tmp 40) (.const (.int .i64 32)) t (.int .i64 32) w fun f w=>Q0 f false w (fieldAddr P T.a a 6) fun B w=>Q0 f false w (Q2 P T.i B) fun s w=>Q0 f false w (X5 P .len [T.i] T.e [false] [s]) fun o w=>Q0 f false w (Q4 P .gtr T.e (.tmp 45) (.const (.int .i64 32)) o (.int .i64 32)) fun R w=>pick P f (.bool true) R w fun d w=>Q0 d false w (fieldAddr P T.a a 7) fun N w=>Q0 d false w (Q2 P T.g N) fun m w=>Q0 d false w (X5 P .len [T.g] T.e [false] [m]) fun r w=>Q0 d false w (Q4 P .gtr T.e (.tmp 51) (.const (.int .i64 32)) r (.int .i64 32)) fun E w=>pick P d (.bool true) E w fun p w=>K p w)
theorem Ix {a:Value} {w:World} {K:Value→World→Prop} (h:Mi a w K):Q1 P F.bo [a] w K:=X0 Kf Tryz.func112 rfl (by decide) (by kernel_rfl) h
def Gp:V4:=[none,none,none,some ([4],[4,5,6,7]),none,none,none,none]
def Vm (a:Value) (w:World) (K:Value→World→Prop):Prop:= jn (α:=Value) w (fun b w=>Q4 P .eql T.b (.tmp 3) (.const (.string ⟨#[105,110,116]⟩)) a (.string ⟨#[105,110,116]⟩) w fun d w=>X1 d (b d w) (Q4 P .eql T.b (.tmp 3) (.const (.string ⟨#[98,111,111,108]⟩)) a (.string ⟨#[98,111,111,108]⟩) w fun c w=>X1 c (b c w) (Q4 P .eql T.b (.tmp 3) (.const (.string ⟨#[116,101,120,116]⟩)) a (.string ⟨#[116,101,120,116]⟩) w fun e w=>b e w))) fun f g w=>X1 f (K (.bool true) w) (K (.bool false) w)
theorem Fi {a:Value} {w:World} {K:Value→World→Prop} (h:Vm a w K):Q1 P F.t [a] w K:=X0 Gp Tryz.func62 rfl (by decide) (by kernel_rfl) h
def Iy:V4:=[none,none,none,some ([3],[2,3,4,5,6,7,8,9,10,11,12,13,14,15,16,17,18,19,20,21,22,23,24,25,26,27,28,29,30,31,32,33,34,35,36,37,38,39,40,41,42,43,44,45,46,47,48,49,50]),none,none,none,none,none,none,none]
def Lz (g:Value) (w:World) (K:Value→World→Prop):Prop:= lp (α:=Value) (.int .i64 0) w fun j h d_ w=>X5 P .len [T.b] T.e [false] [g] w fun t7 w=>Q4 P .lss T.e (.tmp 5) (.tmp 7) h t7 w fun t8 w=>X1 t8 (E0 P T.b g h w fun V w=>Q4 P .geq T.w (.tmp 13) (.const (.int .u8 97)) V (.int .u8 97) w fun d w=>Q0 d true w (fun w J=>J g w) fun m w=>Q0 d true w (fun w J=>J h w) fun z w=>Q0 d true w (E0 P T.b m z) fun y w=>Q0 d true w (Q4 P .leq T.w (.tmp 18) (.const (.int .u8 122)) y (.int .u8 122)) fun U w=>pick P d U (.bool false) w fun b w=>Q0 b false w (fun w J=>J g w) fun t w=>Q0 b false w (fun w J=>J h w) fun A w=>Q0 b false w (E0 P T.b t A) fun q w=>Q0 b false w (Q4 P .geq T.w (.tmp 24) (.const (.int .u8 65)) q (.int .u8 65)) fun H w=>Q0 b false w (fun w J=>J H w) fun c w=>Q0 c true w (fun w J=>J g w) fun s w=>Q0 c true w (fun w J=>J h w) fun E w=>Q0 c true w (E0 P T.b s E) fun n w=>Q0 c true w (Q4 P .leq T.w (.tmp 29) (.const (.int .u8 90)) n (.int .u8 90)) fun v w=>Q0 b false w (pick P c v (.bool false)) fun X w=>pick P b (.bool true) X w fun C w=>Z8 P .not C w fun a w=>Q0 a true w (fun w J=>J h w) fun ab w=>Q0 a true w (Q4 P .eql T.e (.tmp 36) (.const (.int .i64 0)) ab (.int .i64 0)) fun aa w=>Q0 a true w (fun w J=>J aa w) fun f w=>Q0 f false w (fun w J=>J g w) fun N w=>Q0 f false w (fun w J=>J h w) fun u w=>Q0 f false w (E0 P T.b N u) fun M w=>Q0 f false w (Q4 P .lss T.w (.tmp 41) (.const (.int .u8 48)) M (.int .u8 48)) fun Z w=>Q0 a true w (pick P f (.bool true) Z) fun D w=>Q0 a true w (fun w J=>J D w) fun e w=>Q0 e false w (fun w J=>J g w) fun r w=>Q0 e false w (fun w J=>J h w) fun Y w=>Q0 e false w (E0 P T.b r Y) fun k w=>Q0 e false w (Q4 P .gtr T.w (.tmp 47) (.const (.int .u8 57)) k (.int .u8 57)) fun Q w=>Q0 a true w (pick P e (.bool true) Q) fun W w=>pick P a W (.bool false) w fun o w=>X1 o (K (.bool false) w) (Q4 P .add T.e (.tmp 9) (.const (.int .i64 1)) h (.int .i64 1) w fun B w=>j B w)) (X5 P .len [T.b] T.e [false] [g] w fun L w=>Q4 P .geq T.e (.tmp 52) (.const (.int .i64 1)) L (.int .i64 1) w fun i w=>Q0 i true w (fun w J=>J g w) fun R w=>Q0 i true w (X5 P .len [T.b] T.e [false] [R]) fun O w=>Q0 i true w (Q4 P .leq T.e (.tmp 56) (.const (.int .i64 32)) O (.int .i64 32)) fun p w=>pick P i p (.bool false) w fun l w=>K l w)
theorem Ko {a:Value} {w:World} {K:Value→World→Prop} (h:Lz a w K):Q1 P F.aM [a] w K:=X0 Iy Tryz.func204 rfl (by decide) (by kernel_rfl) h
def Wm (b:Value) (w:World) (K:Value→World→Prop):Prop:= Q1 P F.aM [b] w fun a w=>Q0 a true w (fun w J=>J b w) fun d w=>Q0 a true w (E0 P T.b d (.int .i64 0)) fun e w=>Q0 a true w (Q4 P .leq T.w (.tmp 7) (.const (.int .u8 90)) e (.int .u8 90)) fun c w=>pick P a c (.bool false) w fun f w=>K f w
theorem Bx {a:Value} {w:World} {K:Value→World→Prop} (h:Wm a w K):Q1 P F.e [a] w K:=X0 (List.replicate 2 none) Tryz.func170 rfl (by decide) (by kernel_rfl) h
def Ir:V4:=[none,none,none,some ([0,3],[0,3,4,5,6,7,8,9,10,11,12,13,14,15,16,17,18,19,20,21]),none,none,none,none]
def Mn (n:Value) (w:World) (K:Value→World→Prop):Prop:= lp (α:=Value×Value) (n,(.int .i64 0)) w fun a b q w=>X5 P .len [T.b] T.e [false] [b.1] w fun p w=>Q4 P .geq T.e (.tmp 5) (.const (.int .i64 2)) p (.int .i64 2) w fun c w=>Q0 c true w (fun w J=>J b.1 w) fun m w=>Q0 c true w (fun w J=>J b.1 w) fun o w=>Q0 c true w (X5 P .len [T.b] T.e [false] [o]) fun g w=>Q0 c true w (Q4 P .sub T.e (.tmp 10) (.const (.int .i64 2)) g (.int .i64 2)) fun l w=>Q0 c true w (H4 P T.b m (some l) none none) fun k w=>Q0 c true w (Q4 P .eql T.b (.tmp 12) (.const (.string ⟨#[91,93]⟩)) k (.string ⟨#[91,93]⟩)) fun i w=>pick P c i (.bool false) w fun e w=>X1 e (Q4 P .add T.e (.tmp 15) (.const (.int .i64 1)) b.2 (.int .i64 1) w fun d w=>X5 P .len [T.b] T.e [false] [b.1] w fun h w=>Q4 P .sub T.e (.tmp 19) (.const (.int .i64 2)) h (.int .i64 2) w fun f w=>H4 P T.b b.1 none (some f) none w fun j w=>a (j,d) w) (K b.2 w)
theorem Ip {a:Value} {w:World} {K:Value→World→Prop} (h:Mn a w K):Q1 P F.an [a] w K:=X0 Ir Tryz.func177 rfl (by decide) (by kernel_rfl) h
def Vu (d:Value) (w:World) (K:Value→World→Prop):Prop:= Q1 P F.an [d] w fun m w=>X5 P .len [T.b] T.e [false] [d] w fun n w=>Q4 P .mul T.e (.const (.int .i64 2)) (.tmp 10) (.int .i64 2) m w fun g w=>Q4 P .sub T.e (.tmp 9) (.tmp 11) n g w fun f w=>H4 P T.b d none (some f) none w fun c w=>Q4 P .leq T.e (.tmp 14) (.const (.int .i64 3)) m (.int .i64 3) w fun a w=>Q0 a true w (fun w J=>J c w) fun e w=>Q0 a true w (Q1 P F.t [e]) fun k w=>Q0 a true w (fun w J=>J k w) fun b w=>Q0 b false w (fun w J=>J c w) fun h w=>Q0 b false w (Q1 P F.e [h]) fun i w=>Q0 a true w (pick P b (.bool true) i) fun j w=>pick P a j (.bool false) w fun l w=>K l w
theorem Gj {a:Value} {w:World} {K:Value→World→Prop} (h:Vu a w K):Q1 P F.i [a] w K:=X0 (List.replicate 4 none) Tryz.func120 rfl (by decide) (by kernel_rfl) h
def Uv (b:Value) (w:World) (K:Value→World→Prop):Prop:= Q1 P F.aM [b] w fun a w=>Q0 a true w (fun w J=>J b w) fun d w=>Q0 a true w (E0 P T.b d (.int .i64 0)) fun e w=>Q0 a true w (Q4 P .geq T.w (.tmp 7) (.const (.int .u8 97)) e (.int .u8 97)) fun c w=>pick P a c (.bool false) w fun f w=>K f w
theorem Ck {a:Value} {w:World} {K:Value→World→Prop} (h:Uv a w K):Q1 P F.r [a] w K:=X0 (List.replicate 2 none) Tryz.func171 rfl (by decide) (by kernel_rfl) h
end Go.Proofs.YtfppjenblllfaaaGreatDoor
