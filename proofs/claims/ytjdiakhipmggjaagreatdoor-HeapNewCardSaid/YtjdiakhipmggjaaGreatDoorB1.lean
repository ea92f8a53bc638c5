/- Parts of a proof about the given program: its functions as texts of their own, what each computes, plain laws of that. The conditions of each stand in its statement. -/
import Derived.WalkKit
import Derived.Test.YtjdiakhipmggjaaGreatDoorProg
import Derived.KernelRfl
set_option linter.unnecessarySimpa false
set_option linter.defProp false
set_option linter.unusedSectionVars false
set_option linter.unusedVariables false
set_option linter.unusedSimpArgs false
namespace Go.Emb
def K1 (P:Program) (s:Sem Next) (w:World) (K:Value→World→Prop):Prop:=
 match s.run P w with
 | .ok (.value v) w'=>K v w'
 | .ok .skip w'=>K undef w'
 | .ok (.enter f a) w'=>Calls P f a w' fun e b=>match e with | .returned v=>K v b | _=>False
 | .ok (.row row a) w'=>Rows P row a w' K
 | _=>False
theorem Q97: ∃f:Program→Sem Next→World→(Value→World→Prop)→Prop,f=K1:=⟨_,rfl⟩
noncomputable def op:Program→Sem Next→World→(Value→World→Prop)→Prop:=Classical.choose Q97
theorem T1:op=K1:=Classical.choose_spec Q97
theorem X1g {P:Program} {o:Oper} {a:Act} {w:World} {next:Act→World→Prop} {Q:Exit→Act→World→Prop}
 (h:op P (execOp a.eval o) w (fun v w=>next (a.put o.dst v) w)):o.wp P a w next Q:=by
 unfold Oper.wp
 rw[T1] at h
 unfold K1 at h
 cases c:(execOp a.eval o).run P w with
 | halt x w'=>rw[c] at h;exact h.elim
 | ok n w'=>
  rw[c] at h
  cases n<;>simp only at h<;>try exact h.elim
  ·exact h
  ·exact h
  ·refine Calls.mono h fun e d b=>?_
   cases e<;>first | exact b | exact b.elim
  ·exact h
theorem De {P:Program} {s:Sem Next} {K b:Value→World→Prop} {w:World} (a: ∀v w,K v w→b v w) (h:op P s w K):op P s w b:=by
 rw[T1] at*
 unfold K1 at*
 cases d:s.run P w with
 | halt x w'=>rw[d] at h;exact h.elim
 | ok n w'=>
  rw[d] at h
  cases n<;>simp only at h⊢ <;>try exact h.elim
  ·exact a _ _ h
  ·exact a _ _ h
  ·refine Calls.mono h fun e f c=>?_
   cases e<;>first | exact a _ _ c | exact c.elim
  ·exact h.mono a
def sv (s:Sem Value):Sem Next:=do Pure.pure (.value (←s))
def su (s:Sem Unit):Sem Next:=do s;Pure.pure .skip
section
variable (P : Program)
noncomputable def pick (c a b:Value) (w:World) (K:Value→World→Prop):Prop:=op P (do Pure.pure (.value (if←asBool c then a else b))) w K
noncomputable def W1 (e:TypeId) (w:World) (K:Value→World→Prop):Prop:=op P (sv (Instr.alloc e true (.tuple #[]))) w K
noncomputable def box (e:TypeId) (x:Value) (w:World) (K:Value→World→Prop):Prop:=op P (sv (Instr.box e x)) w K
noncomputable def N8 (t:TypeId) (a:List (Nat×Value)) (w:World) (K:Value→World→Prop):Prop:=op P (sv (Instr.build t a.toArray)) w K
noncomputable def buildSlice (t:TypeId) (n:Nat) (a:List (Nat×Value)) (w:World) (K:Value→World→Prop):Prop:=op P (sv (Instr.buildSlice t n a.toArray)) w K
noncomputable def Q2 (t:TypeId) (a:Value) (w:World) (K:Value→World→Prop):Prop:=op P (sv (Instr.loadAt t a)) w K
noncomputable def Z6 (t:TypeId) (a x:Value) (w:World) (K:Value→World→Prop):Prop:=op P (su (Instr.storeAt t a x)) w K
noncomputable def nilCheck (x:Value) (w:World) (K:Value→World→Prop):Prop:=op P (execOp (fun _=>x) {dst:=none,op:= .nilCheck (.const x),type:=0,pos:= "",after:= #[],guard:=none}) w K
noncomputable def Q3 (o:BinOp) (t:TypeId) (a b:Operand) (x y:Value) (w:World) (K:Value→World→Prop):Prop:=op P (sv (do eqGuard o t a b x y;Go.binOp o t x y)) w K
noncomputable def Z8 (o:UnOp) (x:Value) (w:World) (K:Value→World→Prop):Prop:=op P (sv (Op.unary o x)) w K
noncomputable def conv (s d:TypeId) (x:Value) (w:World) (K:Value→World→Prop):Prop:=op P (sv (Go.convert s d x)) w K
noncomputable def Q9W (t:TypeId) (x:Value) (w:World) (K:Value→World→Prop):Prop:=op P (sv (Instr.makeInterface t x)) w K
noncomputable def N0 (f:Fn) (first caps:List Value) (w:World) (K:Value→World→Prop):Prop:=op P (sv (Instr.makeFunc f first.toArray caps.toArray)) w K
noncomputable def Cv (t:TypeId) (r:Option Value) (w:World) (K:Value→World→Prop):Prop:=op P (sv (Instr.makeMap t r)) w K
noncomputable def Uy (t:TypeId) (n c:Value) (w:World) (K:Value→World→Prop):Prop:=op P (sv (Instr.makeSlice t n c)) w K
noncomputable def R6 (t:TypeId) (x:Value) (b c a:Option Value) (w:World) (K:Value→World→Prop):Prop:=op P (sv (Instr.sliceAt t x b c a)) w K
noncomputable def fieldAddr (t:TypeId) (x:Value) (f:Nat) (w:World) (K:Value→World→Prop):Prop:=op P (sv (Instr.fieldAt t x f)) w K
noncomputable def Yy (t:TypeId) (x:Value) (f:Nat) (w:World) (K:Value→World→Prop):Prop:=op P (sv (Instr.field t x f)) w K
noncomputable def indexAddr (t:TypeId) (x i:Value) (w:World) (K:Value→World→Prop):Prop:=op P (sv (Instr.indexAt t x i)) w K
noncomputable def D7 (t:TypeId) (x i:Value) (w:World) (K:Value→World→Prop):Prop:=op P (sv (Instr.index t x i)) w K
noncomputable def lookup (t:TypeId) (x i:Value) (ok:Bool) (w:World) (K:Value→World→Prop):Prop:=op P (sv (Instr.lookup t x i ok)) w K
noncomputable def mapUpdate (t:TypeId) (m k x:Value) (w:World) (K:Value→World→Prop):Prop:=op P (su (Instr.mapUpdate t m k x)) w K
noncomputable def mapEntry (t:TypeId) (m k:Value) (w:World) (K:Value→World→Prop):Prop:=op P (sv (Instr.mapEntry t m k)) w K
noncomputable def entryStore (t:TypeId) (m s x:Value) (w:World) (K:Value→World→Prop):Prop:=op P (su (Instr.entryStore t m s x)) w K
noncomputable def rng (t:TypeId) (x:Value) (w:World) (K:Value→World→Prop):Prop:=op P (sv (Instr.range t x)) w K
noncomputable def V0 (b:Value) (a:Bool) (t:TypeId) (w:World) (K:Value→World→Prop):Prop:=op P (sv (Instr.next b a t)) w K
noncomputable def Q6F (a:Value) (w:World) (K:Value→World→Prop):Prop:=op P (sv (Instr.entry a)) w K
noncomputable def pnc (x:Value) (w:World) (K:Value→World→Prop):Prop:=op P (sv (Instr.panic x)) w K
noncomputable def ext (x:Value) (i:Nat) (w:World) (K:Value→World→Prop):Prop:=op P (sv (Instr.extract x i)) w K
noncomputable def X6 (b:Builtin) (a:List TypeId) (t:TypeId) (cs:List Bool) (xs:List Value) (w:World) (K:Value→World→Prop):Prop:=op P (Go.builtin b a.toArray t cs.toArray xs.toArray) w K
noncomputable def Q1 (f:FuncId) (xs:List Value) (w:World) (K:Value→World→Prop):Prop:=op P (callFunc f xs.toArray) w K
noncomputable def Y6 (f:Value) (xs:List Value) (w:World) (K:Value→World→Prop):Prop:=op P (do let d←Deferred.ofValue f xs.toArray;invoke d.target d.args) w K
end
def get (l:List Value) (t:Nat):Value:=l.getD t undef
def ev (l:List Value):Operand→Value
 | .tmp t=>get l t
 | .const v=>v
 | .global g=> .pointer (some ⟨g,0,none⟩)
 | .func f=> .func (.func f) #[] #[]
def put (l:List Value) (d:Option Tmp) (v:Value):List Value:=
 match d with
 | some d=>l.set d v
 | none=>l
def Pq (l:List Value) (xs:Array Operand):List Value:=xs.toList.map (ev l)
def evp (l:List Value) (xs:Array (Nat×Operand)):List (Nat×Value):=xs.toList.map fun p=>(p.1,ev l p.2)
def evo (l:List Value) (x:Option Operand):Option Value:=match x with | some x=>some (ev l x) | none=>none
def isC:Operand→Bool | .const _=>true | _=>false
noncomputable def Ms (P:Program) (l:List Value) (o:Oper) (c:Call) (w:World) (K:Value→World→Prop):Prop:=
 match c.callee with
 | .builtin b=>X6 P b c.argTypes.toList o.type (c.args.toList.map isC) (Pq l c.args) w K
 | .value (.func f)=>Q1 P f (Pq l c.args) w K
 | .value f=>Y6 P (ev l f) (Pq l c.args) w K
 | _=>op P (execOp (ev l) o) w K
noncomputable def V5 (P:Program) (l:List Value) (o:Oper) (w:World) (K:Value→World→Prop):Prop:=
 match o.op with
 | .move x=>K (ev l x) w
 | .assign x=>K (ev l x) w
 | .pick c a b=>pick P (ev l c) (ev l a) (ev l b) w K
 | .alloc e=>W1 P e w K
 | .box e x=>box P e (ev l x) w K
 | .build t h=>N8 P t (evp l h) w K
 | .buildSlice t n h=>buildSlice P t n (evp l h) w K
 | .load t a=>Q2 P t (ev l a) w K
 | .store t a x=>Z6 P t (ev l a) (ev l x) w K
 | .nilCheck x=>nilCheck P (ev l x) w K
 | .binOp op t x y _=>Q3 P op t x y (ev l x) (ev l y) w K
 | .unOp op _ x=>Z8 P op (ev l x) w K
 | .convert s d x=>conv P s d (ev l x) w K
 | .makeInterface t x=>Q9W P t (ev l x) w K
 | .makeFunc f first caps=>N0 P f (Pq l first) (Pq l caps) w K
 | .makeMap t r=>Cv P t (evo l r) w K
 | .makeSlice t n c=>Uy P t (ev l n) (ev l c) w K
 | .slice t x p u q=>R6 P t (ev l x) (evo l p) (evo l u) (evo l q) w K
 | .fieldAddr t x f=>fieldAddr P t (ev l x) f w K
 | .field t x f=>Yy P t (ev l x) f w K
 | .indexAddr t x i=>indexAddr P t (ev l x) (ev l i) w K
 | .index t x i=>D7 P t (ev l x) (ev l i) w K
 | .lookup t x i ok=>lookup P t (ev l x) (ev l i) ok w K
 | .mapUpdate t m k x=>mapUpdate P t (ev l m) (ev l k) (ev l x) w K
 | .insert t m k x=>mapUpdate P t (ev l m) (ev l k) (ev l x) w K
 | .mapEntry t m k=>mapEntry P t (ev l m) (ev l k) w K
 | .entryStore t m s x=>entryStore P t (ev l m) (ev l s) (ev l x) w K
 | .range t x=>rng P t (ev l x) w K
 | .next j g=>V0 P (ev l j) g o.type w K
 | .extract x i=>ext P (ev l x) i w K
 | .entry j=>Q6F P (ev l j) w K
 | .panic x=>pnc P (ev l x) w K
 | .call c=>Ms P l o c w K
 | _=>op P (execOp (ev l) o) w K
theorem Q5V {α β:Type} (f:α→β) (a:Array α):a.map f=(a.toList.map f).toArray:=by rw[←Array.toList_map,Array.toArray_toList]
theorem Q9Y (l:List Value) (x:Option Operand):x.map (ev l)=evo l x:=by cases x<;>rfl
theorem Q3l {P:Program} {l:List Value} {o:Oper} {c:Call} {K e:Value→World→Prop} {w:World} (d: ∀v w,K v w→e v w) (h:Ms P l o c w K):Ms P l o c w e:=by
 obtain ⟨a,g,i⟩:=c
 cases a with
 | builtin b=>exact De d h
 | invoke r m=>exact De d h
 | value f=>cases f<;>(simp only[Ms,Y6,Q1] at h⊢;exact De d h)
theorem C1 {P:Program} {l:List Value} {o:Oper} {K b:Value→World→Prop} {w:World} (a: ∀v w,K v w→b v w) (h:V5 P l o w K):V5 P l o w b:=by
 obtain ⟨d,p,c,pos,e,g⟩:=o
 cases p<;>first | exact a _ _ h | exact Q3l a h | exact De a h | (simp only[V5] at h⊢;exact De a h)
theorem Q4Z {P:Program} {l:List Value} {o:Oper} {K:Value→World→Prop} {w:World} (h:V5 P l o w K):op P (execOp (ev l) o) w K:=by
 unfold V5 at h
 split at h<;>rename_i a
 all_goals first
  | exact h
  | (unfold execOp;rw[a];exact h)
  | (unfold execOp;rw[a];simp only[Q5V,Q9Y];exact h)
  | (unfold execOp;rw[a,T1];exact h)
  | skip
 rename_i c
 unfold Ms at h
 split at h<;>rename_i b
 ·unfold execOp;rw[a];simp only[resolve,b,Q5V]
  simp only[pure_bind,invoke]
  unfold X6 at h
  simp only[Array.toArray_toList] at h
  refine (congrArg (fun z=>op P (builtin _ c.argTypes o.type (List.toArray z) _) w K) (List.map_congr_left (fun x _=>?_))).mp h
  cases x<;>rfl
 ·unfold execOp;rw[a];simp only[resolve,b,Q5V]
  simp only[ev,Deferred.ofValue,pure_bind,invoke]
  simpa [Q1,Pq] using h
 ·unfold execOp;rw[a];simp only[resolve,b,Q5V]
  exact h
 ·exact h
def Wm (v:Value) (b:Bool) (w:World) (a:World→(Value→World→Prop)→Prop) (J:Value→World→Prop):Prop:=
 match v with
 | .bool c=>if c=b then a w J else J undef w
 | _=>J undef w
theorem Q7x: ∃f:Value→Bool→World→(World→(Value→World→Prop)→Prop)→(Value→World→Prop)→Prop,f=Wm:=⟨_,rfl⟩
noncomputable def Q0:Value→Bool→World→(World→(Value→World→Prop)→Prop)→(Value→World→Prop)→Prop:=Classical.choose Q7x
theorem Ng:Q0=Wm:=Classical.choose_spec Q7x
def Q1c (v:Value) (t e:Prop):Prop:=
 match v with
 | .bool true=>t
 | .bool false=>e
 | _=>False
theorem Q7Y: ∃f:Value→Prop→Prop→Prop,f=Q1c:=⟨_,rfl⟩
noncomputable def X1:Value→Prop→Prop→Prop:=Classical.choose Q7Y
theorem Q3J:X1=Q1c:=Classical.choose_spec Q7Y
noncomputable def Y5 (P:Program) (ops:List Oper) (next:List Value→World→Prop):List Oper→List Value→World→Prop
 | [],l,w=>next l w
 | o::a,l,w=>
  match o.guard with
  | none=>V5 P l o w (fun v w=>Y5 P ops next a (put l o.dst v) w)
  | some (j,b)=>match (ops[j]?).bind (·.dst) with
   | some d=>Q0 (get l d) b w (V5 P l o) (fun v w=>Y5 P ops next a (put l o.dst v) w)
   | none=>Y5 P ops next a (put l o.dst undef) w
def Gk:Nat→Type
 | 0=>Unit
 | 1=>Value
 | n+2=>Value×Gk (n+1)
def Lv (l:List Value):(a:List Nat)→Gk a.length
 | []=>()
 | [s]=>get l s
 | s::t::r=>(get l s,Lv l (t::r))
def Ot (i:Nat) (e:Value):(a:List Nat)→Gk a.length→Value
 | [],_=>e
 | [s],x=>if s=i then x else e
 | s::t::r,x=>if s=i then x.1 else Ot i e (t::r) x.2
def M5 (a b:List Nat) (x:Gk a.length) (d:Nat→Value):Nat→List Value→List Value
 | _,[]=>[]
 | i,v::l=>Ot i (if b.contains i then d i else v) a x::M5 a b x d (i+1) l
def Q9q (α:Type) (x0:α) (w:World) (a:(α→World→Prop)→α→(Nat→Value)→World→Prop):Prop:=
 ∃(I:α→World→Prop) (μ:α→World→Nat),I x0 w∧ ∀x d w,I x w→a (fun b w'=>I b w'∧μ b w'<μ x w) x d w
theorem Q9e: ∃f:(α:Type)→α→World→((α→World→Prop)→α→(Nat→Value)→World→Prop)→Prop,f=Q9q:=⟨_,rfl⟩
noncomputable def lp {α:Type}:α→World→((α→World→Prop)→α→(Nat→Value)→World→Prop)→Prop:=Classical.choose Q9e α
theorem Q9w {α:Type} (x0:α) (w:World) (a:(α→World→Prop)→α→(Nat→Value)→World→Prop):lp x0 w a=Q9q α x0 w a:=
 congrFun (congrFun (congrFun (congrFun (Classical.choose_spec Q9e) α) x0) w) a
def Q99 (α:Type) (w:World) (A:(α→World→Prop)→World→Prop) (B:α→(Nat→Value)→World→Prop):Prop:=
 ∃I:α→World→Prop,A I w∧ ∀x d w,I x w→B x d w
theorem Q9j: ∃f:(α:Type)→World→((α→World→Prop)→World→Prop)→(α→(Nat→Value)→World→Prop)→Prop,f=Q99:=⟨_,rfl⟩
noncomputable def jn {α:Type}:World→((α→World→Prop)→World→Prop)→(α→(Nat→Value)→World→Prop)→Prop:=Classical.choose Q9j α
theorem Q9o {α:Type} (w:World) (A:(α→World→Prop)→World→Prop) (B:α→(Nat→Value)→World→Prop):jn w A B=Q99 α w A B:=
 congrFun (congrFun (congrFun (congrFun (Classical.choose_spec Q9j) α) w) A) B
theorem Wt {α:Type} {w:World} {A:(α→World→Prop)→World→Prop} {B:α→(Nat→Value)→World→Prop} (I:α→World→Prop) (h:A I w) (a: ∀x d w,I x w→B x d w):jn w A B:=by
 rw[Q9o];exact ⟨I,h,a⟩
theorem Q4z {α:Type} {w:World} {A:(α→World→Prop)→World→Prop} {B:α→(Nat→Value)→World→Prop} (h:jn w A B): ∃I:α→World→Prop,A I w∧ ∀x d w,I x w→B x d w:=by
 rw[Q9o] at h;exact h
theorem Uc {α:Type} {x0:α} {w:World} {a:(α→World→Prop)→α→(Nat→Value)→World→Prop} (I:α→World→Prop) (μ:α→World→Nat) (c:I x0 w)
 (e: ∀x d w,I x w→a (fun b w'=>I b w'∧μ b w'<μ x w) x d w):lp x0 w a:=by
 rw[Q9w];exact ⟨I,μ,c,e⟩
theorem Q7O {α:Type} {x0:α} {w:World} {a:(α→World→Prop)→α→(Nat→Value)→World→Prop} (h:lp x0 w a):
 ∃(I:α→World→Prop) (μ:α→World→Nat),I x0 w∧ ∀x d w,I x w→a (fun b w'=>I b w'∧μ b w'<μ x w) x d w:=by
 rw[Q9w] at h;exact h
def O5 (ops:List Oper):List Nat:=ops.filterMap (·.dst)
def K2:Code→Nat
 | .seq a b=>K2 a+K2 b+1
 | .cond _ a b=>K2 a+K2 b
 | .block _ c=>K2 c
 | .loop c=>K2 c+1
 | .scope c=>K2 c
 | _=>0
def W6 (d:List (Option (List Nat))):Nat→Code→List Nat
 | _, .region _ ops _=>O5 ops.toList
 | k, .seq a b=>(d.getD k none).getD []++(W6 d (k+1) a++W6 d (k+1+K2 a) b)
 | k, .cond _ a b=>W6 d k a++W6 d (k+K2 a) b
 | k, .block _ c=>W6 d k c
 | k, .loop c=>(d.getD k none).getD []++W6 d (k+1) c
 | k, .scope c=>W6 d k c
 | _,_=>[]
abbrev Od:=Exit→List Value→World→Prop
def thn (next:List Value→World→Prop) (Q:Od):Od
 | .normal,a,w=>next a w
 | e,a,w=>Q e a w
def Q12 (id:Nat) (Q:Od):Od
 | .exit b,a,w=>if b=id then Q .normal a w else Q (.exit b) a w
 | e,a,w=>Q e a w
noncomputable def Lx (P:Program) (a:List (Option (List Nat))):Nat→Code→Od→List Value→World→Prop
 | _, .skip,Q,l,w=>Q .normal l w
 | _, .label _,Q,l,w=>Q .normal l w
 | _, .exit id,Q,l,w=>Q (.exit id) l w
 | _, .ret,Q,l,w=>Q .ret l w
 | _, .region _ ops false,Q,l,w=>Y5 P ops.toList (fun l w=>Q .normal l w) ops.toList l w
 | _, .region _ ops true,Q,l,w=> ∀t,Y5 P ops.toList (fun l w=>Q .normal l w) ((Region.schedule (P.follows .mixedOrders) ops t).filterMap (ops[·]?)) l w.drew
 | k, .seq x y,Q,l,w=>match a.getD k none with
  | none=>Lx P a (k+1) x (thn (fun l w=>Lx P a (k+1+K2 x) y Q l w) Q) l w
  | some e=>jn w (fun J w=>Lx P a (k+1) x (thn (fun l' w'=>J (Lv l' e) w') Q) l w)
   (fun z d w=>Lx P a (k+1+K2 x) y Q (M5 e (W6 a (k+1) x) z d 0 l) w)
 | k, .cond c x y,Q,l,w=>X1 (ev l c) (Lx P a k x Q l w) (Lx P a (k+K2 x) y Q l w)
 | k, .block id c,Q,l,w=>Lx P a k c (Q12 id Q) l w
 | k, .loop c,Q,l,w=>
  lp (Lv l ((a.getD k none).getD [])) w (fun b x d w=>Lx P a (k+1) c (thn (fun l' w'=>b (Lv l' ((a.getD k none).getD [])) w') Q) (M5 ((a.getD k none).getD []) (W6 a (k+1) c) x d 0 l) w)
 | _,_,_,_,_=>False
theorem Q6H {ops:List Oper} {l:List Value} {o:Oper} {j:Nat} {b:Bool} (a:o.guard=some (j,b)) {d:Nat} (e:(ops[j]?).bind (·.dst)=some d):
 Region.wanted o (yielded ops.toArray l.toArray)=true↔get l d= .bool b:=by
 unfold Region.wanted yielded
 rw[a]
 simp only[List.getElem?_toArray]
 rw[e]
 simp only[Option.bind_some,get,List.getD_eq_getElem?_getD]
 have key: ∀x:Option Value,((match x with | some (.bool c)=>some c | _=>none)==some b)=true↔x.getD undef= .bool b:=by
  intro x
  cases x with
  | none=>simp[undef]
  | some v=>cases v<;>simp
 exact key _
theorem Q53 {ops:List Oper} {l:List Value} {o:Oper} {j:Nat} {b:Bool} (a:o.guard=some (j,b)) (c:(ops[j]?).bind (·.dst)=none):
 Region.wanted o (yielded ops.toArray l.toArray)=false:=by
 unfold Region.wanted yielded
 rw[a]
 simp only[List.getElem?_toArray]
 rw[c]
 rfl
theorem Vd {v:Value} {b:Bool} {a:World→(Value→World→Prop)→Prop} {J:Value→World→Prop} {w:World} (h:Q0 v b w a J):
 (v= .bool b∧a w J)∨(v≠ .bool b∧J undef w):=by
 rw[Ng] at h
 unfold Wm at h
 split at h
 ·split at h
  ·rename_i c;subst c;exact .inl ⟨rfl,h⟩
  ·rename_i c;exact .inr ⟨by simp[c],h⟩
 ·rename_i d;exact .inr ⟨d b,h⟩
theorem Tp {v:Value} {b:Bool} {a:World→(Value→World→Prop)→Prop} {J:Value→World→Prop} {w:World}
 (h:(v= .bool b∧a w J)∨(v≠ .bool b∧J undef w)):Q0 v b w a J:=by
 rw[Ng]
 unfold Wm
 split
 ·split
  ·rename_i c;subst c
   rcases h with h | h
   ·exact h.2
   ·exact absurd rfl h.1
  ·rename_i c
   rcases h with h | h
   ·exact absurd (Value.bool.inj h.1) c
   ·exact h.2
 ·rename_i d
  rcases h with h | h
  ·exact absurd h.1 (d b)
  ·exact h.2
theorem Q1O (a:Act):a.eval=ev a.tmps.toList:=by
 funext x
 cases x<;>simp[Act.eval,ev,get,List.getD_eq_getElem?_getD]
theorem Q6b (a:Act) (d:Option Tmp) (v:Value):(a.put d v).tmps.toList=put a.tmps.toList d v:=by
 cases d<;>simp[Act.put,put]
theorem Q69 (a:Act) (d:Option Tmp) (v:Value):(a.put d v).defers=a.defers:=by
 cases d<;>simp[Act.put]
def lift (Q:Od):Exit→Act→World→Prop:=fun e a w=>a.defers=[]∧Q e a.tmps.toList w
theorem Kl (P:Program) (ops:Array Oper) (Q:Exit→Act→World→Prop) (next:List Value→World→Prop)
 (y: ∀a w,a.defers=[]→next a.tmps.toList w→Q .normal a w) (is:List Nat) (q: ∀i∈is,i<ops.size):
 ∀(a:Act) (w:World),a.defers=[]→Y5 P ops.toList next (is.filterMap (ops[·]?)) a.tmps.toList w→wpOps P ops Q is a w:=by
 induction is with
 | nil=>intro a w o h;exact y a w o h
 | cons i is u=>
  intro a w o h
  have p:=q i (by simp)
  have k:ops[i]? =some ops[i]:=by simp[p]
  rw[List.filterMap_cons,k] at h
  simp only[Y5] at h
  simp only[wpOps,k]
  have r:ops.toList.toArray=ops:=by simp
  have s:a.tmps.toList.toArray=a.tmps:=by simp
  have f: ∀{v w},Y5 P ops.toList next (is.filterMap (ops[·]?)) (put a.tmps.toList ops[i].dst v) w→wpOps P ops Q is (a.put ops[i].dst v) w:=by
   intro v w e
   refine u (fun j t=>q j (by simp[t])) _ _ (by rw[Q69];exact o) ?_
   rw[Q6b];exact e
  have m:V5 P a.tmps.toList ops[i] w (fun v w=>Y5 P ops.toList next (is.filterMap (ops[·]?)) (put a.tmps.toList ops[i].dst v) w)→
   ops[i].wp P a w (wpOps P ops Q is) Q:=by
   intro h
   refine X1g ?_
   rw[Q1O]
   exact De (fun v w e=>f e) (Q4Z h)
  split at h
  ·rename_i n
   rw[if_pos (by simp[Region.wanted,n])]
   exact .inl (m h)
  ·rename_i j b n
   split at h
   ·rename_i d c
    have g:=Q6H (ops:=ops.toList) (l:=a.tmps.toList) n c
    rw[r,s] at g
    rcases Vd h with ⟨e,h⟩ | ⟨e,h⟩
    ·rw[if_pos (g.2 e)];exact .inl (m h)
    ·rw[if_neg (fun h=>e (g.1 h))];exact f h
   ·rename_i c
    have g:=Q53 (ops:=ops.toList) (l:=a.tmps.toList) n c
    rw[r,s] at g
    rw[if_neg (by rw[g];simp)];exact f h
theorem Kh (ops:Array Oper):(List.range ops.size).filterMap (ops[·]?)=ops.toList:=by
 apply List.ext_getElem?
 intro i
 rw[←Array.length_toList]
 have: ∀l:List Oper,(List.range l.length).filterMap (l[·]?)=l:=by
  intro l
  induction l with
  | nil=>rfl
  | cons x l a=>
   rw[List.length_cons,List.range_succ_eq_map,List.filterMap_cons]
   simp only[List.getElem?_cons_zero,List.filterMap_map]
   congr 1
 have h:=this ops.toList
 simp only[Array.getElem?_toList] at h
 rw[h]
theorem Q0u (b:Bool) (ops:Array Oper) (t:Nat): ∀i∈Region.schedule b ops t,i<ops.size:=by
 have key: ∀m c t a e,(∀i∈e,i<ops.size)→ ∀i∈Region.linearise.go m ops c t a e,i<ops.size:=by
  intro m c
  induction c with
  | zero=>intro t a e h i d;simp[Region.linearise.go] at d;exact h i d
  | succ c g=>
   intro t a e h i d
   simp only[Region.linearise.go] at d
   split at d
   ·rename_i j f
    refine g _ _ _ ?_ i d
    intro k hk
    rcases List.mem_cons.1 hk with rfl | hk
    ·have:=List.mem_of_getElem? f
     simp only[List.mem_filter,List.mem_range] at this
     exact this.1
    ·exact h k hk
   ·simp at d;exact h i d
 intro i d
 unfold Region.schedule at d
 split at d
 ·exact key _ _ _ _ _ (by simp) i d
 ·exact key _ _ _ _ _ (by simp) i d
def I4 (W:List Nat) (l l':List Value):Prop:=l'.length=l.length∧ ∀i,W.contains i=false→l'[i]? =l[i]?
theorem I4.refl (W:List Nat) (l:List Value):I4 W l l:=⟨rfl,fun _ _=>rfl⟩
theorem I4.trans {W:List Nat} {a b c:List Value} (h:I4 W a b) (k:I4 W b c):I4 W a c:=
 ⟨k.1.trans h.1,fun i d=>(k.2 i d).trans (h.2 i d)⟩
theorem Ew (a c:List Nat) (x:Gk a.length) (d:Nat→Value) (l:List Value): ∀i,(M5 a c x d i l).length=l.length:=by
 induction l with
 | nil=>intro i;rfl
 | cons v l b=>intro i;simp[M5,b]
theorem Hj (a b:List Nat) (x:Gk a.length) (d:Nat→Value) (l:List Value): ∀i j,(M5 a b x d i l)[j]? =(l[j]?).map fun v=>Ot (i+j) (if b.contains (i+j) then d (i+j) else v) a x:=by
 induction l with
 | nil=>intro i j;simp[M5]
 | cons v l c=>
  intro i j
  cases j with
  | zero=>simp[M5]
  | succ j=>simp only[M5,List.getElem?_cons_succ,c];rw[show i+1+j=i+(j+1) from by omega]
theorem Jp (i:Nat) (e:Value): ∀(b:List Nat) (x:Gk b.length),b.contains i=false→Ot i e b x=e
 | [],_,_=>rfl
 | [s],x,h=>by
  have a: ¬s=i:=by intro a;subst a;simp at h
  exact if_neg a
 | s::t::r,x,h=>by
  simp only[Ot]
  split
  ·rename_i a;subst a;simp at h
  ·refine Jp i e (t::r) x.2 ?_
   simp only[List.contains_cons,Bool.or_eq_false_iff] at h⊢
   exact h.2
theorem Q4l (l:List Value) (i:Nat) (e c:Value): ∀(b:List Nat),b.contains i=true→Ot i e b (Lv l b)=get l i
 | [],h=>by simp at h
 | [s],h=>by
  simp only[List.contains_cons,List.contains_nil,Bool.or_false,beq_iff_eq] at h
  subst h;simp[Ot,Lv]
 | s::t::r,h=>by
  simp only[Ot,Lv]
  split
  ·rename_i a;subst a;rfl
  ·rename_i a
   refine Q4l l i e c (t::r) ?_
   simp only[List.contains_cons,Bool.or_eq_true,beq_iff_eq] at h⊢
   rcases h with h | h
   ·exact absurd h.symm a
   ·exact h
theorem Ff (a c:List Nat) (l l':List Value) (g:l'.length=l.length)
 (h: ∀i,a.contains i=false→c.contains i=false→l'[i]? =l[i]?):l'=M5 a c (Lv l' a) (get l') 0 l:=by
 apply List.ext_getElem?
 intro i
 rw[Hj]
 simp only[Nat.zero_add]
 cases f:l[i]? with
 | none=>
  have:=List.getElem?_eq_none_iff.1 f
  simp only[Option.map_none]
  exact List.getElem?_eq_none (by omega)
 | some v=>
  have m:i<l.length:=(List.getElem?_eq_some_iff.1 f).1
  have j:l'[i]? =some (get l' i):=by
   simp only[get,List.getD_eq_getElem?_getD]
   rw[List.getElem?_eq_getElem (by omega)];rfl
  rw[j]
  simp only[Option.map_some,Option.some.injEq]
  by_cases k:a.contains i=true
  ·rw[Q4l l' i _ undef a k]
  ·have b:a.contains i=false:=by simpa using k
   rw[Jp _ _ _ _ b]
   by_cases d:c.contains i=true
   ·rw[if_pos d]
   ·have e:c.contains i=false:=by simpa using d
    rw[if_neg d]
    have:=h i b e
    rw[j,f] at this
    exact Option.some.inj this
theorem Q2o {v:Value} {t e a b:Prop} (c:t→a) (d:e→b) (h:X1 v t e):X1 v a b:=by
 rw[Q3J] at*
 unfold Q1c at*
 split at h
 ·exact c h
 ·exact d h
 ·exact h.elim
theorem Yp (P:Program) (c:List Oper) (next b:List Value→World→Prop) (W:List Nat) (j:List Value): ∀(ops:List Oper) (l:List Value) (w:World),
 (∀o∈ops,∀d,o.dst=some d→W.contains d=true)→I4 W j l→(∀l w,next l w→I4 W j l→b l w)→Y5 P c next ops l w→Y5 P c b ops l w
 | [],l,w,_,k,n,h=>n l w h k
 | o::f,l,w,q,k,n,h=>by
  have g: ∀v,I4 W j (put l o.dst v):=by
   intro v
   cases y:o.dst with
   | none=>exact k
   | some d=>
    have u:=q o (by simp) d y
    refine k.trans ⟨by simp[put],fun i r=>?_⟩
    have:d≠i:=by intro e;subst e;rw[u] at r;cases r
    simp[put,this]
  have a: ∀v w,Y5 P c next f (put l o.dst v) w→Y5 P c b f (put l o.dst v) w:=fun v w t=>
   Yp P c next b W j f _ w (fun o s=>q o (by simp[s])) (g v) n t
  simp only[Y5] at h⊢
  split at h
  ·exact C1 a h
  ·split at h
   ·refine Tp ((Vd h).imp (fun ⟨m,p⟩=>⟨m,C1 a p⟩) (fun ⟨m,p⟩=>⟨m,a _ _ p⟩))
   ·exact a _ _ h
theorem Q2R {α:Type} {x0:α} {c b:(α→World→Prop)→α→(Nat→Value)→World→Prop} {w:World}
 (f: ∀a x d w,c a x d w→b a x d w) (h:lp x0 w c):lp x0 w b:=by
 obtain ⟨I,μ,e,g⟩:=Q7O h
 exact Uc I μ e fun x d w i=>f _ _ _ _ (g x d w i)
theorem B9 {a b:List Nat} {i:Nat} (h:a.contains i=true):(a++b).contains i=true:=by simp at h⊢;exact .inl h
theorem N6 {a b:List Nat} {i:Nat} (h:b.contains i=true):(a++b).contains i=true:=by simp at h⊢;exact .inr h
theorem Q2C (P:Program) (q:List (Option (List Nat))) (c:Code): ∀(k:Nat) (Q A:Od) (W:List Nat) (m l:List Value) (w:World),
 (∀i,(W6 q k c).contains i=true→W.contains i=true)→I4 W m l→
 (∀e l w,Q e l w→I4 W m l→A e l w)→Lx P q k c Q l w→Lx P q k c A l w:=by
 induction c with
 | skip=>intro k Q A W m l w _ g j h;exact j _ _ _ h g
 | label n=>intro k Q A W m l w _ g j h;exact j _ _ _ h g
 | exit id=>intro k Q A W m l w _ g j h;exact j _ _ _ h g
 | ret=>intro k Q A W m l w _ g j h;exact j _ _ _ h g
 | goto n=>intro k Q A W m l w _ g j h;exact h.elim
 | refuse s=>intro k Q A W m l w _ g j h;exact h.elim
 | scope c=>intro k Q A W m l w _ g j h;exact h.elim
 | rangeFunc f p a b=>intro k Q A W m l w _ g j h;exact h.elim
 | region id ops L=>
  intro k Q A W m l w B g j h
  have O: ∀o∈ops.toList,∀d,o.dst=some d→W.contains d=true:=by
   intro o R d hd
   refine B d ?_
   simp only[W6,O5,List.contains_eq_mem,List.mem_filterMap,decide_eq_true_eq]
   exact ⟨o,R,hd⟩
  cases L with
  | false=>exact Yp P _ _ _ W m _ _ _ O g (fun l w Z g=>j _ _ _ Z g) h
  | true=>
   intro t
   refine Yp P _ _ _ W m _ _ _ ?_ g (fun l w Z g=>j _ _ _ Z g) (h t)
   intro o R
   simp only[List.mem_filterMap] at R
   obtain ⟨i,_,r⟩:=R
   exact O o (by simpa using Array.mem_of_getElem? r)
 | seq x y D E=>
  intro k Q A W m l w B g j h
  have hx: ∀i,(W6 q (k+1) x).contains i=true→W.contains i=true:=fun i r=>B i (N6 (B9 r))
  have hy: ∀i,(W6 q (k+1+K2 x) y).contains i=true→W.contains i=true:=fun i r=>B i (N6 (N6 r))
  simp only[Lx] at h⊢
  split at h
  ·refine D _ _ _ W m l w hx g ?_ h
   intro e l' w' C u
   cases e with
   | normal=>exact E _ _ _ W m l' w' hy u j C
   | _=>exact j _ _ _ C u
  ·rename_i sl Y
   obtain ⟨J,N,M⟩:=Q4z h
   refine Wt J (D _ _ _ W m l w hx g ?_ N) fun z d w hz=>?_
   ·intro e l' w' C u
    cases e with
    | normal=>exact C
    | _=>exact j _ _ _ C u
   ·refine E _ _ _ W m _ w hy (g.trans ⟨Ew _ _ _ _ _ _,fun i r=>?_⟩) j (M z d w hz)
    rw[Hj]
    have N:sl.contains i=false:=by
     cases H:sl.contains i with
     | false=>rfl
     | true=>rw[B i (B9 (by rw[Y];exact H))] at r;cases r
    have M:(W6 q (k+1) x).contains i=false:=by
     cases H:(W6 q (k+1) x).contains i with
     | false=>rfl
     | true=>rw[hx i H] at r;cases r
    simp only[Nat.zero_add]
    cases hl:l[i]? with
    | none=>rfl
    | some v=>simp only[Option.map_some,Jp _ _ _ _ N,M,Bool.false_eq_true,if_false]
 | cond c x y D E=>
  intro k Q A W m l w B g j h
  exact Q2o (D k _ _ W m l w (fun i r=>B i (B9 r)) g j) (E _ _ _ W m l w (fun i r=>B i (N6 r)) g j) h
 | block id c V=>
  intro k Q A W m l w B g j h
  refine V k _ _ W m l w B g ?_ h
  intro e l' w' C u
  cases e with
  | exit ah=>simp only[Q12] at C⊢;split<;>rename_i U<;>simp only[U,if_true,if_false] at C<;>exact j _ _ _ C u
  | _=>exact j _ _ _ C u
 | loop c V=>
  intro k Q A W m l w B g j h
  refine Q2R (fun X x d w hb=>?_) h
  refine V _ _ _ W m _ _ (fun i r=>B i (N6 r)) ?_ ?_ hb
  ·refine g.trans ⟨Ew _ _ _ _ _ _,fun i r=>?_⟩
   rw[Hj]
   have N:((q.getD k none).getD []).contains i=false:=by
    cases H:((q.getD k none).getD []).contains i with
    | false=>rfl
    | true=>rw[B i (B9 H)] at r;cases r
   have M:(W6 q (k+1) c).contains i=false:=by
    cases H:(W6 q (k+1) c).contains i with
    | false=>rfl
    | true=>rw[B i (N6 H)] at r;cases r
   simp only[Nat.zero_add]
   cases hl:l[i]? with
   | none=>rfl
   | some v=>simp only[Option.map_some,Jp _ _ _ _ N,M,Bool.false_eq_true,if_false]
  ·intro e l' w' C u
   cases e with
   | normal=>exact C
   | _=>exact j _ _ _ C u
theorem Q77 (P:Program) (g:List (Option (List Nat))) (c:Code): ∀(k:Nat) (Q:Od) (a:Act) (w:World),
 a.defers=[]→Lx P g k c Q a.tmps.toList w→c.wp P (lift Q) a w:=by
 induction c with
 | skip=>intro k Q a w j h;exact wp_skip ⟨j,h⟩
 | label n=>intro k Q a w j h;exact wp_label ⟨j,h⟩
 | exit id=>intro k Q a w j h;exact wp_exit ⟨j,h⟩
 | ret=>intro k Q a w j h;exact wp_ret ⟨j,h⟩
 | goto n=>intro k Q a w j h;exact h.elim
 | refuse s=>intro k Q a w j h;exact h.elim
 | scope c=>intro k Q a w j h;exact h.elim
 | rangeFunc f p a b=>intro k Q a w j h;exact h.elim
 | region id ops z=>
  intro k Q a w j h
  cases z with
  | false=>
   refine wp_region (Kl P ops _ _ (fun a w j h=>⟨j,h⟩) _ (by simp) a w j ?_)
   rw[Kh];exact h
  | true=>
   refine wp_region_draw fun t=>?_
   exact Kl P ops _ _ (fun a w j h=>⟨j,h⟩) _ (Q0u _ _ _) a _ j (h t)
 | seq x y r u=>
  intro k Q a w j h
  simp only[Lx] at h
  split at h
  ·refine wp_seq (wp_mono (r _ _ a w j h) ?_)
   intro e o w' ⟨m,q⟩
   cases e with
   | normal=>exact u _ _ o w' m q
   | _=>exact ⟨m,q⟩
  ·rename_i Y ad
   obtain ⟨J,N,E⟩:=Q4z h
   have H:=Q2C P g x (k+1) _ (fun e l' w'=>thn (fun l' w'=>J (Lv l' Y) w') Q e l' w'∧I4 (W6 g (k+1) x) a.tmps.toList l') (W6 g (k+1) x) a.tmps.toList a.tmps.toList w (fun _ h=>h) (I4.refl _ _) (fun e l w h W=>⟨h,W⟩) N
   refine wp_seq (wp_mono (r (k+1) _ a w j H) ?_)
   intro e o w' ⟨m,q,C⟩
   cases e with
   | normal=>
    refine u (k+1+K2 x) _ o w' m ?_
    rw[Ff Y (W6 g (k+1) x) a.tmps.toList o.tmps.toList C.1 (fun i _ h=>C.2 i h)]
    exact E _ _ _ q
   | _=>exact ⟨m,q⟩
 | cond c x y r u=>
  intro k Q a w j h
  simp only[Lx,Q3J,Q1c] at h
  split at h
  ·rename_i O
   exact wp_cond_true (by rw[Q1O];exact O) (r _ _ _ _ j h)
  ·rename_i O
   exact wp_cond_false (by rw[Q1O];exact O) (u _ _ _ _ j h)
  ·exact h.elim
 | block id c U=>
  intro k Q a w j h
  refine wp_block (wp_mono (U k _ a w j h) ?_)
  intro e o w' ⟨m,q⟩
  cases e with
  | exit ac=>
   simp only[Q12,Exit.inBlock] at q⊢
   split<;>rename_i L<;>simp only[L,if_true,if_false] at q<;>exact ⟨m,q⟩
  | _=>exact ⟨m,q⟩
 | loop c U=>
  intro k Q a w j h
  obtain ⟨I,μ,h0,hr⟩:=Q7O h
  refine wp_loop (fun o w'=>o.defers=[]∧(∃d,o.tmps.toList=M5 ((g.getD k none).getD []) (W6 g (k+1) c) (Lv o.tmps.toList ((g.getD k none).getD [])) d 0 a.tmps.toList)∧I (Lv o.tmps.toList ((g.getD k none).getD [])) w') (fun o w'=>μ (Lv o.tmps.toList ((g.getD k none).getD [])) w') ⟨j,⟨get a.tmps.toList,Ff _ _ _ _ rfl (fun _ _ _=>rfl)⟩,h0⟩ ?_
  intro A w1 ⟨X,⟨Z,v⟩,R⟩
  have M:=hr _ Z w1 R
  dsimp only at M
  rw[←v] at M
  have V:=Q2C P g c (k+1) _ (fun e l' w'=>thn (fun l' w'=>I (Lv l' ((g.getD k none).getD [])) w'∧μ (Lv l' ((g.getD k none).getD [])) w'<μ (Lv A.tmps.toList ((g.getD k none).getD [])) w1) Q e l' w'∧I4 (W6 g (k+1) c) A.tmps.toList l') (W6 g (k+1) c) A.tmps.toList A.tmps.toList w1 (fun _ h=>h) (I4.refl _ _) (fun e l w h W=>⟨h,W⟩) M
  refine wp_mono (U _ _ A w1 X V) ?_
  intro e a2 w2 ⟨B,E,D⟩
  cases e with
  | normal=>
   refine ⟨⟨B,⟨get a2.tmps.toList,Ff _ _ _ _ ?_ ?_⟩,E.1⟩,E.2⟩
   ·rw[D.1,v,Ew]
   ·intro i N H
    rw[D.2 i H,v,Hj]
    simp only[Nat.zero_add,Jp _ _ _ _ N,H,Bool.false_eq_true,if_false,Option.map_id']
  | _=>exact ⟨B,E⟩
def Q64:List Value→Nat→Value→(List Value→Prop)→Prop
 | [],_,_,k=>k []
 | _::l,0,v,k=>k (v::l)
 | x::l,n+1,v,k=>Q64 l n v (fun l'=>k (x::l'))
def Q28 (l:List Value) (d:Option Tmp) (v:Value) (k:List Value→Prop):Prop:=
 match d with
 | some d=>Q64 l d v k
 | none=>k l
def Q6s:List Value→Nat→(Value→Prop)→Prop
 | [],_,k=>k undef
 | x::_,0,k=>k x
 | _::l,n+1,k=>Q6s l n k
def evK (l:List Value) (o:Operand) (k:Value→Prop):Prop:=
 match o with
 | .tmp t=>Q6s l t k
 | .const v=>k v
 | .global g=>k (.pointer (some ⟨g,0,none⟩))
 | .func f=>k (.func (.func f) #[] #[])
def Q11 (i:Nat) (e:Value):(a:List Nat)→Gk a.length→(Value→Prop)→Prop
 | [],_,k=>k e
 | [s],x,k=>if s=i then k x else k e
 | s::t::r,x,k=>if s=i then k x.1 else Q11 i e (t::r) x.2 k
def Si (a b:List Nat) (x:Gk a.length) (d:Nat→Value):Nat→List Value→(List Value→Prop)→Prop
 | _,[],k=>k []
 | i,v::l,k=>match b.contains i with
  | true=>Q11 i (d i) a x (fun u=>Si a b x d (i+1) l (fun l'=>k (u::l')))
  | false=>Q11 i v a x (fun u=>Si a b x d (i+1) l (fun l'=>k (u::l')))
theorem X0p (l:List Value): ∀(n:Nat) (v:Value) (k:List Value→Prop),Q64 l n v k=k (l.set n v):=by
 induction l with
 | nil=>intro n v k;rfl
 | cons x l a=>intro n v k;cases n with
  | zero=>rfl
  | succ n=>simp only[Q64,a,List.set_cons_succ]
theorem Q5G (l:List Value) (d:Option Tmp) (v:Value) (k:List Value→Prop):Q28 l d v k=k (put l d v):=by
 cases d with
 | none=>rfl
 | some d=>exact X0p l d v k
theorem X07 (l:List Value): ∀(n:Nat) (k:Value→Prop),Q6s l n k=k (get l n):=by
 induction l with
 | nil=>intro n k;rfl
 | cons x l a=>intro n k;cases n with
  | zero=>rfl
  | succ n=>simp only[Q6s,a];rfl
theorem X0u (l:List Value) (o:Operand) (k:Value→Prop):evK l o k=k (ev l o):=by
 cases o with
 | tmp t=>exact X07 l t k
 | _=>rfl
theorem Tt (i:Nat) (e:Value) (k:Value→Prop): ∀(a:List Nat) (x:Gk a.length),Q11 i e a x k=k (Ot i e a x)
 | [],_=>rfl
 | [s],x=>by
  by_cases h:s=i
  ·exact (if_pos h).trans (congrArg k (if_pos h).symm)
  ·exact (if_neg h).trans (congrArg k (if_neg h).symm)
 | s::t::r,x=>by
  by_cases h:s=i
  ·exact (if_pos h).trans (congrArg k (if_pos h).symm)
  ·exact ((if_neg h).trans (Tt i e k (t::r) x.2)).trans (congrArg k (if_neg h).symm)
theorem Q2k (a c:List Nat) (x:Gk a.length) (d:Nat→Value) (l:List Value): ∀(i:Nat) (k:List Value→Prop),Si a c x d i l k=k (M5 a c x d i l):=by
 induction l with
 | nil=>intro i k;rfl
 | cons v l b=>
  intro i k
  simp only[Si,M5]
  split
  ·rename_i h;rw[Tt,b,if_pos h]
  ·rename_i h;rw[Tt,b,if_neg (by rw[h];simp)]
theorem Hv (b c a:List Nat) (h: ∀i,c.contains i=a.contains i) (x:Gk b.length) (d:Nat→Value) (l:List Value): ∀i,M5 b c x d i l=M5 b a x d i l:=by
 induction l with
 | nil=>intro i;rfl
 | cons v l e=>intro i;simp only[M5,e,h]
noncomputable def G6 (P:Program) (ops:List Oper) (next:List Value→World→Prop):List Oper→List Value→World→Prop
 | [],l,w=>next l w
 | o::a,l,w=>
  match o.guard with
  | none=>match o.op with
   | .move x=>evK l x fun v=>Q28 l o.dst v fun l=>G6 P ops next a l w
   | .assign x=>evK l x fun v=>Q28 l o.dst v fun l=>G6 P ops next a l w
   | _=>V5 P l o w (fun v w=>Q28 l o.dst v fun l=>G6 P ops next a l w)
  | some (j,b)=>match (ops[j]?).bind (·.dst) with
   | some d=>Q0 (get l d) b w (V5 P l o) (fun v w=>Q28 l o.dst v fun l=>G6 P ops next a l w)
   | none=>Q28 l o.dst undef fun l=>G6 P ops next a l w
theorem Cm (P:Program) (ops:List Oper) (next:List Value→World→Prop) (os:List Oper): ∀(l:List Value) (w:World),G6 P ops next os l w=Y5 P ops next os l w:=by
 induction os with
 | nil=>intro l w;rfl
 | cons o c a=>
  intro l w
  obtain ⟨dst,p,d,pos,e,g⟩:=o
  cases g with
  | none=>cases p<;>simp only[G6,Y5,Q5G,X0u,a,V5]
  | some q=>obtain ⟨j,b⟩:=q;simp only[G6,Y5,Q5G,a]
def Dz (T:World→World→Prop) (φ:Value→World→Prop):Prop:= ∀v w w',φ v w→T w w'→φ v w'
def dk (T:World→World→Prop) (φ:Value→World→Prop) (w:World):Value→World→Prop:=fun v w'=>T w w'∧φ v w'
def Q3S (T:World→World→Prop) (A:(Value→World→Prop)→Prop) (a:(Value→World→Prop)→Prop):Prop:=
 ∃φ,Dz T φ∧A φ∧a φ
theorem Q83: ∃f:(World→World→Prop)→((Value→World→Prop)→Prop)→((Value→World→Prop)→Prop)→Prop,f=Q3S:=⟨_,rfl⟩
noncomputable def Q6:(World→World→Prop)→((Value→World→Prop)→Prop)→((Value→World→Prop)→Prop)→Prop:=Classical.choose Q83
theorem Q73:Q6=Q3S:=Classical.choose_spec Q83
def Q6g (w:World) (A:(World→World→Prop)→(World→Prop)→Prop):Prop:= ∃T B,B w.drew∧(∀w w',B w→T w w'→B w')∧A T B
theorem Q9z: ∃f:World→((World→World→Prop)→(World→Prop)→Prop)→Prop,f=Q6g:=⟨_,rfl⟩
noncomputable def dr:World→((World→World→Prop)→(World→Prop)→Prop)→Prop:=Classical.choose Q9z
theorem Q9b:dr=Q6g:=Classical.choose_spec Q9z
theorem Q1o {w:World} {A:(World→World→Prop)→(World→Prop)→Prop} (T:World→World→Prop) (B:World→Prop) (h:B w.drew) (b: ∀w w',B w→T w w'→B w') (a:A T B):dr w A:=by
 rw[Q9b];exact ⟨T,B,h,b,a⟩
theorem N1 {T:World→World→Prop} {A a:(Value→World→Prop)→Prop} (φ:Value→World→Prop) (c:Dz T φ) (h:A φ) (b:a φ):Q6 T A a:=by
 rw[Q73];exact ⟨φ,c,h,b⟩
def Q2b (T:World→World→Prop) (A a:(List Value→Value→World→Prop)→Prop):Prop:=
 ∃φ,(∀xs,Dz T (φ xs))∧A φ∧a φ
theorem Q5t: ∃f:(World→World→Prop)→((List Value→Value→World→Prop)→Prop)→((List Value→Value→World→Prop)→Prop)→Prop,f=Q2b:=⟨_,rfl⟩
noncomputable def Q4b:(World→World→Prop)→((List Value→Value→World→Prop)→Prop)→((List Value→Value→World→Prop)→Prop)→Prop:=Classical.choose Q5t
theorem Q5r:Q4b=Q2b:=Classical.choose_spec Q5t
theorem X09 {T:World→World→Prop} {A a:(List Value→Value→World→Prop)→Prop} (φ:List Value→Value→World→Prop) (c: ∀xs,Dz T (φ xs)) (h:A φ) (b:a φ):Q4b T A a:=by
 rw[Q5r];exact ⟨φ,c,h,b⟩
noncomputable def runOp (P:Program) (ops:List Oper) (l:List Value) (o:Oper) (w:World) (K:Value→World→Prop):Prop:=
 match o.guard with
 | none=>V5 P l o w K
 | some (j,b)=>match (ops[j]?).bind (·.dst) with
  | some d=>Q0 (get l d) b w (V5 P l o) K
  | none=>False
inductive Ent where
  | val (v : Value)
  | ref (j : Nat)
def Ent.at (u:Nat→Value):Ent→Value
 | .val v=>v
 | .ref j=>u j
def G5 (u:Nat→Value) (S:List Ent):List Value:=S.map (Ent.at u)
def getE:List Ent→Nat→Ent
 | [],_=> .val undef
 | x::_,0=>x
 | _::l,n+1=>getE l n
def entOf (S:List Ent):Operand→Ent
 | .tmp t=>getE S t
 | .const v=> .val v
 | .global g=> .val (.pointer (some ⟨g,0,none⟩))
 | .func f=> .val (.func (.func f) #[] #[])
def mv (o:Oper):Option Operand:=
 match o.guard with
 | some _=>none
 | none=>match o.op with
  | .move x=>some x
  | .assign x=>some x
  | _=>none
def Q0C:List Ent→Nat→Ent→List Ent
 | [],_,_=>[]
 | _::l,0,e=>e::l
 | x::l,n+1,e=>x::Q0C l n e
def putE (S:List Ent) (d:Option Nat) (e:Ent):List Ent:=
 match d with
 | some d=>Q0C S d e
 | none=>S
def H1 (o:Oper):List Nat:=o.op.operands.toList.filterMap fun | .tmp t=>some t | _=>none
def N2 (ops:List Oper) (o:Oper):List Nat:=
 match o.guard with
 | none=>[]
 | some (j,_)=>match (ops[j]?).bind (·.dst) with | some d=>[d] | none=>[]
def Ag:List Nat→List Nat
 | []=>[]
 | x::l=>x::(Ag l).filter (fun y=> !(y==x))
def Q3d:Ent→List Nat
 | .ref j=>[j]
 | .val _=>[]
def Ad (S:List Ent):List Nat→List Nat
 | []=>[]
 | s::l=>Q3d (getE S s)++Ad S l
def refs (ops:List Oper) (S:List Ent) (o:Oper):List Nat:=Ag (Ad S (N2 ops o++H1 o))
def Ct:List Nat→(Nat→Value)→((Nat→Value)→Prop)→Prop
 | [],u,k=>k u
 | j::a,u,k=> ∀t:Value,Ct a (fun n=>if n=j then t else u n) k
abbrev Dj:=List (Nat×List Nat×(List Value→Value→World→Prop))
def Zw:Dj→Nat→Option (List Nat×(List Value→Value→World→Prop))
 | [],_=>none
 | (i,φ)::l,j=>if i=j then some φ else Zw l j
def Ck (b:Dj) (u:Nat→Value) (w:World) (a:Prop):List Nat→Prop
 | []=>a
 | j::c=>match Zw b j with
  | some ([],φ)=>φ [] (u j) w→Ck b u w a c
  | _=>Ck b u w a c
def Tz (b:Dj) (u:Nat→Value) (w:World) (a:Prop):List Nat→Prop
 | []=>a
 | j::c=>match Zw b j with
  | some (R,φ)=>φ (R.map u) (u j) w→Tz b u w a c
  | none=>Tz b u w a c
def Q6v (o:Oper):Bool:=match o.op with | .store .. =>true | _=>false
noncomputable def chain (P:Program) (ops:List Oper) (T:World→World→Prop) (B:World→Prop) (V0:List Value→World→Prop) (tail:List Oper):Nat→List Oper→List Ent→Dj→List Nat→Prop
 | _,[],S,b,done=>Ct done (fun _=>undef) fun u=> ∀w,B w→Tz b u w (G6 P ops V0 tail (G5 u S) w) done
 | i,o::a,S,b,done=>
  match mv o with
  | some x=>chain P ops T B V0 tail (i+1) a (putE S o.dst (entOf S x)) b done
  | none=>match Q6v o with
   | true=>Q4b T (fun φ=>Ct (refs ops S o) (fun _=>undef) fun u=> ∀w,B w→Ck b u w (runOp P ops (G5 u S) o w (dk T (φ ((refs ops S o).map u)) w)) (refs ops S o))
    (fun φ=>chain P ops T B V0 tail (i+1) a (putE S o.dst (.ref i)) (b++[(i,refs ops S o,φ)]) (done++[i]))
   | false=>Q6 T (fun φ=>Ct (refs ops S o) (fun _=>undef) fun u=> ∀w,B w→Ck b u w (runOp P ops (G5 u S) o w (dk T φ w)) (refs ops S o))
    (fun φ=>chain P ops T B V0 tail (i+1) a (putE S o.dst (.ref i)) (b++[(i,[],fun _=>φ)]) (done++[i]))
def A9:Op→Bool
 | .ready _ | .waits _ | .sliceToArrayPointer .. | .makeChan .. | .typeAssert .. | .go _ | .defer _ | .send .. | .recv .. | .select .. =>false
 | .call c=>match c.callee with | .invoke .. =>false | _=>true
 | _=>true
theorem Hl {l l':List Value} {x:Option Operand} (h: ∀y∈x.toArray,ev l y=ev l' y):evo l x=evo l' x:=by
 cases x with
 | none=>rfl
 | some y=>simp only[evo];rw[h y (by simp)]
theorem Pd {l l':List Value} {xs:Array Operand} (h: ∀y∈xs,ev l y=ev l' y):Pq l xs=Pq l' xs:=by
 unfold Pq;exact List.map_congr_left fun y a=>h y (by simpa using a)
theorem Q2A {l l':List Value} {xs:Array (Nat×Operand)} (h: ∀y∈(xs.toList.map (·.2)).toArray,ev l y=ev l' y):evp l xs=evp l' xs:=by
 unfold evp
 refine List.map_congr_left fun y a=>?_
 rw[h y.2 (by simp;exact ⟨y.1,by simpa using a⟩)]
theorem My {P:Program} {l l':List Value} {o:Oper} (k:A9 o.op=true) (h: ∀x∈o.op.operands,ev l x=ev l' x):V5 P l o=V5 P l' o:=by
 obtain ⟨d,p,C,pos,D,g⟩:=o
 funext w K
 cases p with
 | call c=>
  obtain ⟨j,i,B⟩:=c
  have q:Pq l i=Pq l' i:=Pd fun y e=>h y (by simp[Op.operands,Call.operands];exact .inr e)
  cases j with
  | invoke r m=>simp[A9] at k
  | builtin b=>simp only[V5,Ms,q]
  | value f=>
   have A:ev l f=ev l' f:=h f (by simp[Op.operands,Call.operands])
   cases f<;>simp only[V5,Ms,q,A]
 | build t z=>simp only[V5];rw[Q2A h]
 | buildSlice t n z=>simp only[V5];rw[Q2A h]
 | makeFunc f a b=>
  simp only[V5]
  rw[Pd (xs:=a) fun y e=>h y (by simp[Op.operands];exact .inl e),Pd (xs:=b) fun y e=>h y (by simp[Op.operands];exact .inr e)]
 | makeMap t r=>simp only[V5];rw[Hl h]
 | slice t x s v u=>
  simp only[V5]
  rw[h x (by simp[Op.operands]),Hl (x:=s) fun y e=>h y (by simp[Op.operands] at e⊢;simp[e]),Hl (x:=v) fun y e=>h y (by simp[Op.operands] at e⊢;simp[e]),Hl (x:=u) fun y e=>h y (by simp[Op.operands] at e⊢;simp[e])]
 | _=>first
  | (simp[A9] at k;done)
  | (simp only[Op.operands,List.mem_toArray,List.mem_cons,List.not_mem_nil,or_false,forall_eq_or_imp,forall_eq] at h;simp only[V5,h];done)
  | rfl
def Tq:List Oper→List Nat→List Nat
 | [],acc=>acc
 | o::a,acc=>Tq a (acc++[(o.after.toList.filter (Region.binds .any)).foldl (fun s e=>s ||| 2 ^ e.on ||| acc.getD e.on 0) 0])
def I3 (a b:Oper):Bool:=
 match a.dst with
 | some d=>(H1 b).contains d||b.dst==some d
 | none=>false
def Q5l (a:List Nat) (ops:List Oper):Bool:=
 ops.zipIdx.all fun (o,j)=>ops.zipIdx.all fun (q,i)=> !(decide (i<j))|| !(I3 q o||I3 o q)||(a.getD j 0).testBit i
def Uw (ops:List Oper):Bool:=
 ops.zipIdx.all fun (o,i)=>A9 o.op&&(o.after.toList.filter (Region.binds .any)).all (fun e=>decide (e.on<i))&&
  match o.guard with | none=>true | some (j,_)=>(o.after.toList.filter (Region.binds .any)).any (fun e=>e.on==j)
def Q3c (m:Region.Mode) (ops:List Oper):List Nat→List Nat→Bool
 | [],_=>true
 | j::L,seen=>((ops[j]?.map fun o=>o.after.toList).getD []).all (fun e=> !Region.binds m e||seen.contains e.on)&&Q3c m ops L (j::seen)
def Xj (m:Region.Mode) (ops:List Oper) (L:List Nat):Bool:=
 Q3c m ops L []&&(List.range ops.length).all (L.contains ·)&&ops.all (fun o=>o.after.toList.all fun e=> !Region.binds m e||decide (e.on<ops.length))
def X0M (m:Region.Mode) (ops:List Oper):Nat→List Nat→List Nat→List Nat
 | 0,_,seen=>seen.reverse
 | n+1,a,seen=>
  match a.find? (fun j=>((ops[j]?.map fun o=>o.after.toList).getD []).all (fun e=> !Region.binds m e||seen.contains e.on)) with
  | some j=>X0M m ops n (a.erase j) (j::seen)
  | none=>seen.reverse
def Yu:List Nat→Bool
 | []=>true
 | x::l=> !l.contains x&&Yu l
def G0 (ops:List Oper) (j:Nat):List Nat:=(ops[j]?.map fun o=>(o.after.toList.filter (Region.binds .any)).map (·.on)).getD []
def Dp (ops:List Oper) (L:List Nat):Prop:= ∀b j a,L=b++j::a→ ∀i∈G0 ops j,i∈b
theorem Q4m (f:Edge→Nat) (l:List Edge): ∀(s i:Nat),(l.foldl (fun s e=>s ||| 2 ^ e.on ||| f e) s).testBit i=true→
 s.testBit i=true∨ ∃e∈l,e.on=i∨(f e).testBit i=true:=by
 induction l with
 | nil=>intro s i h;exact .inl h
 | cons e l b=>
  intro s i h
  rcases b _ _ h with h | ⟨c,a,h⟩
  ·simp only[Nat.testBit_or,Bool.or_eq_true] at h
   rcases h with (h | h) | h
   ·exact .inl h
   ·rw[Nat.testBit_two_pow] at h
    exact .inr ⟨e,by simp, .inl (by simpa using h)⟩
   ·exact .inr ⟨e,by simp, .inr h⟩
  ·exact .inr ⟨c,by simp[a],h⟩
theorem Q2S (a:List Oper): ∀(b:List Oper) (acc:List Nat),acc.length+b.length=a.length→(∀k,acc.length≤k→a[k]? =b[k-acc.length]?)→
 (∀j i,j<acc.length→(acc.getD j 0).testBit i=true→ ∃k∈G0 a j,k=i∨(k<j∧(acc.getD k 0).testBit i=true))→
 (∀j,j<a.length→ ∀k∈G0 a j,k<j)→
 ∀j i,j<a.length→((Tq b acc).getD j 0).testBit i=true→ ∃k∈G0 a j,k=i∨(k<j∧((Tq b acc).getD k 0).testBit i=true)
 | [],acc,q,_,c,_=>by
  intro j i t h
  exact c j i (by simp at q;omega) h
 | o::b,acc,q,g,c,p=>by
  have w:a[acc.length]? =some o:=by rw[g _ (Nat.le_refl _)];simp
  refine Q2S a b _ (by simp at q⊢;omega) ?_ ?_ p
  ·intro k f
   simp only[List.length_append,List.length_cons,List.length_nil] at f⊢
   rw[g k (by omega)]
   obtain ⟨m,v⟩: ∃m,k-acc.length=m+1:=⟨k-acc.length-1,by omega⟩
   rw[v,List.getElem?_cons_succ]
   congr 1;omega
  ·intro j i t h
   simp only[List.length_append,List.length_cons,List.length_nil] at t
   have d: ∀k,k<acc.length→(acc++[(o.after.toList.filter (Region.binds .any)).foldl (fun s e=>s ||| 2 ^ e.on ||| acc.getD e.on 0) 0]).getD k 0=acc.getD k 0:=by
    intro k f
    simp only[List.getD_eq_getElem?_getD]
    rw[List.getElem?_append_left f]
   by_cases n:j<acc.length
   ·rw[d j n] at h
    obtain ⟨k,f,h⟩:=c j i n h
    exact ⟨k,f,h.imp id fun ⟨y,z⟩=>⟨y,by rw[d k (by omega)];exact z⟩⟩
   ·have r:j=acc.length:=by omega
    subst r
    simp only[List.getD_eq_getElem?_getD,List.getElem?_append_right (Nat.le_refl _),Nat.sub_self,List.getElem?_cons_zero,Option.getD_some] at h
    rcases Q4m (fun e=>acc.getD e.on 0) _ _ _ (by simpa only[List.getD_eq_getElem?_getD] using h) with h | ⟨e,u,h⟩
    ·simp at h
    ·have l:e.on∈G0 a acc.length:=by
      unfold G0;rw[w];simp only[Option.map_some,Option.getD_some,List.mem_map];exact ⟨e,u,rfl⟩
     refine ⟨e.on,l,h.imp id fun h=>?_⟩
     have f:=p acc.length (by simp at q;omega) _ l
     exact ⟨f,by rw[d _ f];exact h⟩
theorem Cl {ops:List Oper} (h:Uw ops=true): ∀j,j<ops.length→ ∀k∈G0 ops j,k<j:=by
 intro j b k a
 simp only[Uw,List.all_eq_true,Bool.and_eq_true] at h
 unfold G0 at a
 rw[List.getElem?_eq_getElem b] at a
 simp only[Option.map_some,Option.getD_some,List.mem_map] at a
 obtain ⟨e,c,rfl⟩:=a
 have:=(h (ops[j],j) (by rw[List.mem_zipIdx_iff_getElem?];simp[b])).1.2 e c
 simpa using this
theorem Q3j {ops:List Oper} (g:Uw ops=true) {L:List Nat} (q:Dp ops L): ∀(j:Nat),j<ops.length→ ∀i b a,L=b++j::a→((Tq ops []).getD j 0).testBit i=true→i∈b:=by
 intro j
 induction j using Nat.strongRecOn with
 | _ j o=>
  intro d i b a f n
  obtain ⟨k,l,h⟩:=Q2S ops ops [] (by simp) (by simp) (by intro j i d;simp at d) (Cl g) j i d n
  have c:=q b j a f k l
  rcases h with rfl | ⟨e,h⟩
  ·exact c
  ·obtain ⟨m,p,rfl⟩:=List.append_of_mem c
   have:=o k e (by omega) i m (p++j::a) (by rw[f];simp) h
   exact List.mem_append_left _ this
theorem Uh: ∀(n:Nat) (a:List Nat),(∀k,k<n→k∈a)→n≤a.length
 | 0,_,_=>Nat.zero_le _
 | n+1,a,h=>by
  have d:=Uh n (a.erase n) fun k b=>(List.mem_erase_of_ne (by omega)).2 (h k (by omega))
  have e:=List.length_erase_of_mem (h n (by omega))
  have c:=List.length_pos_of_mem (h n (by omega))
  omega
theorem H8: ∀(n:Nat) (l:List Nat),l.Nodup→(∀k∈l,k<n)→l.length≤n
 | 0,l,_,h=>by
  cases l with
  | nil=>simp
  | cons x l=>exact absurd (h x (by simp)) (by omega)
 | n+1,l,b,h=>by
  by_cases c:n∈l
  ·have g:=H8 n (l.erase n) (b.erase n) fun k a=>by
    have f:=h k (List.mem_of_mem_erase a)
    have d:k≠n:=fun e=>by subst e;exact (List.Nodup.not_mem_erase b) a
    omega
   have f:=List.length_erase_of_mem c
   have d:=List.length_pos_of_mem c
   omega
  ·have:=H8 n l b fun k a=>by
    have f:=h k a
    have d:k≠n:=fun e=>by subst e;exact c a
    omega
   omega
theorem Q89 {m:Region.Mode} {e:Edge} (h:Region.binds .any e=true):Region.binds m e=true:=by
 unfold Region.binds at h⊢
 cases a:e.ground<;>rw[a] at h<;>first | rfl | (exact absurd h (by simp<;>rfl)) | (simp at h;cases h)
theorem Q5X {m:Region.Mode} {ops:List Oper} {L:List Nat} (h:Xj m ops L=true) (k:Nat) (b:k<ops.length): ∀e∈(ops[k]?.map fun o=>o.after.toList).getD [],Region.binds m e=true→e.on<ops.length:=by
 intro e a c
 simp only[Xj,Bool.and_eq_true,List.all_eq_true] at h
 rw[List.getElem?_eq_getElem b] at a
 have:=h.2 ops[k] (List.getElem_mem b) e (by simpa using a)
 rw[c] at this
 simpa using this
theorem Q4a {m:Region.Mode} {ops:List Oper} {L:List Nat} (h:Xj m ops L=true): ∀k,k<ops.length→k∈L:=by
 intro k a
 simp only[Xj,Bool.and_eq_true,List.all_eq_true] at h
 simpa using h.1.2 k (by simpa using a)
theorem Q5K (m:Region.Mode) (ops:Array Oper) (O:Uw ops.toList=true) (V:List Nat) (Q:Xj m ops.toList V=true): ∀(fuel t:Nat) (listed:Array Bool) (a:List Nat),
 fuel+a.length=ops.size→listed.size=ops.size→(∀i,i<ops.size→(listed.getD i true=true↔i∈a))→a.Nodup→(∀i∈a,i<ops.size)→Dp ops.toList a.reverse→
 (Region.linearise.go m ops fuel t listed a).Nodup∧(Region.linearise.go m ops fuel t listed a).length=ops.size∧Dp ops.toList (Region.linearise.go m ops fuel t listed a)
 | 0,t,listed,a,hf,_,_,hn,_,hr=>by
  simp only[Region.linearise.go]
  exact ⟨List.pairwise_reverse.2 (hn.imp fun h=>Ne.symm h),by simp;omega,hr⟩
 | fuel+1,t,listed,a,hf,v,y,hn,M,hr=>by
  -- one that isn't listed may come
  have X: ∃k,k<ops.size∧k∉a:=by
   refine Classical.byContradiction fun Z=>?_
   have s: ∀k,k<ops.size→k∈a:=fun k hk=>Classical.byContradiction fun h=>Z ⟨k,hk,h⟩
   have:=Uh ops.size a s
   omega
  simp only[Region.linearise.go]
  split
  ·rename_i i hi
   have l:=List.mem_of_getElem? hi
   simp only[List.mem_filter,List.mem_range,Bool.and_eq_true,Bool.not_eq_true'] at l
   obtain ⟨c,z,p⟩:=l
   have C:i∉a:=fun h=>by rw[(y i c).2 h] at z;cases z
   refine Q5K m ops O V Q fuel _ _ _ (by simp;omega) (by simp[v]) ?_ (List.nodup_cons.2 ⟨C,hn⟩) ?_ ?_
   ·intro j hj
    by_cases r:i=j
    ·subst r;simp[Array.getD,v,c]
    ·have:(listed.setIfInBounds i true).getD j true=listed.getD j true:=by
      simp only[Array.getD_eq_getD_getElem?]
      rw[Array.getElem?_setIfInBounds_ne r]
     rw[this,y j hj]
     simp[Ne.symm r]
   ·intro j hj
    rcases List.mem_cons.1 hj with rfl | hj
    ·exact c
    ·exact M j hj
   ·rw[List.reverse_cons]
    intro Y j H U k hk
    rcases List.eq_nil_or_concat H with rfl | ⟨q,x,rfl⟩
    ·have hh:=List.append_inj' U rfl
     obtain ⟨h1,h2⟩:=hh
     simp only[List.cons.injEq,and_true] at h2
     subst h2;subst h1
     have aa:=hk
     unfold G0 at hk
     rw[show ops.toList[i]? =some ops[i] by simp[c]] at hk
     simp only[Option.map_some,Option.getD_some,List.mem_map,List.mem_filter] at hk
     obtain ⟨e,⟨f,af⟩,rfl⟩:=hk
     rw[show ops[i]? =some ops[i] by simp[c]] at p
     simp only[Option.map_some,Option.getD_some,Array.all_eq_true'] at p
     have h4:=p e (by simpa using f)
     simp only[Bool.or_eq_true,Bool.not_eq_true'] at h4
     rcases h4 with h4 | h4
     ·rw[Q89 af] at h4;cases h4
     ·have aj:=Cl O i (by simpa using c) e.on aa
      have:listed.getD e.on true=true:=by
       simp only[Array.getD_eq_getD_getElem?] at h4⊢
       rw[Array.getElem?_eq_getElem (by omega)] at h4⊢
       simpa using h4
      simpa using (y e.on (by omega)).1 this
    ·rw[List.concat_eq_append,←List.cons_append,←List.append_assoc] at U
     have hh:=List.append_inj' U rfl
     exact hr Y j q hh.1 k hk
  ·rename_i n
   exfalso
   obtain ⟨k0,w,A⟩:=X
   have E:=Q
   simp only[Xj,Bool.and_eq_true] at E
   -- every number of L0 that is none of an operation's has no edges: it may stand there, but isn't looked at
   have g: ∃k,k<ops.size∧k∉a∧ ∀e∈(ops.toList[k]?.map fun o=>o.after.toList).getD [],Region.binds m e=true→e.on∈a∨ops.size≤e.on:=by
    -- the first of L0 that is an operation's number and isn't listed
    have key: ∀(L b:List Nat),Q3c m ops.toList L b=true→(∀k∈b,k∈a∨ops.size≤k)→(∃k∈L,k<ops.size∧k∉a)→
     ∃k,k<ops.size∧k∉a∧ ∀e∈(ops.toList[k]?.map fun o=>o.after.toList).getD [],Region.binds m e=true→e.on∈a∨ops.size≤e.on:=by
     intro L
     induction L with
     | nil=>rintro b _ _ ⟨k,hk,_⟩;simp at hk
     | cons j L ih=>
      rintro b h hs ⟨k,hk,ab,D⟩
      simp only[Q3c,Bool.and_eq_true,List.all_eq_true] at h
      by_cases hj:j∈a∨ops.size≤j
      ·refine ih (j::b) h.2 (fun x hx=>by rcases List.mem_cons.1 hx with rfl | hx;exact hj;exact hs x hx) ⟨k,?_,ab,D⟩
       rcases List.mem_cons.1 hk with rfl | hk
       ·rcases hj with hj | hj
        ·exact absurd hj D
        ·omega
       ·exact hk
      ·have W:j<ops.size:=by
        refine Nat.lt_of_not_le fun h=>hj (.inr h)
       refine ⟨j,W,fun h=>hj (.inl h),fun e O R=>?_⟩
       have:=h.1 e O
       rw[R] at this
       exact hs _ (by simpa using this)
    exact key V [] E.1.1 (by simp) ⟨k0,Q4a Q k0 (by simpa using w),w,A⟩
   obtain ⟨k,d,ac,J⟩:=g
   by_cases N:k∈(List.range ops.size).filter fun i=> !listed.getD i true&&((ops[i]?).map (·.after.all fun e=> !Region.binds m e||listed.getD e.on false)).getD false
   ·have u:=List.length_pos_of_mem N
    have:=List.getElem?_eq_none_iff.1 n
    have:=Nat.mod_lt t u
    omega
   ·refine N ?_
    simp only[List.mem_filter,List.mem_range,Bool.and_eq_true,Bool.not_eq_true']
    refine ⟨d,?_,?_⟩
    ·cases hc:listed.getD k true with
     | false=>rfl
     | true=>exact absurd ((y k d).1 hc) ac
    ·rw[show ops[k]? =some ops[k] by simp[d]]
     simp only[Option.map_some,Option.getD_some,Array.all_eq_true']
     intro e f
     simp only[Bool.or_eq_true,Bool.not_eq_true']
     cases R:Region.binds m e with
     | false=>exact .inl rfl
     | true=>
      right
      rw[show ops.toList[k]? =some ops[k] by simp[d]] at J
      rcases J e (by simpa using f) R with h | h
      ·have B:=M _ h
       have:=(y e.on B).2 h
       simp only[Array.getD_eq_getD_getElem?] at this⊢
       rw[Array.getElem?_eq_getElem (by omega)] at this⊢
       simpa using this
      ·exact absurd h (by
        have:=Q5X Q k (by simpa using d) e (by rw[show ops.toList[k]? =some ops[k] by simp[d]];simpa using f) R
        simp at this;omega)
theorem Q2T (b:Bool) (ops:Array Oper) (t:Nat) (c:Uw ops.toList=true) (d: ∀m,∃L,Xj m ops.toList L=true):
 (Region.schedule b ops t).Nodup∧(Region.schedule b ops t).length=ops.size∧Dp ops.toList (Region.schedule b ops t):=by
 have key: ∀m t,(Region.linearise m ops t).Nodup∧(Region.linearise m ops t).length=ops.size∧Dp ops.toList (Region.linearise m ops t):=by
  intro m t
  obtain ⟨L,e⟩:=d m
  refine Q5K m ops c L e _ _ _ _ (by simp) (by simp) ?_ List.nodup_nil (by simp) ?_
  ·intro i f;simp[Array.getD,f]
  ·intro g j a h;simp at h
 unfold Region.schedule
 split<;>exact key _ _
theorem Qm: ∀(ops:List Oper),Yu (O5 ops)=true→ ∀(i j:Nat) (a b:Oper) (d:Nat),ops[i]? =some a→ops[j]? =some b→a.dst=some d→b.dst=some d→i=j
 | [],_,i,j,a,b,d,h,_,_,_=>by simp at h
 | o::c,l,i,j,a,b,d,n,m,r,p=>by
  have f: ∀(k:Nat) (q:Oper),c[k]? =some q→q.dst=some d→d∈O5 c:=by
   intro k q s v
   simp only[O5,List.mem_filterMap]
   exact ⟨q,List.mem_of_getElem? s,v⟩
  have g:Yu (O5 c)=true:=by
   simp only[O5,List.filterMap_cons] at l
   split at l
   ·exact l
   ·simp only[Yu,Bool.and_eq_true] at l;exact l.2
  have e:o.dst=some d→d∉O5 c:=by
   intro u
   simp only[O5,List.filterMap_cons,u,Yu,Bool.and_eq_true,Bool.not_eq_true'] at l
   intro t
   have:=l.1
   simp only[List.contains_eq_mem,decide_eq_false_iff_not] at this
   exact this t
  cases i with
  | zero=>
   simp only[List.getElem?_cons_zero,Option.some.injEq] at n
   subst n
   cases j with
   | zero=>rfl
   | succ j=>exact absurd (f j b (by simpa using m) p) (e r)
  | succ i=>
   cases j with
   | zero=>
    simp only[List.getElem?_cons_zero,Option.some.injEq] at m
    subst m
    exact absurd (f i a (by simpa using n) r) (e p)
   | succ j=>rw[Qm c g i j a b d (by simpa using n) (by simpa using m) r p]
theorem Bf (u:Nat→Value): ∀(S:List Ent) (s:Nat),get (G5 u S) s=(getE S s).at u
 | [],s=>by simp[G5,get,getE,Ent.at]
 | e::S,0=>rfl
 | e::S,s+1=>Bf u S s
theorem Sp: ∀(S:List Ent) (s:Nat),getE S s=(S[s]?).getD (.val undef)
 | [],s=>by simp[getE]
 | e::S,0=>rfl
 | e::S,s+1=>by simp only[getE,List.getElem?_cons_succ];exact Sp S s
theorem Ah: ∀(S:List Ent) (n:Nat) (e:Ent),Q0C S n e=S.set n e
 | [],n,e=>by simp[Q0C]
 | x::S,0,e=>rfl
 | x::S,n+1,e=>by simp only[Q0C,List.set_cons_succ,Ah S n e]
theorem Q2f {x:Nat}: ∀{l:List Nat},x∈l→x∈Ag l
 | y::l,h=>by
  simp only[Ag,List.mem_cons,List.mem_filter]
  by_cases e:x=y
  ·exact .inl e
  ·exact .inr ⟨Q2f ((List.mem_cons.1 h).resolve_left e),by simpa using e⟩
theorem Ht {x:Nat}: ∀{l:List Nat},x∈Ag l→x∈l
 | y::l,h=>by
  simp only[Ag,List.mem_cons,List.mem_filter] at h⊢
  exact h.imp id fun h=>Ht h.1
theorem Q2O {S:List Ent} {j:Nat}: ∀{l:List Nat} {s:Nat},s∈l→getE S s= .ref j→j∈Ad S l
 | x::l,s,h,e=>by
  simp only[Ad,List.mem_append]
  rcases List.mem_cons.1 h with rfl | h
  ·left;rw[e];simp[Q3d]
  ·right;exact Q2O h e
theorem Hu {S:List Ent} {j:Nat}: ∀{l:List Nat},j∈Ad S l→ ∃s∈l,getE S s= .ref j
 | x::l,h=>by
  simp only[Ad,List.mem_append] at h
  rcases h with h | h
  ·refine ⟨x,by simp,?_⟩
   cases a:getE S x with
   | val v=>rw[a] at h;simp[Q3d] at h
   | ref k=>rw[a] at h;simp[Q3d] at h;rw[h]
  ·obtain ⟨s,b,e⟩:=Hu h
   exact ⟨s,by simp[b],e⟩
theorem Q0K: ∀(a:List Nat) (b u:Nat→Value) (k:(Nat→Value)→Prop),Ct a b k→ ∃c,k c∧ ∀x,(x∈a→c x=u x)∧(x∉a→c x=b x)
 | [],b,u,k,h=>⟨b,h,fun x=>⟨fun h=>by simp at h,fun _=>rfl⟩⟩
 | j::a,b,u,k,h=>by
  obtain ⟨c,g,f⟩:=Q0K a _ u k (h (u j))
  refine ⟨c,g,fun x=>⟨fun hx=>?_,fun hx=>?_⟩⟩
  ·by_cases d:x∈a
   ·exact (f x).1 d
   ·rw[(f x).2 d]
    rcases List.mem_cons.1 hx with rfl | hx
    ·simp
    ·exact absurd hx d
  ·rw[(f x).2 (fun h=>hx (List.mem_cons_of_mem _ h))]
   have:x≠j:=fun e=>hx (by simp[e])
   simp[this]
theorem Q0J {e:Dj} {u:Nat→Value} {w:World} {a:Prop}: ∀{d:List Nat},Ck e u w a d→(∀j∈d,∀φ,Zw e j=some ([],φ)→φ [] (u j) w)→a
 | [],h,_=>h
 | j::d,h,c=>by
  simp only[Ck] at h
  split at h
  ·rename_i φ f
   exact Q0J (h (c j (by simp) φ f)) fun k b=>c k (by simp[b])
  ·exact Q0J h fun k b=>c k (by simp[b])
theorem Ts {e:Dj} {u:Nat→Value} {w:World} {a:Prop}: ∀{d:List Nat},Tz e u w a d→(∀j∈d,∀R φ,Zw e j=some (R,φ)→φ (R.map u) (u j) w)→a
 | [],h,_=>h
 | j::d,h,c=>by
  simp only[Tz] at h
  split at h
  ·rename_i R φ f
   exact Ts (h (c j (by simp) R φ f)) fun k b=>c k (by simp[b])
  ·exact Ts h fun k b=>c k (by simp[b])
theorem Fq {a:Dj} {i j:Nat} {φ:List Nat×(List Value→Value→World→Prop)} (h:i≠j):Zw (a++[(i,φ)]) j=Zw a j:=by
 induction a with
 | nil=>simp[Zw,h]
 | cons p a b=>obtain ⟨k,ψ⟩:=p;simp only[List.cons_append,Zw,b]
theorem Vx {a:Dj} {i:Nat} {φ:List Nat×(List Value→Value→World→Prop)} (h:Zw a i=none):Zw (a++[(i,φ)]) i=some φ:=by
 induction a with
 | nil=>simp[Zw]
 | cons p a c=>
  obtain ⟨k,ψ⟩:=p
  simp only[Zw] at h
  split at h
  ·cases h
  ·rename_i b;simp only[List.cons_append,Zw,b,if_false];exact c h
def Dt (S:List Ent) (i:Nat) (o:Oper):Ent:=match mv o with | some x=>entOf S x | none=> .ref i
def W8 (S:List Ent):Nat→List Oper→List Ent
 | _,[]=>S
 | i,o::a=>W8 (putE S o.dst (Dt S i o)) (i+1) a
theorem Q2w: ∀(a:List Oper) (S:List Ent) (i k:Nat) (o:Oper),a[k]? =some o→
 W8 S i (a.take (k+1))=putE (W8 S i (a.take k)) o.dst (Dt (W8 S i (a.take k)) (i+k) o)
 | [],_,_,_,_,h=>by simp at h
 | x::a,S,i,0,o,h=>by
  simp only[List.getElem?_cons_zero,Option.some.injEq] at h
  subst h
  simp[W8]
 | x::a,S,i,k+1,o,h=>by
  simp only[List.getElem?_cons_succ] at h
  have:=Q2w a (putE S x.dst (Dt S i x)) (i+1) k o h
  simp only[List.take_succ_cons,W8]
  rw[this,show i+1+k=i+(k+1) from by omega]
def Xg (S:List Ent) (D:List Nat):Prop:= ∀e∈S,∀j,e= .ref j→j∈D
theorem Xg.getE {S:List Ent} {D:List Nat} (h:Xg S D) {s j:Nat} (e:Go.Emb.getE S s= .ref j):j∈D:=by
 rw[Sp] at e
 cases a:S[s]? with
 | none=>rw[a] at e;cases e
 | some x=>rw[a] at e;exact h x (List.mem_of_getElem? a) j e
theorem Xg.putE {S:List Ent} {D:List Nat} (h:Xg S D) (d:Option Nat) {e:Ent} (c: ∀j,e= .ref j→j∈D):Xg (Go.Emb.putE S d e) D:=by
 cases d with
 | none=>exact h
 | some d=>
  intro x a j b
  simp only[Go.Emb.putE,Ah] at a
  rcases List.mem_or_eq_of_mem_set a with a | rfl
  ·exact h x a j b
  ·exact c j b
theorem Xg.mono {S:List Ent} {D D':List Nat} (h:Xg S D) (c: ∀j∈D,j∈D'):Xg S D':=fun e b j a=>c j (h e b j a)
theorem Xg.entOf {S:List Ent} {D:List Nat} (h:Xg S D) (x:Operand) {j:Nat} (e:Go.Emb.entOf S x= .ref j):j∈D:=by
 cases x with
 | tmp t=>exact h.getE e
 | _=>cases e
theorem Q6h {S:List Ent} {D:List Nat} (h:Xg S D) {u a:Nat→Value} (c: ∀j∈D,a j=u j):G5 a S=G5 u S:=by
 unfold G5
 refine List.map_congr_left fun e b=>?_
 cases e with
 | val v=>rfl
 | ref j=>exact c j (h _ b j rfl)
theorem Q0d {P:Program} {ops:List Oper} {l l':List Value} {o:Oper} (e:A9 o.op=true) (h: ∀s∈N2 ops o++H1 o,get l s=get l' s):runOp P ops l o=runOp P ops l' o:=by
 funext w K
 unfold runOp
 rw[My e fun x c=>by
  cases x with
  | tmp s=>exact h s (List.mem_append_right _ (by simp only[H1,List.mem_filterMap];exact ⟨.tmp s,by simpa using c,rfl⟩))
  | _=>rfl]
 cases a:o.guard with
 | none=>rfl
 | some q=>
  obtain ⟨j,b⟩:=q
  simp only
  cases f:(ops[j]?).bind (·.dst) with
  | none=>rfl
  | some d=>simp only;rw[h d (List.mem_append_left _ (by simp[N2,a,f]))]
theorem Q1y {P:Program} {ops:List Oper} {l:List Value} {o:Oper} {w:World} {K d:Value→World→Prop} (a: ∀v w,K v w→d v w) (h:runOp P ops l o w K):runOp P ops l o w d:=by
 unfold runOp at*
 split at h
 ·exact C1 a h
 ·split at h
  ·exact Tp ((Vd h).imp (fun ⟨c,b⟩=>⟨c,C1 a b⟩) (fun ⟨c,b⟩=>⟨c,a _ _ b⟩))
  ·exact h.elim
theorem Q1C {P:Program} {ops:List Oper} {V0:List Value→World→Prop} {o:Oper} {a:List Oper} {l:List Value} {w:World}
 (h:runOp P ops l o w (fun v w=>Y5 P ops V0 a (put l o.dst v) w)):Y5 P ops V0 (o::a) l w:=by
 simp only[Y5]
 unfold runOp at h
 cases c:o.guard with
 | none=>simp only[c] at h⊢;exact h
 | some q=>
  obtain ⟨j,b⟩:=q
  simp only[c] at h⊢
  split at h
  ·rename_i d e
   first | exact h | (simp only[e];exact h) | (rw[e];exact h)
  ·exact h.elim
structure Whole (P : Program) (ops : List Oper) (T : World → World → Prop) (B : World → Prop) (V0 : List Value → World → Prop) (tail : List Oper) (Φ : Nat → (Nat → Value) → World → Prop) (S : List Ent) (i : Nat) (rest : List Oper) (D : List Nat) : Prop where
  stable : ∀ k o, rest[k]? = some o → mv o = none → ∀ u w w', Φ (i + k) u w → T w w' → Φ (i + k) u w'
  loc : ∀ k o, rest[k]? = some o → mv o = none → ∀ u u', (∀ r ∈ (i + k) :: refs ops (W8 S i (rest.take k)) o, u r = u' r) → Φ (i + k) u = Φ (i + k) u'
  run : ∀ k o, rest[k]? = some o → mv o = none → A9 o.op = true → ∀ u w, B w → (∀ j ∈ refs ops (W8 S i (rest.take k)) o, Φ j u w) →
    runOp P ops (G5 u (W8 S i (rest.take k))) o w (fun v w' => T w w' ∧ ∀ u', (∀ r ∈ refs ops (W8 S i (rest.take k)) o, u' r = u r) → u' (i + k) = v → Φ (i + k) u' w')
  last : ∀ u w, B w → (∀ j ∈ D, Φ j u w) → (∀ k o, rest[k]? = some o → mv o = none → Φ (i + k) u w) → Y5 P ops V0 tail (G5 u (W8 S i rest)) w
theorem Pg (P:Program) (ops:List Oper) (T:World→World→Prop) (B:World→Prop) (V0:List Value→World→Prop) (tail:List Oper): ∀(d:List Oper) (i:Nat) (S:List Ent) (m:Dj) (done:List Nat),
 Xg S done→(∀j,j∈done→j<i∧ ∃φ,Zw m j=some φ)→(∀j φ,Zw m j=some φ→j<i∧ ∀r∈φ.1,r∈done)→chain P ops T B V0 tail i d S m done→
 ∃Φ:Nat→(Nat→Value)→World→Prop,(∀j R φ,Zw m j=some (R,φ)→Φ j=fun u w=>φ (R.map u) (u j) w)∧Whole P ops T B V0 tail Φ S i d done
 | [],i,S,m,done,L,O,D,h=>by
  refine ⟨fun j u w=>match Zw m j with | some (R,φ)=>φ (R.map u) (u j) w | none=>True,fun j R φ hj=>by simp[hj],⟨by simp,by simp,by simp,?_⟩⟩
  intro u w hB C _
  obtain ⟨q,p,g⟩:=Q0K done _ u _ h
  have t:=Ts (p w hB) fun j hj R φ M=>by
   have:=C j hj
   simp only[M] at this
   rw[(g j).1 hj,show R.map q=R.map u from List.map_congr_left fun r f=>(g r).1 ((D j _ M).2 r f)];exact this
  rw[Q6h L fun j hj=>(g j).1 hj,Cm] at t
  exact t
 | o::d,i,S,m,done,L,O,D,h=>by
  simp only[chain] at h
  cases z:mv o with
  | some x=>
   simp only[z] at h
   have c:Dt S i o=entOf S x:=by simp[Dt,z]
   obtain ⟨Φ,p,g⟩:=Pg P ops T B V0 tail d (i+1) _ m done (L.putE _ fun j hj=>L.entOf x hj) (fun j hj=>⟨by have:=(O j hj).1;omega,(O j hj).2⟩) (fun j φ hj=>⟨by have:=(D j φ hj).1;omega,(D j φ hj).2⟩) h
   refine ⟨Φ,p,⟨?_,?_,?_,?_⟩⟩
   ·intro k l b a
    cases k with
    | zero=>simp only[List.getElem?_cons_zero,Option.some.injEq] at b;subst b;rw[z] at a;cases a
    | succ k=>have:=g.stable k l (by simpa using b) a;rwa [show i+1+k=i+(k+1) from by omega] at this
   ·intro k l b a u q J
    cases k with
    | zero=>simp only[List.getElem?_cons_zero,Option.some.injEq] at b;subst b;rw[z] at a;cases a
    | succ k=>
     simp only[List.take_succ_cons,W8,c] at J
     have:=g.loc k l (by simpa using b) a u q (by rwa [show i+1+k=i+(k+1) from by omega])
     rwa [show i+1+k=i+(k+1) from by omega] at this
   ·intro k l b a y u w hB f
    cases k with
    | zero=>simp only[List.getElem?_cons_zero,Option.some.injEq] at b;subst b;rw[z] at a;cases a
    | succ k=>
     simp only[List.take_succ_cons,W8,c] at f⊢
     have:=g.run k l (by simpa using b) a y u w hB f
     rwa [show i+1+k=i+(k+1) from by omega] at this
   ·intro u w hB C Q
    simp only[W8,c]
    refine g.last u w hB C fun k l b a=>?_
    have:=Q (k+1) l (by simpa using b) a
    rwa [show i+(k+1)=i+1+k from by omega] at this
  | none=>
   have h': ∃(R:List Nat) (φ:List Value→Value→World→Prop),(∀r∈R,r∈refs ops S o)∧(∀xs,Dz T (φ xs))∧
    (Ct (refs ops S o) (fun _=>undef) fun u=> ∀w,B w→Ck m u w (runOp P ops (G5 u S) o w (dk T (φ (R.map u)) w)) (refs ops S o))∧
    chain P ops T B V0 tail (i+1) d (putE S o.dst (.ref i)) (m++[(i,R,φ)]) (done++[i]):=by
    cases U:Q6v o with
    | true=>
     simp only[z,U,Q5r,Q2b] at h
     obtain ⟨φ,p,g,t⟩:=h
     exact ⟨_,φ,fun _ h=>h,p,g,t⟩
    | false=>
     simp only[z,U,Q73,Q3S] at h
     obtain ⟨φ,p,g,t⟩:=h
     exact ⟨[],fun _=>φ,by simp,fun _=>p,g,t⟩
   clear h
   obtain ⟨R,φ,V,Z,N,h⟩:=h'
   have aa: ∀r∈refs ops S o,r∈done:=fun r f=>by
    obtain ⟨s,_,W⟩:=Hu (Ht f)
    exact L.entOf (.tmp s) W
   have c:Dt S i o= .ref i:=by simp[Dt,z]
   have n:Zw m i=none:=by
    cases C:Zw m i with
    | none=>rfl
    | some ψ=>have:=(D i ψ C).1;omega
   obtain ⟨Φ,p,g⟩:=Pg P ops T B V0 tail d (i+1) _ (m++[(i,R,φ)]) (done++[i])
    ((L.mono fun j hj=>List.mem_append_left _ hj).putE _ fun j hj=>by cases hj;simp)
    (fun j hj=>by
     rcases List.mem_append.1 hj with hj | hj
     ·obtain ⟨t,ψ,H⟩:=O j hj
      exact ⟨by omega,ψ,by rw[Fq (by omega)];exact H⟩
     ·simp at hj;subst hj;exact ⟨by omega,(R,φ),Vx n⟩)
    (fun j ψ hj=>by
     by_cases e:i=j
     ·subst e
      rw[Vx n] at hj;cases hj
      exact ⟨by omega,fun r f=>List.mem_append_left _ (aa r (V r f))⟩
     ·rw[Fq e] at hj
      obtain ⟨t,H⟩:=D j ψ hj
      exact ⟨by omega,fun r f=>List.mem_append_left _ (H r f)⟩) h
   have E:Φ i=fun u w=>φ (R.map u) (u i) w:=p i R φ (Vx n)
   have A: ∀j R' ψ,Zw m j=some (R',ψ)→Φ j=fun u w=>ψ (R'.map u) (u j) w:=fun j R' ψ hj=>p j R' ψ (by rw[Fq (by have:=(D j _ hj).1;omega)];exact hj)
   refine ⟨Φ,A,⟨?_,?_,?_,?_⟩⟩
   ·intro k l b a
    cases k with
    | zero=>
     intro u w w' ha Y
     rw[Nat.add_zero,E] at ha⊢
     exact Z _ _ _ _ ha Y
    | succ k=>have:=g.stable k l (by simpa using b) a;rwa [show i+1+k=i+(k+1) from by omega] at this
   ·intro k l b a u q J
    cases k with
    | zero=>
     simp only[List.getElem?_cons_zero,Option.some.injEq] at b
     subst b
     simp only[List.take_zero,W8,Nat.add_zero] at J
     rw[Nat.add_zero,E]
     funext w
     show φ (R.map u) (u i) w=φ (R.map q) (q i) w
     rw[show R.map u=R.map q from List.map_congr_left fun r f=>J r (List.mem_cons_of_mem _ (V r f)),J i (by simp)]
    | succ k=>
     simp only[List.take_succ_cons,W8,c] at J
     have:=g.loc k l (by simpa using b) a u q (by rwa [show i+1+k=i+(k+1) from by omega])
     rwa [show i+1+k=i+(k+1) from by omega] at this
   ·intro k l b a y u w hB f
    cases k with
    | zero=>
     simp only[List.getElem?_cons_zero,Option.some.injEq] at b
     subst b
     simp only[List.take_zero,W8,Nat.add_zero] at f⊢
     obtain ⟨q,t,H⟩:=Q0K _ _ u _ N
     have h5:=Q0J (t w hB) fun j hj ψ hψ=>by
      have h6:=f j hj
      rw[A j [] ψ hψ] at h6
      rw[(H j).1 hj];exact h6
     rw[Q0d y (l':=G5 u S)] at h5
     ·refine Q1y ?_ h5
      rintro v w' ⟨Y,hf⟩
      refine ⟨Y,fun X ab hi=>?_⟩
      rw[E]
      show φ (R.map X) (X i) w'
      rw[hi,show R.map X=R.map q from List.map_congr_left fun r f=>by rw[ab r (V r f),(H r).1 (V r f)]]
      exact hf
     ·intro s U
      rw[Bf,Bf]
      cases W:getE S s with
      | val v=>rfl
      | ref j=>exact (H j).1 (Q2f (Q2O U W))
    | succ k=>
     simp only[List.take_succ_cons,W8,c] at f⊢
     have:=g.run k l (by simpa using b) a y u w hB f
     rwa [show i+1+k=i+(k+1) from by omega] at this
   ·intro u w hB C Q
    simp only[W8,c]
    refine g.last u w hB (fun j hj=>?_) fun k l b a=>?_
    ·rcases List.mem_append.1 hj with hj | hj
     ·exact C j hj
     ·simp at hj;subst hj
      have:=Q 0 o (by simp) z
      simpa using this
    ·have:=Q (k+1) l (by simpa using b) a
     rwa [show i+(k+1)=i+1+k from by omega] at this
def I7 (os:List Oper) (S0:List Ent) (q:Nat):Ent:=
 match os[q]? with
 | some o=>Dt (W8 S0 0 (os.take q)) q o
 | none=> .val undef
theorem Q5B {os:List Oper} {S0:List Ent} {q:Nat} {o:Oper} (h:os[q]? =some o):W8 S0 0 (os.take (q+1))=putE (W8 S0 0 (os.take q)) o.dst (I7 os S0 q):=by
 rw[Q2w os S0 0 q o h]
 simp[I7,h]
theorem Q4Y (S:List Ent) (d:Option Nat) (e:Ent):(putE S d e).length=S.length:=by
 cases d with
 | none=>rfl
 | some d=>simp[putE,Ah]
theorem Bx (os:List Oper) (S0:List Ent): ∀q,q≤os.length→(W8 S0 0 (os.take q)).length=S0.length
 | 0,_=>by simp[W8]
 | q+1,h=>by rw[Q5B (List.getElem?_eq_getElem (by omega)),Q4Y,Bx os S0 q (by omega)]
theorem Eb {os:List Oper} {S0:List Ent} (t:Yu (O5 os)=true) (r: ∀d∈O5 os,d<S0.length): ∀q,q≤os.length→
 (∀p,p<q→ ∀o d,os[p]? =some o→o.dst=some d→(W8 S0 0 (os.take q))[d]? =some (I7 os S0 p))∧
  (∀s,(∀p,p<q→ ∀o,os[p]? =some o→o.dst≠some s)→(W8 S0 0 (os.take q))[s]? =S0[s]?)
 | 0,_=>⟨fun p i=>absurd i (by omega),fun s _=>by simp[W8]⟩
 | q+1,h=>by
  obtain ⟨n,u⟩:=Eb t r q (by omega)
  have j:os[q]? =some os[q]:=List.getElem?_eq_getElem (by omega)
  have g:=Bx os S0 q (by omega)
  rw[Q5B j]
  cases a:os[q].dst with
  | none=>
   refine ⟨fun p i o d b c=>?_,fun s l=>u s fun p i=>l p (by omega)⟩
   by_cases e:p=q
   ·subst e;rw[j] at b;cases b;rw[a] at c;cases c
   ·exact n p (by omega) o d b c
  | some k=>
   have m:k<S0.length:=r k (by simp only[O5,List.mem_filterMap];exact ⟨os[q],List.getElem_mem _,a⟩)
   simp only[putE,Ah]
   refine ⟨fun p i o d b c=>?_,fun s l=>?_⟩
   ·by_cases e:p=q
    ·subst e;rw[j] at b;cases b;rw[a] at c;cases c
     rw[List.getElem?_set_self (by rw[g];exact m)]
    ·have f:k≠d:=by
      rintro rfl
      exact e (Qm os t p q o os[q] k b j c a)
     rw[List.getElem?_set_ne f]
     exact n p (by omega) o d b c
   ·have f:k≠s:=fun e=>l q (by omega) os[q] j (by rw[a,e])
    rw[List.getElem?_set_ne f]
    exact u s fun p i=>l p (by omega)
def Lb (os:List Oper) (p:Nat):Bool:=
 match os[p]? with
 | some o=>match mv o with
  | some (.tmp s)=> !(O5 os).contains s
  | some _=>true
  | none=>false
 | none=>false
theorem X18 {P:Program} {o:Oper} {x:Operand} (h:mv o=some x) (l:List Value) (w:World) (K:Value→World→Prop):o.guard=none∧V5 P l o w K=K (ev l x) w:=by
 unfold mv at h
 split at h
 ·cases h
 ·rename_i b
  refine ⟨b,?_⟩
  split at h
  ·rename_i y a;cases h;simp only[V5,a]
  ·rename_i y a;cases h;simp only[V5,a]
  ·cases h
theorem Q4N {P:Program} {ops:List Oper} {V0:List Value→World→Prop} {o:Oper} {c a:List Oper} {l l':List Value} {w:World} (r:A9 o.op=true) (n: ∀s∈N2 ops o++H1 o,get l' s=get l s)
 (f: ∀v w,Y5 P ops V0 c (put l o.dst v) w→Y5 P ops V0 a (put l' o.dst v) w) (h:Y5 P ops V0 (o::c) l w):Y5 P ops V0 (o::a) l' w:=by
 have m:V5 P l' o=V5 P l o:=My r fun x p=>by
  cases x with
  | tmp s=>exact n s (List.mem_append_right _ (by simp only[H1,List.mem_filterMap];exact ⟨.tmp s,by simpa using p,rfl⟩))
  | _=>rfl
 simp only[Y5] at h⊢
 cases e:o.guard with
 | none=>simp only[e] at h⊢;rw[m];exact C1 f h
 | some q=>
  obtain ⟨j,b⟩:=q
  simp only[e] at h⊢
  cases i:(ops[j]?).bind (·.dst) with
  | none=>simp only[i] at h⊢;exact f _ _ h
  | some d=>
   simp only[i] at h⊢
   rw[n d (List.mem_append_left _ (by simp[N2,e,i])),m]
   exact Tp ((Vd h).imp (fun ⟨g,k⟩=>⟨g,C1 f k⟩) (fun ⟨g,k⟩=>⟨g,f _ _ k⟩))
structure At (os : List Oper) (l0 : List Value) (pre : List Nat) (l : List Value) (u : Nat → Value) : Prop where
  len : l.length = l0.length
  done : ∀ p ∈ pre, ∀ o d, os[p]? = some o → o.dst = some d → l[d]? = some ((I7 os (l0.map .val) p).at u)
  rest : ∀ s, (∀ p ∈ pre, ∀ o, os[p]? = some o → o.dst ≠ some s) → l[s]? = l0[s]?
  refs : ∀ p ∈ pre, ∀ r, I7 os (l0.map .val) p = .ref r → r ∈ pre ∧ ∃ o, os[r]? = some o ∧ mv o = none
theorem X1F {P:Program} {ops os:List Oper} {T:World→World→Prop} {B:World→Prop} {V0:List Value→World→Prop} {m:Nat} {C:List Value} {Φ:Nat→(Nat→Value)→World→Prop}
 (an:Nat→Nat→Bool) (bp: ∀o∈os,A9 o.op=true) (hn:Yu (O5 os)=true) (hd: ∀d∈O5 os,d<C.length)
 (af: ∀p q a b,p<q→os[p]? =some a→os[q]? =some b→(I3 a b||I3 b a)=true→an p q=true)
 (hg: ∀q o j b,os[q]? =some o→o.guard=some (j,b)→ ∃p,p<q∧os[p]? =ops[j]? ∧an p q=true)
 (hm:m≤os.length) (al: ∀q,m≤q→q<os.length→ ∀p,p<q→an p q=true∨(p<m∧Lb os p=true))
 (hT: ∀w w',B w→T w w'→B w') (hW:Whole P ops T B V0 (os.drop m) Φ (C.map .val) 0 (os.take m) [])
 (L:List Nat) (H:L.Nodup) (bk:L.length=os.length) (ac: ∀q∈L,q<os.length)
 (hC: ∀c q f,L=c++q::f→ ∀p,an p q=true→p<os.length→p∈c):
 ∀(f c:List Nat),L=c++f→(∀q∈c,q<m)→ ∀(l:List Value) (u:Nat→Value) (w:World),At os C c l u→B w→
  (∀r∈c,∀o,os[r]? =some o→mv o=none→Φ r u w∧ ∀j∈refs ops (W8 (C.map .val) 0 (os.take r)) o,j∈c)→Y5 P ops V0 (f.filterMap (os[·]?)) l w:=by
 have ba: ∀d∈O5 os,d<(C.map Ent.val).length:=by simpa using hd
 have a3: ∀q,q≤m→(os.take m).take q=os.take q:=fun q hq=>by rw[List.take_take,Nat.min_eq_left hq]
 have U: ∀q,q<m→(os.take m)[q]? =os[q]? :=fun q hq=>by rw[List.getElem?_take_of_lt hq]
 -- when all of the first part is done
 have cr: ∀(c f:List Nat),L=c++f→(∀q∈c,q<m)→(∀q,q<m→q∈c)→ ∀l u w,At os C c l u→B w→
  (∀r∈c,∀o,os[r]? =some o→mv o=none→Φ r u w∧ ∀j∈refs ops (W8 (C.map .val) 0 (os.take r)) o,j∈c)→Y5 P ops V0 (f.filterMap (os[·]?)) l w:=by
  intro c f E D ao l u w hA hB hΦ
  have cd: ∀(f c:List Nat),L=c++f→m≤c.length→(∀q,q∈c↔q<c.length)→f.filterMap (os[·]?)=os.drop c.length:=by
   intro f
   induction f with
   | nil=>
    intro c E _ _
    rw[List.append_nil] at E
    rw[←E,bk];simp
   | cons q f ih=>
    intro c E c8 a4
    have ct:q∉c:=by
     rw[E] at H
     intro h
     exact (List.nodup_append.1 H).2.2 q h q (by simp) rfl
    have cq:c.length≤q:=Nat.le_of_not_lt fun h=>ct ((a4 q).2 h)
    have W:=ac q (by rw[E];simp)
    have cn:q=c.length:=by
     refine Nat.le_antisymm (Nat.le_of_not_lt fun h=>?_) cq
     have:=hC c q f E c.length ((al q (by omega) W _ h).resolve_right (by omega)) (by omega)
     have:=(a4 _).1 this
     omega
    subst cn
    rw[List.filterMap_cons,List.getElem?_eq_getElem W]
    simp only
    rw[ih (c++[c.length]) (by rw[E];simp) (by simp;omega) (by intro x;simp only[List.mem_append,a4,List.mem_singleton,List.length_append,List.length_cons,List.length_nil];omega)]
    simp only[List.length_append,List.length_cons,List.length_nil]
    rw[←List.drop_eq_getElem_cons W]
  have be:c.length=m:=by
   have J:=H8 m c (by rw[E] at H;exact (List.nodup_append.1 H).1) D
   have R:=Uh m c ao
   omega
  have J:=cd f c E (by omega) (fun q=>by rw[be];exact ⟨D q,ao q⟩)
  rw[J,be]
  have R:=hW.last u w hB (by simp) fun k o hk t=>by
   have a1:k<m:=by
    have:=(List.getElem?_eq_some_iff.1 hk).1
    simp at this;omega
   rw[Nat.zero_add]
   rw[U k a1] at hk
   exact (hΦ k (ao k a1) o hk t).1
  have h3:l=G5 u (W8 (C.map .val) 0 (os.take m)):=by
   obtain ⟨g1,g2⟩:=Eb hn ba m hm
   apply List.ext_getElem?
   intro s
   rw[G5,List.getElem?_map]
   by_cases hs: ∃p,p<m∧ ∃o,os[p]? =some o∧o.dst=some s
   ·obtain ⟨p,hp,o,i,z⟩:=hs
    rw[hA.done p (ao p hp) o s i z,g1 p hp o s i z];rfl
   ·have ad: ∀p,p<m→ ∀o,os[p]? =some o→o.dst≠some s:=fun p hp o i z=>hs ⟨p,hp,o,i,z⟩
    rw[hA.rest s (fun p hp=>ad p (D p hp)),g2 s ad,List.getElem?_map]
    cases C[s]? <;>rfl
  rw[h3];exact R
 -- moves that come late, among the tail
 have ca: ∀(f c:List Nat) (k:Nat),L=c++f→m≤k→k≤os.length→(∀q,m≤q→(q∈c↔q<k))→(∀p∈f,p<m→Lb os p=true)→
  ∀(l lf:List Value) (w:World),l.length=C.length→lf.length=C.length→(∀s,(∀p∈f,p<m→ ∀o,os[p]? =some o→o.dst≠some s)→l[s]? =lf[s]?)→
   (∀p∈f,p<m→ ∀o d x,os[p]? =some o→mv o=some x→o.dst=some d→lf[d]? =some (ev C x))→(∀s,(O5 os).contains s=false→l[s]? =C[s]?)→
   Y5 P ops V0 (os.drop k) lf w→Y5 P ops V0 (f.filterMap (os[·]?)) l w:=by
  intro f
  induction f with
  | nil=>
   intro c k E a8 bq ab _ l lf w hl bb aq _ _ h
   rw[List.append_nil] at E
   have hk:k=os.length:=by
    refine Nat.le_antisymm bq (Nat.le_of_not_lt fun D=>?_)
    have co:k∉c:=fun e=>by have:=(ab k a8).1 e;omega
    have J:=H8 os.length (k::c) (List.nodup_cons.2 ⟨co,E▸H⟩) (fun x hx=>by
     rcases List.mem_cons.1 hx with rfl | hx
     ·exact D
     ·exact ac x (by rw[E];exact hx))
    simp at J
    rw[E] at bk;omega
   have:l=lf:=List.ext_getElem? fun s=>aq s (by simp)
   rw[this]
   rw[hk,List.drop_length] at h
   exact h
  | cons q f ih=>
   intro c k E a8 bq ab am l lf w hl bb aq a2 Z h
   have O:q∉c:=by
    rw[E] at H
    intro h
    exact (List.nodup_append.1 H).2.2 q h q (by simp) rfl
   have cj:q∉f:=by
    rw[E] at H
    exact (List.nodup_cons.1 (List.nodup_append.1 H).2.1).1
   have W:=ac q (by rw[E];simp)
   have A:os[q]? =some os[q]:=List.getElem?_eq_getElem W
   have cf:L=(c++[q])++f:=by rw[E];simp
   rw[List.filterMap_cons,A]
   simp only
   by_cases aa:q<m
   ·-- a late move
    have D:=am q (by simp) aa
    unfold Lb at D
    rw[A] at D
    simp only at D
    cases t:mv os[q] with
    | none=>rw[t] at D;cases D
    | some x=>
     rw[t] at D
     have hx:ev l x=ev C x:=by
      cases x with
      | tmp s=>
       simp only[Bool.not_eq_true'] at D
       simp only[ev,get,List.getD_eq_getElem?_getD,Z s D]
      | _=>rfl
     obtain ⟨a9,ax⟩:=X18 (P:=P) t l w (fun v w=>Y5 P ops V0 (f.filterMap (os[·]?)) (put l os[q].dst v) w)
     simp only[Y5,a9]
     rw[ax,hx]
     refine ih (c++[q]) k cf a8 bq (fun q' a5=>?_) (fun p hp=>am p (by simp[hp])) _ lf w ?_ bb (fun s hs=>?_) (fun p hp=>a2 p (by simp[hp])) (fun s hs=>?_) h
     ·rw[←ab q' a5];simp only[List.mem_append,List.mem_singleton]
      exact ⟨fun e=>e.resolve_right (by omega), .inl⟩
     ·cases g:os[q].dst<;>simp[put,hl]
     ·cases g:os[q].dst with
      | none=>
       refine aq s fun p hp M o i=>?_
       rcases List.mem_cons.1 hp with rfl | hp
       ·rw[A] at i;cases i;rw[g];simp
       ·exact hs p hp M o i
      | some d=>
       have ar:d<C.length:=hd d (by simp only[O5,List.mem_filterMap];exact ⟨os[q],List.getElem_mem _,g⟩)
       simp only[put]
       by_cases e:d=s
       ·subst e
        rw[List.getElem?_set_self (by rw[hl];exact ar)]
        exact (a2 q (by simp) aa os[q] d x A t g).symm
       ·rw[List.getElem?_set_ne e]
        refine aq s fun p hp M o i=>?_
        rcases List.mem_cons.1 hp with rfl | hp
        ·rw[A] at i;cases i;rw[g];simpa using e
        ·exact hs p hp M o i
     ·cases g:os[q].dst with
      | none=>exact Z s hs
      | some d=>
       have aj:(O5 os).contains d=true:=by
        rw[List.contains_iff_mem];simp only[O5,List.mem_filterMap];exact ⟨os[q],List.getElem_mem _,g⟩
       simp only[put]
       rw[List.getElem?_set_ne (by rintro rfl;rw[hs] at aj;cases aj)]
       exact Z s hs
   ·have aa:m≤q:=by omega
    have cu:q=k:=by
     have J:k≤q:=Nat.le_of_not_lt fun e=>O ((ab q aa).2 e)
     refine Nat.le_antisymm (Nat.le_of_not_lt fun e=>?_) J
     have:=hC c q f E k ((al q aa W k e).resolve_right (by omega)) (by omega)
     have:=(ab k a8).1 this
     omega
    subst cu
    rw[List.drop_eq_getElem_cons W] at h
    have b8: ∀p∈f,p<m→an p q=true→False:=fun p hp M hb=>by
     have:=hC c q f E p hb (by omega)
     rw[E] at H
     exact (List.nodup_append.1 H).2.2 p this p (by simp[hp]) rfl
    refine Q4N (bp _ (List.getElem_mem _)) (fun s hs=>?_) (fun v w' hv=>?_) h
    ·have:l[s]? =lf[s]? :=aq s fun p hp M o i z=>by
      rcases List.mem_cons.1 hp with rfl | hp
      ·omega
      refine b8 p hp M ?_
      rcases List.mem_append.1 hs with hs | hs
      ·unfold N2 at hs
       split at hs
       ·simp at hs
       ·rename_i j b bl
        split at hs
        ·rename_i d bn
         simp only[List.mem_singleton] at hs
         subst hs
         obtain ⟨p',av,bu,hb⟩:=hg q os[q] j b A bl
         obtain ⟨o',bo,ch⟩:=Option.bind_eq_some_iff.1 bn
         have:=Qm os hn p' p o' o s (by rw[bu,bo]) i ch z
         subst this;exact hb
        ·simp at hs
      ·exact af p q o os[q] (by omega) i A (by simp only[I3,z,Bool.or_eq_true];left;left;simpa using hs)
     simp only[get,List.getD_eq_getElem?_getD,this]
    ·refine ih (c++[q]) (q+1) cf (by omega) (by omega) (fun q' a5=>?_) (fun p hp=>am p (by simp[hp])) _ _ w' ?_ ?_ (fun s hs=>?_) (fun p hp M o d x i bc z=>?_) (fun s hs=>?_) hv
     ·simp only[List.mem_append,List.mem_singleton,ab q' a5];omega
     ·cases g:os[q].dst<;>simp[put,hl]
     ·cases g:os[q].dst<;>simp[put,bb]
     ·have hb:l[s]? =lf[s]? ∨os[q].dst=some s:=by
       left
       refine aq s fun p hp M o i=>?_
       rcases List.mem_cons.1 hp with rfl | hp
       ·omega
       ·exact hs p hp M o i
      cases g:os[q].dst with
      | none=>
       rcases hb with hb | hb
       ·exact hb
       ·rw[g] at hb;cases hb
      | some d=>
       simp only[put]
       by_cases e:d=s
       ·subst e
        have ar:d<C.length:=hd d (by simp only[O5,List.mem_filterMap];exact ⟨os[q],List.getElem_mem _,g⟩)
        rw[List.getElem?_set_self (by rw[hl];exact ar),List.getElem?_set_self (by rw[bb];exact ar)]
       ·rw[List.getElem?_set_ne e,List.getElem?_set_ne e]
        rcases hb with hb | hb
        ·exact hb
        ·rw[g] at hb;cases hb;exact absurd rfl e
     ·have cc:=a2 p (by simp[hp]) M o d x i bc z
      cases g:os[q].dst with
      | none=>exact cc
      | some d'=>
       have Y:d'≠d:=by
        rintro rfl
        have:=Qm os hn p q o os[q] d' i A z g
        omega
       simp only[put]
       rw[List.getElem?_set_ne Y];exact cc
     ·cases g:os[q].dst with
      | none=>exact Z s hs
      | some d=>
       have aj:(O5 os).contains d=true:=by
        rw[List.contains_iff_mem];simp only[O5,List.mem_filterMap];exact ⟨os[q],List.getElem_mem _,g⟩
       simp only[put]
       rw[List.getElem?_set_ne (by rintro rfl;rw[hs] at aj;cases aj)]
       exact Z s hs
 intro f
 induction f with
 | nil=>
  intro c E D l u w hA hB hΦ
  refine cr c [] E D ?_ l u w hA hB hΦ
  intro q hq
  rw[List.append_nil] at E
  refine Classical.byContradiction fun aw=>?_
  have J:=H8 os.length (q::c) (List.nodup_cons.2 ⟨aw,E▸H⟩) (fun k hk=>by
   rcases List.mem_cons.1 hk with rfl | hk
   ·omega
   ·exact ac k (by rw[E];exact hk))
  simp at J
  rw[E] at bk;omega
 | cons q f ih=>
  intro c E D l u w hA hB hΦ
  have O:q∉c:=by
   rw[E] at H
   intro h
   exact (List.nodup_append.1 H).2.2 q h q (by simp) rfl
  have W:=ac q (by rw[E];simp)
  by_cases aa:m≤q
  ·-- the tail begins
   have ak: ∀p,p<m→p∉c→Lb os p=true:=fun p hp bs=>by
    rcases al q aa W p (by omega) with h | h
    ·exact absurd (hC c q f E p h (by omega)) bs
    ·exact h.2
   have bf: ∀p,Lb os p=true→ ∀o,os[p]? =some o→ ∃x,mv o=some x∧ ∀s,x= .tmp s→(O5 os).contains s=false:=by
    intro p hp o i
    unfold Lb at hp
    rw[i] at hp
    simp only at hp
    cases N:mv o with
    | none=>rw[N] at hp;cases hp
    | some x=>
     refine ⟨x,rfl,fun s hs=>?_⟩
     subst hs
     rw[N] at hp;simpa using hp
   obtain ⟨g1,g2⟩:=Eb hn ba m hm
   have bh: ∀s,(O5 os).contains s=false→ ∀(p:Nat) o,os[p]? =some o→o.dst≠some s:=by
    intro s hs p o i z
    have:(O5 os).contains s=true:=by
     rw[List.contains_iff_mem];simp only[O5,List.mem_filterMap]
     exact ⟨o,List.mem_of_getElem? i,z⟩
    rw[hs] at this;cases this
   refine ca (q::f) c m E (Nat.le_refl _) hm (fun q' a5=>⟨fun e=>D q' e,fun e=>absurd a5 (by omega)⟩) (fun p hp M=>ak p M fun e=>by
    rw[E] at H
    exact (List.nodup_append.1 H).2.2 p e p hp rfl) l (G5 u (W8 (C.map .val) 0 (os.take m))) w hA.len (by simp[G5,Bx os _ m hm]) (fun s hs=>?_) (fun p hp M o d x i bc z=>?_) (fun s hs=>?_) ?_
   ·rw[G5,List.getElem?_map]
    by_cases ap: ∃p,p<m∧ ∃o,os[p]? =some o∧o.dst=some s
    ·obtain ⟨p,hp,o,i,z⟩:=ap
     by_cases V:p∈c
     ·rw[hA.done p V o s i z,g1 p hp o s i z];rfl
     ·exfalso
      have b4:p∈L:=by
       refine Classical.byContradiction fun aw=>?_
       have J:=H8 os.length (p::L) (List.nodup_cons.2 ⟨aw,H⟩) (fun k hk=>by
        rcases List.mem_cons.1 hk with rfl | hk
        ·omega
        ·exact ac k hk)
       simp at J;omega
      rw[E] at b4
      rcases List.mem_append.1 b4 with h | h
      ·exact V h
      ·exact hs p h hp o i z
    ·have ad: ∀p,p<m→ ∀o,os[p]? =some o→o.dst≠some s:=fun p hp o i z=>ap ⟨p,hp,o,i,z⟩
     rw[hA.rest s (fun p hp=>ad p (D p hp)),g2 s ad,List.getElem?_map]
     cases C[s]? <;>rfl
   ·have V:p∉c:=fun e=>by
     rw[E] at H
     exact (List.nodup_append.1 H).2.2 p e p hp rfl
    rw[G5,List.getElem?_map,g1 p M o d i z]
    simp only[Option.map_some,Option.some.injEq]
    have X:I7 os (C.map .val) p=entOf (W8 (C.map .val) 0 (os.take p)) x:=by simp[I7,i,Dt,bc]
    rw[X]
    obtain ⟨x',b5,cw⟩:=bf p (ak p M V) o i
    rw[bc] at b5;cases b5
    cases x with
    | tmp s=>
     have hs:=cw s rfl
     obtain ⟨_,k2⟩:=Eb (S0:=C.map .val) hn ba p (by omega)
     simp only[entOf]
     rw[Sp,k2 s (fun p' _ o' bo=>bh s hs p' o' bo),List.getElem?_map]
     simp only[ev,get,List.getD_eq_getElem?_getD]
     cases C[s]? <;>rfl
    | _=>rfl
   ·exact hA.rest s fun p _ o i=>bh s hs p o i
   ·refine hW.last u w hB (by simp) fun k o hk t=>?_
    have a1:k<m:=by
     have:=(List.getElem?_eq_some_iff.1 hk).1
     simp at this;omega
    rw[Nat.zero_add]
    rw[U k a1] at hk
    refine (hΦ k (Classical.byContradiction fun bs=>?_) o hk t).1
    obtain ⟨x,hx,_⟩:=bf k (ak k a1 bs) o hk
    rw[t] at hx;cases hx
  ·have aa:q<m:=by omega
   have A:os[q]? =some os[q]:=List.getElem?_eq_getElem W
   obtain ⟨g1,g2⟩:=Eb (S0:=C.map .val) hn ba q (by omega)
   -- what a slot holds that this operation reads
   have ae: ∀s,(∃p o,os[p]? =some o∧o.dst=some s∧p<q∧an p q=true)∨s∈H1 os[q]→
    get l s=(getE (W8 (C.map .val) 0 (os.take q)) s).at u∧ ∀r,getE (W8 (C.map .val) 0 (os.take q)) s= .ref r→r∈c∧ ∃o,os[r]? =some o∧mv o=none:=by
    intro s hs
    have ad:(∀p∈c,∀o,os[p]? =some o→o.dst≠some s)→(∀p,p<q→ ∀o,os[p]? =some o→o.dst≠some s)→
     get l s=(getE (W8 (C.map .val) 0 (os.take q)) s).at u∧ ∀r,getE (W8 (C.map .val) 0 (os.take q)) s= .ref r→r∈c∧ ∃o,os[r]? =some o∧mv o=none:=by
     intro J R
     rw[Sp,g2 s R,List.getElem?_map]
     simp only[get,List.getD_eq_getElem?_getD,hA.rest s J]
     cases C[s]? with
     | none=>exact ⟨rfl,fun r hr=>by cases hr⟩
     | some v=>exact ⟨rfl,fun r hr=>by cases hr⟩
    have bg: ∀p o,os[p]? =some o→o.dst=some s→p<q→p∈c→
     get l s=(getE (W8 (C.map .val) 0 (os.take q)) s).at u∧ ∀r,getE (W8 (C.map .val) 0 (os.take q)) s= .ref r→r∈c∧ ∃o,os[r]? =some o∧mv o=none:=by
     intro p o hp i av V
     rw[Sp,g1 p av o s hp i]
     simp only[get,List.getD_eq_getElem?_getD,hA.done p V o s hp i,Option.getD_some]
     first | exact ⟨rfl,hA.refs p V⟩ | exact ⟨trivial,hA.refs p V⟩
    rcases hs with ⟨p,o,hp,i,av,hb⟩ | hs
    ·exact bg p o hp i av (hC c q f E p hb (by omega))
    ·by_cases ap: ∃(p:Nat) (o:Oper),os[p]? =some o∧o.dst=some s
     ·obtain ⟨p,o,hp,i⟩:=ap
      have cz:=(List.getElem?_eq_some_iff.1 hp).1
      have Z: ∀p' o',os[p']? =some o'→o'.dst=some s→p'=p:=fun p' o' J R=>Qm os hn p' p o' o s J hp R i
      rcases Nat.lt_trichotomy p q with h | h | h
      ·have hb:=af p q o os[q] h hp A (by simp only[I3,i,Bool.or_eq_true];left;left;simpa using hs)
       exact bg p o hp i h (hC c q f E p hb (by omega))
      ·subst h
       exact ad (fun p' ai o' J R=>by rw[Z p' o' J R] at ai;exact O ai) (fun p' ai o' J R=>by rw[Z p' o' J R] at ai;omega)
      ·refine ad (fun p' ai o' J R=>?_) (fun p' ai o' J R=>by rw[Z p' o' J R] at ai;omega)
       have e:=Z p' o' J R
       subst e
       have hb:=af q p' os[q] o' h A J (by simp only[I3,R,Bool.or_eq_true];right;left;simpa using hs)
       obtain ⟨p1,p2,V⟩:=List.append_of_mem ai
       have:=hC p1 p' (p2++q::f) (by rw[E,V];simp) q hb W
       exact O (by rw[V];exact List.mem_append_left _ this)
     ·exact ad (fun p _ o J R=>ap ⟨p,o,J,R⟩) (fun p _ o J R=>ap ⟨p,o,J,R⟩)
   have br: ∀s∈N2 ops os[q]++H1 os[q],(∃p o,os[p]? =some o∧o.dst=some s∧p<q∧an p q=true)∨s∈H1 os[q]:=by
    intro s hs
    rcases List.mem_append.1 hs with hs | hs
    ·left
     unfold N2 at hs
     split at hs
     ·simp at hs
     ·rename_i j b bl
      split at hs
      ·rename_i d bn
       simp only[List.mem_singleton] at hs
       subst hs
       obtain ⟨p,av,bu,hb⟩:=hg q os[q] j b A bl
       obtain ⟨o,i,z⟩:=Option.bind_eq_some_iff.1 bn
       exact ⟨p,o,by rw[bu,i],z,av,hb⟩
      ·simp at hs
    ·exact .inr hs
   have a0:=U q aa
   rw[A] at a0
   rw[List.filterMap_cons,A]
   simp only
   -- the state behind it
   have step: ∀(v:Value) (u':Nat→Value) (w':World),(∀p∈c,(I7 os (C.map .val) p).at u'=(I7 os (C.map .val) p).at u)→v=(I7 os (C.map .val) q).at u'→
    (∀r,I7 os (C.map .val) q= .ref r→r∈q::c∧ ∃o,os[r]? =some o∧mv o=none)→B w'→(∀r∈q::c,∀o,os[r]? =some o→mv o=none→Φ r u' w'∧ ∀j∈refs ops (W8 (C.map .val) 0 (os.take r)) o,j∈q::c)→
    Y5 P ops V0 (f.filterMap (os[·]?)) (put l os[q].dst v) w':=by
    intro v u' w' hu hv hr cx b0
    have Q: ∀x,x∈c++[q]↔x∈q::c:=by intro x;simp[or_comm]
    refine ih (c++[q]) (by rw[E];simp) (fun x hx=>by rcases List.mem_cons.1 ((Q x).1 hx) with rfl | hx;exact aa;exact D x hx) _ u' w' ?_ cx (fun r hr o i N=>⟨(b0 r ((Q r).1 hr) o i N).1,fun j hj=>(Q j).2 ((b0 r ((Q r).1 hr) o i N).2 j hj)⟩)
    have ay: ∀p∈c++[q],∀r,I7 os (C.map .val) p= .ref r→r∈c++[q]∧ ∃o,os[r]? =some o∧mv o=none:=by
     intro p hp r bm
     rcases List.mem_cons.1 ((Q p).1 hp) with rfl | hp
     ·exact ⟨(Q r).2 (hr r bm).1,(hr r bm).2⟩
     ·obtain ⟨J,R⟩:=hA.refs p hp r bm
      exact ⟨List.mem_append_left _ J,R⟩
    cases g:os[q].dst with
    | none=>
     refine ⟨hA.len,?_,?_,ay⟩
     ·intro p hp o d i z
      rcases List.mem_cons.1 ((Q p).1 hp) with rfl | hp
      ·rw[A] at i;cases i;rw[g] at z;cases z
      ·rw[hu p hp];exact hA.done p hp o d i z
     ·intro s hs;exact hA.rest s fun p hp=>hs p (List.mem_append_left _ hp)
    | some d0=>
     have ar:d0<C.length:=hd d0 (by simp only[O5,List.mem_filterMap];exact ⟨os[q],List.getElem_mem _,g⟩)
     refine ⟨by simp[put,hA.len],?_,?_,ay⟩
     ·intro p hp o d i z
      rcases List.mem_cons.1 ((Q p).1 hp) with rfl | hp2
      ·rw[A] at i;cases i
       rw[g] at z;cases z
       simp only[put]
       rw[List.getElem?_set_self (by rw[hA.len];exact ar),hv]
      ·have Y:d0≠d:=by
        rintro rfl
        have:=Qm os hn p q o os[q] d0 i A z g
        subst this;exact O hp2
       simp only[put]
       rw[List.getElem?_set_ne Y,hu p hp2]
       exact hA.done p hp2 o d i z
     ·intro s hs
      have Y:d0≠s:=fun e=>hs q (by simp) os[q] A (by rw[g,e])
      simp only[put]
      rw[List.getElem?_set_ne Y]
      exact hA.rest s fun p hp=>hs p (List.mem_append_left _ hp)
   cases t:mv os[q] with
   | some x=>
    have X:I7 os (C.map .val) q=entOf (W8 (C.map .val) 0 (os.take q)) x:=by simp[I7,A,Dt,t]
    -- a move: what the operand holds
    have hx:ev l x=(entOf (W8 (C.map .val) 0 (os.take q)) x).at u∧ ∀r,entOf (W8 (C.map .val) 0 (os.take q)) x= .ref r→r∈c∧ ∃o,os[r]? =some o∧mv o=none:=by
     cases x with
     | tmp s=>
      have hs:s∈H1 os[q]:=by
       unfold mv at t
       split at t
       ·cases t
       ·simp only[H1,List.mem_filterMap]
        split at t
        ·rename_i y hy;cases t;exact ⟨.tmp s,by rw[hy];simp[Op.operands],rfl⟩
        ·rename_i y hy;cases t;exact ⟨.tmp s,by rw[hy];simp[Op.operands],rfl⟩
        ·cases t
      exact ae s (.inr hs)
     | _=>exact ⟨rfl,fun r hr=>by cases hr⟩
    have a9:os[q].guard=none:=by
     unfold mv at t
     split at t
     ·cases t
     ·assumption
    simp only[Y5,a9]
    have ax:V5 P l os[q] w (fun v w=>Y5 P ops V0 (f.filterMap (os[·]?)) (put l os[q].dst v) w)=Y5 P ops V0 (f.filterMap (os[·]?)) (put l os[q].dst (ev l x)) w:=by
     unfold mv at t
     rw[a9] at t
     simp only at t
     split at t
     ·rename_i y hy;cases t;simp only[V5,hy]
     ·rename_i y hy;cases t;simp only[V5,hy]
     ·cases t
    rw[ax]
    refine step _ u w (fun _ _=>rfl) (by rw[X];exact hx.1) (fun r hr=>by
     rw[X] at hr
     obtain ⟨J,R⟩:=hx.2 r hr
     exact ⟨List.mem_cons_of_mem _ J,R⟩) hB (fun r hr o i N=>by
     rcases List.mem_cons.1 hr with rfl | hr
     ·rw[A] at i;cases i;rw[t] at N;cases N
     ·exact ⟨(hΦ r hr o i N).1,fun j hj=>List.mem_cons_of_mem _ ((hΦ r hr o i N).2 j hj)⟩)
   | none=>
    have X:I7 os (C.map .val) q= .ref q:=by simp[I7,A,Dt,t]
    have bi:=hW.run q os[q] a0 t (bp _ (List.getElem_mem _)) u w hB
    rw[a3 q (by omega),Nat.zero_add] at bi
    have cv:=hW.stable
    have bw:=bi (fun j hj=>by
     obtain ⟨s,hs,he⟩:=Hu (Ht hj)
     obtain ⟨J,o,R,h3⟩:=(ae s (br s hs)).2 j he
     exact (hΦ j J o R h3).1)
    have b2: ∀j∈refs ops (W8 (C.map .val) 0 (os.take q)) os[q],j∈c:=fun j hj=>by
     obtain ⟨s,hs,he⟩:=Hu (Ht hj)
     exact ((ae s (br s hs)).2 j he).1
    refine Q1C ?_
    rw[Q0d (bp _ (List.getElem_mem _)) (l':=G5 u (W8 (C.map .val) 0 (os.take q))) (fun s hs=>by rw[Bf];exact (ae s (br s hs)).1)]
    refine Q1y ?_ bw
    intro v w' ⟨b6,hφ⟩
    have Y: ∀r∈c,r≠q:=fun r hr e=>O (e▸hr)
    refine step v (fun n=>if n=q then v else u n) w' ?_ (by rw[X];simp[Ent.at]) (fun r hr=>by rw[X] at hr;cases hr;exact ⟨by simp,os[q],A,t⟩) (hT w w' hB b6) ?_
    ·intro p hp
     cases he:I7 os (C.map .val) p with
     | val x=>rfl
     | ref r=>
      have:=Y r (hA.refs p hp r he).1
      simp[Ent.at,this]
    ·intro r hr o i N
     rcases List.mem_cons.1 hr with rfl | hr
     ·rw[A] at i;cases i
      exact ⟨hφ _ (fun x hx=>by simp[Y x (b2 x hx)]) (by simp),fun j hj=>List.mem_cons_of_mem _ (b2 j hj)⟩
     ·obtain ⟨f1,f2⟩:=hΦ r hr o i N
      have b9:=D r hr
      have b7:=Y r hr
      have hl:=hW.loc r o (by rw[U r b9];exact i) N (fun n=>if n=q then v else u n) u (fun x hx=>by
       rw[a3 r (by omega),Nat.zero_add] at hx
       have:x≠q:=by
        rcases List.mem_cons.1 hx with rfl | hx
        ·exact b7
        ·exact Y x (f2 x hx)
       simp[this])
      have hs:=cv r o (by rw[U r b9];exact i) N
      rw[Nat.zero_add] at hs hl
      refine ⟨?_,fun j hj=>List.mem_cons_of_mem _ (f2 j hj)⟩
      rw[hl]
      exact hs _ _ _ f1 b6
def X13:Op→Bool
 | .move _ | .assign _ | .fieldAddr .. | .indexAddr .. | .field .. | .index .. | .binOp .. | .unOp .. | .extract .. | .pick .. | .makeFunc .. | .nilCheck _ | .slice .. =>true
 | _=>false
def ready (ops:List Oper) (a:List Nat) (j:Nat):Bool:=(G0 ops j).all (a.contains ·)
def X0C (ops:List Oper) (j:Nat):Bool:=match ops[j]? with | some o=>X13 o.op | none=>false
def Q6A (ops:List Oper):Nat→List Nat→List Nat→List Nat
 | 0,_,a=>a.reverse
 | n+1,b,a=>
  match b.find? (fun j=>X0C ops j&&ready ops a j) with
  | some j=>Q6A ops n (b.erase j) (j::a)
  | none=>match b.find? (ready ops a) with
   | some j=>Q6A ops n (b.erase j) (j::a)
   | none=>a.reverse
def S9 (ops:List Oper):List Nat:=Q6A ops ops.length (List.range ops.length) []
def I2 (ops:List Oper) (a:List Nat) (p q:Nat):Bool:=((Tq ops []).getD (a.getD q 0) 0).testBit (a.getD p 0)
def J7 (ops:List Oper) (a:List Nat):List Oper:=a.map fun i=>ops.getD i default
def cutA (ops:List Oper) (a:List Nat):Nat→Nat
 | 0=>0
 | j+1=>if (List.range j).all (fun i=>I2 ops a i j||Lb (J7 ops a) i) then cutA ops a j else j+1
def X1B (ops:List Oper) (a:List Nat) (c n:Nat):Bool:=(List.range n).all fun q=>(List.range q).all fun p=>decide (p<c)||I2 ops a p q
def Dd (ops:List Oper) (a:List Nat) (n:Nat):Nat:=if X1B ops a (cutA ops a n) n then cutA ops a n else n
theorem Q2F (ops:List Oper) (a:List Nat): ∀n,cutA ops a n≤n∧ ∀q,cutA ops a n≤q→q<n→ ∀p,p<q→I2 ops a p q=true∨Lb (J7 ops a) p=true
 | 0=>⟨Nat.le_refl _,fun q _ h=>by omega⟩
 | j+1=>by
  obtain ⟨g,f⟩:=Q2F ops a j
  simp only[cutA]
  split
  ·rename_i h
   refine ⟨by omega,fun q d b p c=>?_⟩
   by_cases e:q=j
   ·subst e
    simpa using List.all_eq_true.1 h p (by simpa using c)
   ·exact f q d (by omega) p c
  ·exact ⟨Nat.le_refl _,fun q d b=>by omega⟩
theorem Q6R (ops:List Oper) (a:List Nat) (n:Nat):Dd ops a n≤n∧ ∀q,Dd ops a n≤q→q<n→ ∀p,p<q→I2 ops a p q=true∨(p<Dd ops a n∧Lb (J7 ops a) p=true):=by
 obtain ⟨g,i⟩:=Q2F ops a n
 unfold Dd
 split
 ·rename_i f
  refine ⟨g,fun q e b p d=>?_⟩
  by_cases c:p<cutA ops a n
  ·exact (i q e b p d).imp id fun h=>⟨c,h⟩
  ·left
   have:=List.all_eq_true.1 (List.all_eq_true.1 f q (by simpa using b)) p (by simpa using d)
   simpa [c] using this
 ·exact ⟨Nat.le_refl _,fun q e b=>by omega⟩
def Q9p (ops:List Oper) (a:List Nat):Bool:=
 a.length==ops.length&&(List.range ops.length).all (a.contains ·)&&Yu a&&a.all (fun i=>decide (i<ops.length))&&
  (List.range ops.length).all fun q=>(List.range q).all fun p=> !I2 ops a q p
def Dm (ops:List Oper) (n:Nat):Bool:=
 Uw ops&&Q5l (Tq ops []) ops&&Yu (O5 (J7 ops (S9 ops)))&&(O5 (J7 ops (S9 ops))).all (fun d=>decide (d<n))&&
  (Xj .any ops (List.range ops.length)&&Xj .text ops (List.range ops.length)&&Xj .gc ops (X0M .gc ops ops.length (List.range ops.length) []))&&Q9p ops (S9 ops)
theorem Pr: ∀{l:List Nat},Yu l=true→l.Nodup
 | [],_=>List.nodup_nil
 | x::l,h=>by
  simp only[Yu,Bool.and_eq_true,Bool.not_eq_true'] at h
  exact List.nodup_cons.2 ⟨by simpa using h.1,Pr h.2⟩
theorem Q4k {ops:List Oper}: ∀(b:List Oper) (a:List Nat),a.length+b.length=ops.length→(∀k,a.length≤k→ops[k]? =b[k-a.length]?)→
 (∀j k,j<a.length→k∈G0 ops j→(a.getD j 0).testBit k=true)→ ∀j k,j<ops.length→k∈G0 ops j→((Tq b a).getD j 0).testBit k=true
 | [],a,i,_,c=>fun j k p d=>c j k (by simp at i;omega) d
 | o::b,a,i,f,c=>by
  have t:ops[a.length]? =some o:=by rw[f _ (Nat.le_refl _)];simp
  refine Q4k b _ (by simp at i⊢;omega) ?_ ?_
  ·intro k d
   simp only[List.length_append,List.length_cons,List.length_nil] at d⊢
   rw[f k (by omega)]
   obtain ⟨m,r⟩: ∃m,k-a.length=m+1:=⟨k-a.length-1,by omega⟩
   rw[r,List.getElem?_cons_succ]
   congr 1;omega
  ·intro j k p d
   simp only[List.length_append,List.length_cons,List.length_nil] at p
   by_cases g:j<a.length
   ·simp only[List.getD_eq_getElem?_getD,List.getElem?_append_left g]
    simpa only[List.getD_eq_getElem?_getD] using c j k g d
   ·have n:j=a.length:=by omega
    subst n
    simp only[List.getD_eq_getElem?_getD,List.getElem?_append_right (Nat.le_refl _),Nat.sub_self,List.getElem?_cons_zero,Option.getD_some]
    unfold G0 at d
    rw[t] at d
    simp only[Option.map_some,Option.getD_some,List.mem_map] at d
    obtain ⟨e,q,rfl⟩:=d
    have key: ∀(l:List Edge) (s:Nat),(e∈l∨s.testBit e.on=true)→(l.foldl (fun s e=>s ||| 2 ^ e.on ||| (a[e.on]?).getD 0) s).testBit e.on=true:=by
     intro l
     induction l with
     | nil=>intro s h;simpa using h
     | cons x l u=>
      intro s h
      refine u _ ?_
      rcases h with h | h
      ·rcases List.mem_cons.1 h with rfl | h
       ·right;simp
       ·exact .inl h
      ·right;simp[h]
    exact key _ _ (.inl q)
theorem Eh {α β:Type} {f g:α→Option β}: ∀{l:List α},(∀x∈l,f x=g x)→l.filterMap f=l.filterMap g
 | [],_=>rfl
 | x::l,h=>by
  rw[List.filterMap_cons,List.filterMap_cons,h x (by simp),Eh fun y a=>h y (by simp[a])]
structure Arr (ops : List Oper) (ord : List Nat) (L : List Nat) : Prop where
  hpl : ∀ o ∈ J7 ops ord, A9 o.op = true
  hclash : ∀ p q a b, p < q → (J7 ops ord)[p]? = some a → (J7 ops ord)[q]? = some b → (I3 a b || I3 b a) = true → I2 ops ord p q = true
  hg : ∀ q o j b, (J7 ops ord)[q]? = some o → o.guard = some (j, b) → ∃ p, p < q ∧ (J7 ops ord)[p]? = ops[j]? ∧ I2 ops ord p q = true
  hn : L.Nodup
  hlt : ∀ q ∈ L, q < (J7 ops ord).length
  hC : ∀ pre q post, L = pre ++ q :: post → ∀ p, I2 ops ord p q = true → p < (J7 ops ord).length → p ∈ pre
  hLl : L.length = (J7 ops ord).length
theorem Q2p {ops:Array Oper} {n:Nat} (ad:Dm ops.toList n=true) (b:Bool) (t:Nat): ∃L,(Region.schedule b ops t).filterMap (ops[·]?)=L.filterMap ((J7 ops.toList (S9 ops.toList))[·]?)∧Arr ops.toList (S9 ops.toList) L∧(J7 ops.toList (S9 ops.toList)).length=ops.toList.length:=by
 simp only[Dm,Bool.and_eq_true] at ad
 obtain ⟨⟨⟨⟨⟨Y,hc⟩,hn⟩,hd⟩,⟨be,bc⟩,bg⟩,N⟩:=ad
 generalize S9 ops.toList=c at*
 simp only[Q9p,Bool.and_eq_true,beq_iff_eq] at N
 obtain ⟨⟨⟨⟨ag,X⟩,a0⟩,M⟩,E⟩:=N
 have am:=Pr a0
 have ak:(J7 ops.toList c).length=ops.toList.length:=by simp[J7,ag]
 have f: ∀p,p<ops.toList.length→c.getD p 0<ops.toList.length:=by
  intro p V
  simp only[List.getD_eq_getElem?_getD]
  rw[List.getElem?_eq_getElem (by omega)]
  have:=List.all_eq_true.1 M c[p] (List.getElem_mem _)
  simpa using this
 have d: ∀p,p<ops.toList.length→(J7 ops.toList c)[p]? =ops.toList[c.getD p 0]? :=by
  intro p V
  have r:=f p V
  simp only[List.getD_eq_getElem?_getD] at r
  rw[List.getElem?_eq_getElem (by omega:p<c.length)] at r
  simp only[Option.getD_some] at r
  simp only[J7,List.getElem?_map,List.getD_eq_getElem?_getD]
  rw[List.getElem?_eq_getElem (by omega:p<c.length)]
  simp only[Option.map_some,Option.getD_some]
  rw[List.getElem?_eq_getElem r]
  simp
 obtain ⟨ai,R,w⟩:=Q2T b ops t Y (fun m=>by cases m<;>exact ⟨_,by assumption⟩)
 have l:=Q0u b ops t
 generalize Region.schedule b ops t=L0 at ai R w l⊢
 have v: ∀i,i<ops.toList.length→i∈c:=fun i A=>by simpa using List.all_eq_true.1 X i (by simpa using A)
 have g: ∀i,i<ops.toList.length→c.idxOf i<ops.toList.length∧c.getD (c.idxOf i) 0=i:=by
  intro i A
  have r:=List.idxOf_lt_length_of_mem (v i A)
  refine ⟨by omega,?_⟩
  simp only[List.getD_eq_getElem?_getD]
  rw[List.getElem?_eq_getElem r]
  simp
 have s: ∀p,p<ops.toList.length→c.idxOf (c.getD p 0)=p:=by
  intro p V
  simp only[List.getD_eq_getElem?_getD]
  rw[List.getElem?_eq_getElem (by omega:p<c.length)]
  simp only[Option.getD_some]
  exact List.Nodup.idxOf_getElem am p (by omega)
 have ab: ∀p q,p<q→q<ops.toList.length→I2 ops.toList c q p=false:=by
  intro p q U u
  have:=List.all_eq_true.1 (List.all_eq_true.1 E q (by simpa using u)) p (by simpa using U)
  simpa using this
 have ar:L0.filterMap (ops[·]?)=(L0.map (c.idxOf ·)).filterMap ((J7 ops.toList c)[·]?):=by
  rw[List.filterMap_map]
  refine Eh fun i A=>?_
  have:=l i A
  have r:=g i (by simpa using this)
  simp only[Function.comp]
  rw[d _ r.1,r.2]
  simp
 refine ⟨L0.map (c.idxOf ·),ar,⟨?_,?_,?_,?_,?_,?_,by simp[R,ag,J7]⟩,ak⟩
 ·intro o ho
  simp only[J7,List.mem_map] at ho
  obtain ⟨i,A,rfl⟩:=ho
  have B:i<ops.toList.length:=by simpa using List.all_eq_true.1 M i A
  simp only[Uw,List.all_eq_true,Bool.and_eq_true] at Y
  have:=(Y (ops.toList[i],i) (by rw[List.mem_zipIdx_iff_getElem?];simpa using B)).1.1
  rw[List.getD_eq_getElem?_getD,List.getElem?_eq_getElem B]
  exact this
 ·intro p q a b' U ha D J
  have V:p<ops.toList.length:=by have:=(List.getElem?_eq_some_iff.1 ha).1;omega
  have u:q<ops.toList.length:=by have:=(List.getElem?_eq_some_iff.1 D).1;omega
  rw[d p V] at ha
  rw[d q u] at D
  have aa: ∀i i' x x',i<i'→ops.toList[i]? =some x→ops.toList[i']? =some x'→(I3 x x'||I3 x' x)=true→((Tq ops.toList []).getD i' 0).testBit i=true:=by
   intro i i' x x' a6 hx a2 J
   simp only[Q5l,List.all_eq_true] at hc
   have:=hc (x',i') (by rw[List.mem_zipIdx_iff_getElem?];simpa using a2) (x,i) (by rw[List.mem_zipIdx_iff_getElem?];simpa using hx)
   simp only[a6,J,decide_true,Bool.not_true,Bool.false_or,Bool.or_self] at this
   exact this
  have af:c.getD p 0≠c.getD q 0:=by
   intro e
   have:=s p V
   rw[e,s q u] at this
   omega
  rcases Nat.lt_or_gt_of_ne af with h | h
  ·exact aa _ _ a b' h ha D J
  ·have r:=aa _ _ b' a h D ha (by rw[Bool.or_comm];exact J)
   have C:=ab p q U u
   unfold I2 at C
   rw[r] at C;cases C
 ·intro q o j b' u a1
  have H:q<ops.toList.length:=by have:=(List.getElem?_eq_some_iff.1 u).1;omega
  rw[d q H] at u
  have Q:j∈G0 ops.toList (c.getD q 0):=by
   have ac:=Y
   simp only[Uw,List.all_eq_true,Bool.and_eq_true] at ac
   have:=(ac (o,c.getD q 0) (by rw[List.mem_zipIdx_iff_getElem?];simpa using u)).2
   rw[a1] at this
   simp only[List.any_eq_true] at this
   obtain ⟨e,a5,ax⟩:=this
   unfold G0
   rw[u]
   simp only[Option.map_some,Option.getD_some,List.mem_map]
   exact ⟨e,a5,by simpa using ax⟩
  have az:=Cl Y _ (f q H) j Q
  have hj:j<ops.toList.length:=by have:=f q H;omega
  have D:=Q4k (ops:=ops.toList) ops.toList [] (by simp) (by simp) (by intro j k hj;simp at hj) _ j (f q H) Q
  obtain ⟨r,C⟩:=g j hj
  have O:I2 ops.toList c (c.idxOf j) q=true:=by unfold I2;rw[C];exact D
  refine ⟨c.idxOf j,?_,by rw[d _ r,C],O⟩
  rcases Nat.lt_trichotomy (c.idxOf j) q with h | h | h
  ·exact h
  ·rw[←h,C] at az;omega
  ·have:=ab q _ h r
   rw[O] at this;cases this
 ·refine List.pairwise_map.2 (ai.imp_of_mem ?_)
  intro x y hx hy ao aw
  have r:=(g x (by simpa using l x hx)).2
  have C:=(g y (by simpa using l y hy)).2
  exact ao (by rw[←r,←C,aw])
 ·intro q u
  simp only[List.mem_map] at u
  obtain ⟨i,A,rfl⟩:=u
  have:=(g i (by simpa using l i A)).1
  omega
 ·intro bd q bb hL p D V
  rw[List.map_eq_append_iff] at hL
  obtain ⟨ah,av,al,Z,z⟩:=hL
  rw[List.map_eq_cons_iff] at z
  obtain ⟨i,W,hr,A,aq⟩:=z
  subst hr A Z
  have B:i<ops.toList.length:=by simpa using l i (by rw[al];simp)
  obtain ⟨r,C⟩:=g i B
  unfold I2 at D
  rw[C] at D
  have a4:p<ops.toList.length:=by omega
  have:=Q3j Y w i B (c.getD p 0) ah W al D
  rw[List.mem_map]
  exact ⟨c.getD p 0,this,s p a4⟩
theorem Q9Q (P:Program) (ops:Array Oper) (T:World→World→Prop) (B:World→Prop) (V0:List Value→World→Prop) (i:List Value) (g:Dm ops.toList i.length=true)
 (C: ∀w w',B w→T w w'→B w')
 (h:chain P ops.toList T B V0 ((J7 ops.toList (S9 ops.toList)).drop (Dd ops.toList (S9 ops.toList) ops.toList.length)) 0
  ((J7 ops.toList (S9 ops.toList)).take (Dd ops.toList (S9 ops.toList) ops.toList.length)) (i.map .val) [] [])
 (b:Bool) (t:Nat) (w:World) (J:B w):Y5 P ops.toList V0 ((Region.schedule b ops t).filterMap (ops[·]?)) i w:=by
 obtain ⟨L,n,f,o⟩:=Q2p g b t
 simp only[Dm,Bool.and_eq_true] at g
 obtain ⟨⟨⟨⟨⟨k,Q⟩,N⟩,E⟩,⟨D,u⟩,H⟩,r⟩:=g
 generalize S9 ops.toList=a at*
 obtain ⟨Φ,_,y⟩:=Pg P ops.toList T B V0 _ _ 0 (i.map .val) [] [] (by intro e k j s;simp only[List.mem_map] at k;obtain ⟨v,_,rfl⟩:=k;cases s) (by simp) (by simp[Zw]) h
 rw[n]
 obtain ⟨l,c⟩:=Q6R ops.toList a ops.toList.length
 exact X1F (os:=J7 ops.toList a) (m:=Dd ops.toList a ops.toList.length) (T:=T) (B:=B) (Φ:=Φ) (I2 ops.toList a) f.hpl N (fun d z=>by simpa using List.all_eq_true.1 E d z) f.hclash f.hg (by omega)
  (fun q O M p A=>c q O (by omega) p A) C y L f.hn f.hLl f.hlt f.hC _ [] rfl (by simp) i (fun _=>undef) w
  ⟨rfl,by simp,fun _ _=>rfl,by simp⟩ J (by simp)
def Zm {α:Type} (P:Program) (s:Sem α):Prop:= ∀w v w',s.run P w= .ok v w'→w'=w
section
variable {P : Program} {α β : Type}
theorem Wd (a:α):Zm P (Pure.pure a:Sem α):=fun w v w' h=>by simp at h;exact h.2.symm
theorem Q5a (m:String):Zm P (stuck m:Sem α):=fun w v w' h=>by simp at h
theorem Qu {s:Sem α} {f:α→Sem β} (d:Zm P s) (c: ∀a,Zm P (f a)):Zm P (s>>=f):=fun w v w' h=>by
 rw[Sem.run_bind] at h
 cases b:s.run P w with
 | halt x w1=>rw[b] at h;simp[Result.andThen] at h
 | ok a w1=>
  rw[b] at h
  have:=d _ _ _ b
  subst this
  exact c a _ _ _ h
theorem Q10 (a:Addr) (m:Mode):Zm P (load a m):=fun w v w' h=>by
 unfold load at h
 simp only[Sem.run] at h
 split at h
 ·cases h;rfl
 ·split at h
  ·cases h;rfl
  ·cases h
theorem Q1X (t:TypeId):Zm P (typeInfo t):=fun w v w' h=>by
 unfold typeInfo at h
 simp only[Sem.run_bind,run_program,Result.andThen_ok] at h
 split at h<;>simp at h
 exact h.2.symm
theorem Q0O (t:TypeId):Zm P (underlying t):=fun w v w' h=>by
 unfold underlying at h
 simp only[Sem.run_bind,run_program,Result.andThen_ok] at h
 split at h<;>simp at h
 exact h.2.symm
theorem Q4K (t:TypeId):Zm P (isAgg t):=by
 unfold isAgg
 refine Qu (Q0O t) fun d=>?_
 split<;>exact Wd _
theorem Q4B (t:TypeId):Zm P (sizeOf t):=Qu (Q1X t) fun _=>Wd _
theorem Q0q (a:Addr): ∀(n i:Nat) (b:Array Value),Zm P (loadCellsFrom a i n b)
 | 0,i,b=>Wd _
 | n+1,i,b=>Qu (Q10 _ _) fun v=>Q0q a n (i+1) _
theorem Q30 (t:TypeId) (a:Addr):Zm P (loadVar t a):=by
 unfold loadVar
 refine Qu (Q4K t) fun b=>?_
 split
 ·exact Qu (Q4B t) fun n=>Qu (Q0q a n 0 #[]) fun cs=>Wd _
 ·exact Q10 _ _
theorem Q43 (t:TypeId) (v:Value):Zm P (Instr.loadAt t v):=by
 unfold Instr.loadAt
 refine Qu ?_ fun a=>Q30 t a
 unfold Instr.sureAddr
 split
 ·exact Wd _
 ·exact Q5a _
def Zs (P:Program) (s:Sem α):Prop:= ∀w v w1,s.run P w= .ok v w1→w1=w∧ ∀w',s.run P w'= .ok v w'
theorem Ys (a:α):Zs P (Pure.pure a:Sem α):=fun w v w' h=>by simp at h⊢;exact ⟨h.2.symm,h.1⟩
theorem Vp (m:String):Zs P (stuck m:Sem α):=fun w v w' h=>by simp at h
theorem K0 {s:Sem α} {f:α→Sem β} (i:Zs P s) (g: ∀a,Zs P (f a)):Zs P (s>>=f):=fun w v w' h=>by
 rw[Sem.run_bind] at h
 cases b:s.run P w with
 | halt x w1=>rw[b] at h;simp[Result.andThen] at h
 | ok a w1=>
  rw[b] at h
  obtain ⟨rfl,j⟩:=i _ _ _ b
  obtain ⟨e,d⟩:=g a _ _ _ h
  refine ⟨e,fun c=>?_⟩
  rw[Sem.run_bind,j c]
  exact d c
theorem Q2X (t:TypeId):Zs P (typeInfo t):=fun w v w' h=>by
 unfold typeInfo at h⊢
 simp only[Sem.run_bind,run_program,Result.andThen_ok] at h⊢
 split at h<;>simp at h
 rename_i i a
 refine ⟨h.2.symm,fun w'=>?_⟩
 simp[a,h.1]
theorem Hz (t:TypeId):Zs P (underlying t):=fun w v w' h=>by
 unfold underlying at h⊢
 simp only[Sem.run_bind,run_program,Result.andThen_ok] at h⊢
 split at h<;>simp at h
 rename_i i a
 refine ⟨h.2.symm,fun w'=>?_⟩
 simp[a,h.1]
theorem Pc (v:Value) (i:Nat):Zs P (Instr.extract v i):=by
 unfold Instr.extract
 split
 ·split
  ·exact Ys _
  ·exact Vp _
 ·exact Vp _
theorem Q72 (v:Value):Zs P (Instr.sureAddr v):=by
 unfold Instr.sureAddr
 split
 ·exact Ys _
 ·exact Vp _
theorem Q20 {s:Sem α} (h: ∀w v w',s.run P w≠ .ok v w'):Zs P s:=fun w v w' e=>absurd e (h w v w')
theorem Q2a {s:Sem α} {f:α→Sem β} (c: ∀a w v w',(f a).run P w≠ .ok v w'): ∀w v w',(s>>=f).run P w≠ .ok v w':=fun w v w' h=>by
 rw[Sem.run_bind] at h
 cases b:s.run P w with
 | halt x w1=>rw[b] at h;simp[Result.andThen] at h
 | ok a w1=>rw[b] at h;exact c a _ _ _ h
theorem Q1q (e:Int×Int×Bool×BoundsCode): ∀w v w',(runtimePanic (.bounds e.1 e.2.1 e.2.2.1 e.2.2.2):Sem α).run P w≠ .ok v w':=by
 unfold runtimePanic
 exact Q2a fun p=>fun w v w' h=>by cases h
theorem Q0r (k:IntKind) (x y:Int) (c:BoundsCode):Zs P (boundsPanic k x y c:Sem α):=Q20 (by
 unfold boundsPanic
 dsimp only
 split
 ·exact Q2a fun b=>Q1q (_,_,_,_)
 ·exact Q2a fun b=>Q1q (_,_,_,_))
theorem Pm (t:TypeId) (x i:Value):Zs P (Instr.indexAt t x i):=by
 unfold Instr.indexAt
 refine K0 ?_ fun q=>?_
 ·unfold asIntOf
  split
  ·exact Ys _
  ·exact Q20 fun w v w' h=>by cases h
  ·exact Vp _
 refine K0 (Hz t) fun d=>?_
 dsimp only
 have key: ∀(z:Option Addr×Nat×TypeId),Zs P (match z with
  | (base,b,elem)=>do
   let __do_lift←underlying t
   have c:Bool:=decide (b≤1)&&match __do_lift with
    | TypeDesc.array b elem=>true
    | x=>false
   match base with
    | some a=>
     if 0≤q.snd∧q.snd< ↑b then do
      let __do_lift←sizeOf elem
      pure (Value.pointer (some (a.add (q.snd.toNat*__do_lift))))
     else
      if c=true then unsupported (Unsupported.noEntry "op/indexAddr.an index out of range at an array of length 0 or 1 (ledger 616)")
      else boundsPanic q.fst q.snd (↑b) BoundsCode.index
    | none=>boundsPanic q.fst q.snd 0 BoundsCode.index):=by
  rintro ⟨base,b,elem⟩
  dsimp only
  refine K0 (Hz t) fun g=>?_
  cases base with
  | none=>exact Q0r _ _ _ _
  | some a=>
   dsimp only
   by_cases e:0≤q.snd∧q.snd< ↑b
   ·rw[if_pos e]
    exact K0 (K0 (Q2X _) fun _=>Ys _) fun n=>Ys _
   ·rw[if_neg e]
    by_cases f:(decide (b≤1)&&match g with
     | TypeDesc.array b elem=>true
     | x=>false)=true
    ·rw[if_pos f]
     exact Q20 fun w v w' h=>by cases h
    ·rw[if_neg f]
     exact Q0r _ _ _ _
 split
 ·exact K0 (Q72 _) fun a=>K0 (Ys _) key
 ·exact K0 (Ys _) key
 ·exact K0 (Vp _) key
def Q1R (o:Oper):Bool:=match o.op with | .move _ | .assign _ | .load .. | .extract .. | .indexAddr .. =>true | _=>false
def Q6t (o:Oper):Bool:=match o.op with | .move _ | .assign _ | .extract .. | .indexAddr .. =>true | _=>false
theorem Q0X {s:Sem Value} {w:World} {K:Value→World→Prop} (h:op P (sv s) w K): ∃v w',s.run P w= .ok v w'∧K v w':=by
 rw[T1] at h
 unfold K1 sv at h
 rw[Sem.run_bind] at h
 cases a:s.run P w with
 | halt x w1=>rw[a] at h;exact h.elim
 | ok v w1=>rw[a] at h;exact ⟨v,w1,rfl,h⟩
theorem Q1k {s:Sem Value} {v:Value} {w w':World} {K:Value→World→Prop} (h:s.run P w= .ok v w') (k:K v w'):op P (sv s) w K:=by
 rw[T1]
 unfold K1 sv
 rw[Sem.run_bind,h]
 exact k
theorem Q4g {l:List Value} {o:Oper} {w:World} {K:Value→World→Prop} (h:Q1R o=true) (e:V5 P l o w K): ∃v,K v w∧ ∀c,c v w→V5 P l o w c:=by
 obtain ⟨d,p,i,pos,j,g⟩:=o
 cases p<;>(first | (simp[Q1R] at h;done) | skip)<;>simp only[V5] at e⊢
 ·exact ⟨_,e,fun c a=>a⟩
 ·exact ⟨_,e,fun c a=>a⟩
 ·obtain ⟨v,w',b,f⟩:=Q0X e
  have:=Q43 _ _ _ _ _ b
  subst this
  exact ⟨v,f,fun c a=>Q1k b a⟩
 ·obtain ⟨v,w',b,f⟩:=Q0X e
  have:=(Pm _ _ _ _ _ _ b).1
  subst this
  exact ⟨v,f,fun c a=>Q1k b a⟩
 ·obtain ⟨v,w',b,f⟩:=Q0X e
  have:=(Pc _ _ _ _ _ b).1
  subst this
  exact ⟨v,f,fun c a=>Q1k b a⟩
theorem Q4f {l:List Value} {o:Oper} {w:World} {K:Value→World→Prop} (h:Q6t o=true) (c:V5 P l o w K): ∃v,K v w∧ ∀w' b,b v w'→V5 P l o w' b:=by
 obtain ⟨d,p,j,pos,k,g⟩:=o
 cases p<;>(first | (simp[Q6t] at h;done) | skip)<;>simp only[V5] at c⊢
 ·exact ⟨_,c,fun w' b a=>a⟩
 ·exact ⟨_,c,fun w' b a=>a⟩
 ·obtain ⟨v,w',e,i⟩:=Q0X c
  obtain ⟨rfl,f⟩:=Pm _ _ _ _ _ _ e
  exact ⟨v,i,fun w' b a=>Q1k (f w') a⟩
 ·obtain ⟨v,w',e,i⟩:=Q0X c
  obtain ⟨rfl,f⟩:=Pc _ _ _ _ _ e
  exact ⟨v,i,fun w' b a=>Q1k (f w') a⟩
end
structure Swap (ops : List Oper) (a b : Oper) : Prop where
  pa : A9 a.op = true
  pb : A9 b.op = true
  ga : a.guard = none
  ab : ∀ d, a.dst = some d → d ∉ N2 ops b ++ H1 b
  ba : ∀ d, b.dst = some d → d ∉ N2 ops a ++ H1 a
  dd : ∀ d, a.dst = some d → b.dst ≠ some d
  gb : ∀ j c, b.guard = some (j, c) → ((ops[j]?).bind (·.dst)).isSome = true
  rd : (Q1R a = true ∧ Q1R b = true ∧ b.guard = none) ∨ Q6t a = true
section
variable {P : Program} {ops : List Oper} {V0 : List Value → World → Prop}
theorem Q0I {l:List Value} {d:Option Nat} {v:Value} {s:Nat} (h: ∀e,d=some e→e≠s):get (put l d v) s=get l s:=by
 cases d with
 | none=>rfl
 | some e=>simp only[put,get,List.getD_eq_getElem?_getD,List.getElem?_set_ne (h e rfl)]
theorem Q7F {l:List Value} {d e:Option Nat} {v u:Value} (h: ∀x,d=some x→e≠some x):put (put l d v) e u=put (put l e u) d v:=by
 cases d with
 | none=>rfl
 | some d=>cases e with
  | none=>rfl
  | some e=>simp only[put];exact List.set_comm _ _ (by intro a;subst a;exact h d rfl rfl)
theorem Q2s {o:Oper} {s:Nat} (a:Operand.tmp s∈o.op.operands):s∈H1 o:=by
 simp only[H1,List.mem_filterMap]
 exact ⟨.tmp s,by simpa using a,rfl⟩
theorem Q56 {a b:Oper} {R:List Oper} {l:List Value} {w:World} (V:Swap ops a b) (h:Y5 P ops V0 (a::b::R) l w):Y5 P ops V0 (b::a::R) l w:=by
 obtain ⟨pa,Q,L,J,U,X,O,C⟩:=V
 have r: ∀v,V5 P (put l a.dst v) b=V5 P l b:=fun v=>My Q fun x A=>by
  cases x with
  | tmp s=>exact Q0I fun e k f=>J e k (List.mem_append_right _ (f▸Q2s A))
  | _=>rfl
 have n: ∀v,V5 P (put l b.dst v) a=V5 P l a:=fun v=>My pa fun x A=>by
  cases x with
  | tmp s=>exact Q0I fun e k f=>U e k (List.mem_append_right _ (f▸Q2s A))
  | _=>rfl
 have o: ∀v u,put (put l b.dst u) a.dst v=put (put l a.dst v) b.dst u:=fun v u=>(Q7F X).symm
 simp only[Y5,L] at h⊢
 cases m:b.guard with
 | none=>
  simp only[m] at h⊢
  rcases C with ⟨N,M,_⟩ | fa
  ·obtain ⟨B,g,i⟩:=Q4g N h
   rw[r] at g
   obtain ⟨D,Y,W⟩:=Q4g M g
   refine W _ ?_
   rw[n]
   exact i _ (by rw[o];exact Y)
  ·obtain ⟨B,g,i⟩:=Q4f fa h
   rw[r] at g
   refine C1 (fun D w' p=>?_) g
   rw[n]
   exact i w' _ (by rw[o];exact p)
 | some q=>
  obtain ⟨j,c⟩:=q
  rcases C with ⟨_,_,H⟩ | fa
  ·rw[m] at H;cases H
  obtain ⟨d,E⟩:=Option.isSome_iff_exists.1 (O j c m)
  have t:d∈N2 ops b:=by simp[N2,m,E]
  have Z: ∀v,get (put l a.dst v) d=get l d:=fun v=>Q0I fun e k f=>J e k (List.mem_append_left _ (f▸t))
  simp only[m,E] at h⊢
  obtain ⟨B,g,i⟩:=Q4f fa h
  rw[r,Z] at g
  refine Tp ((Vd g).imp (fun ⟨z,y⟩=>⟨z,C1 (fun D w' p=>?_) y⟩) (fun ⟨z,y⟩=>⟨z,?_⟩))
  ·rw[n];exact i w' _ (by rw[o];exact p)
  ·rw[n];exact i w _ (by rw[o];exact y)
theorem Q0f {a:Oper} {R R':List Oper} {l:List Value} {w:World} (b: ∀l w,Y5 P ops V0 R l w→Y5 P ops V0 R' l w) (h:Y5 P ops V0 (a::R) l w):Y5 P ops V0 (a::R') l w:=by
 simp only[Y5] at h⊢
 cases i:a.guard with
 | none=>simp only[i] at h⊢;exact C1 (fun v w e=>b _ _ e) h
 | some q=>
  obtain ⟨j,c⟩:=q
  simp only[i] at h⊢
  cases k:(ops[j]?).bind (·.dst) with
  | none=>simp only[k] at h⊢;exact b _ _ h
  | some d=>
   simp only[k] at h⊢
   exact Tp ((Vd h).imp (fun ⟨g,f⟩=>⟨g,C1 (fun m w' e=>b _ _ e) f⟩) (fun ⟨g,f⟩=>⟨g,b _ _ f⟩))
theorem Kq {q:Oper} {R:List Oper}: ∀(A:List Oper) {l:List Value} {w:World},(∀a∈A,Swap ops a q)→Y5 P ops V0 (A++q::R) l w→Y5 P ops V0 (q::(A++R)) l w
 | [],_,_,_,h=>h
 | a::A,l,w,c,h=>Q56 (c a (by simp)) (Q0f (R:=A++q::R) (fun _ _ h=>Kq A (fun b d=>c b (by simp[d])) h) h)
theorem Vu: ∀(A:List Oper) {B:List Oper} {l:List Value} {w:World},Y5 P ops V0 (A++B) l w=Y5 P ops (fun l w=>Y5 P ops V0 B l w) A l w
 | [],B,l,w=>rfl
 | a::A,B,l,w=>by
  simp only[List.cons_append,Y5]
  split
  ·congr 1;funext v w;exact Vu A
  ·split
   ·congr 1;funext v w;exact Vu A
   ·exact Vu A
theorem Q6U {A B B':List Oper} {l:List Value} {w:World} (c: ∀l w,Y5 P ops V0 B l w→Y5 P ops V0 B' l w): ∀{l:List Value} {w:World},Y5 P ops V0 (A++B) l w→Y5 P ops V0 (A++B') l w:=by
 induction A with
 | nil=>exact fun h=>c _ _ h
 | cons a A b=>exact fun h=>Q0f (fun _ _ h=>b h) h
theorem Q5m (os:List Oper) (g:Nat→Nat→Bool) (s: ∀p q a b,p<q→os[p]? =some a→os[q]? =some b→g p q=false→Swap ops a b):
 ∀(n:Nat) (V0:List Value→World→Prop) (L:List Nat) (l:List Value) (w:World),L.Nodup→L.length=n→(∀q∈L,q<n)→n≤os.length→L.Pairwise (fun q p=>p<q→g p q=false)→
  Y5 P ops V0 (os.take n) l w→Y5 P ops V0 (L.filterMap (os[·]?)) l w
 | 0,V0,L,l,w,v,z,i,C,y,h=>by
  have:L=[]:=List.eq_nil_of_length_eq_zero z
  subst this;exact h
 | n+1,V0,L,l,w,v,z,i,C,y,h=>by
  have O:n∈L:=Classical.byContradiction fun o=>by
   have Q:=H8 n L v fun k J=>by
    have u:=i k J
    have N:k≠n:=fun e=>o (e▸J)
    omega
   omega
  obtain ⟨A,B,rfl⟩:=List.append_of_mem O
  have c:n<os.length:=by omega
  have d:os[n]? =some os[n]:=List.getElem?_eq_getElem c
  have m:=List.nodup_append.1 v
  have E:n∉B:=(List.nodup_cons.1 m.2.1).1
  have D:n∉A:=fun e=>m.2.2 n e n (by simp) rfl
  have U:os.take (n+1)=os.take n++[os[n]]:=(List.take_append_getElem c).symm
  rw[U,Vu] at h
  have r: ∀q∈A++B,q<n:=fun q M=>by
   have Q:q<n+1:=i q (by rcases List.mem_append.1 M with h | h<;>simp[h])
   have u:q≠n:=fun e=>by
    subst e
    rcases List.mem_append.1 M with h | h
    ·exact D h
    ·exact E h
   omega
  have f:(A++B).Sublist (A++n::B):=List.Sublist.append (List.Sublist.refl A) (List.sublist_cons_self n B)
  have u:=Q5m os g s n _ (A++B) l w (v.sublist f) (by simp at z⊢;omega) r (by omega) (y.sublist f) h
  rw[←Vu] at u
  rw[List.filterMap_append,List.append_assoc] at u
  rw[List.filterMap_append,List.filterMap_cons,d]
  refine Q6U (l:=l) (w:=w) (fun l w N=>?_) u
  have:=Kq (R:=[]) (B.filterMap (os[·]?)) (fun a W=>?_) N
  ·rwa [List.append_nil] at this
  ·obtain ⟨p,t,H⟩:=List.mem_filterMap.1 W
   have j:=r p (List.mem_append_right _ t)
   refine s p n a _ j H d ?_
   have V:=(List.pairwise_append.1 y).2.1
   exact (List.pairwise_cons.1 V).1 p t j
end
def Q9i (ops:List Oper) (a b:Oper):Bool:=
 (match a.guard with | none=>true | some _=>false)&&(match b.guard with | none=>true | some (j,_)=>match (ops[j]?).bind (·.dst) with | some _=>true | none=>false)&&
  ((Q1R a&&Q1R b&&(match b.guard with | none=>true | some _=>false))||Q6t a)
def X1D (o:Oper):Bool:=match o.op with | .call c=>(match c.callee with | .value (.func _)=>true | _=>false) | _=>false
def Q6C (ops:List Oper) (a:List Nat):Bool:=
 ops.any Q6v&&ops.any X1D&&(List.range ops.length).all fun q=>(List.range q).all fun p=>I2 ops a p q||Q9i ops (ops.getD (a.getD p 0) default) (ops.getD (a.getD q 0) default)
theorem Se {α:Type} {R:α→α→Prop}: ∀(a b:List α) {L:List α},L=b++a→(∀b q a,L=b++q::a→ ∀p∈a,R q p)→a.Pairwise R
 | [],_,_,_,_=>List.Pairwise.nil
 | q::a,b,L,c,h=>List.pairwise_cons.2 ⟨h b q a c,Se a (b++[q]) (by rw[c];simp) h⟩
theorem X0N (P:Program) (ops:Array Oper) (V0:List Value→World→Prop) (R:List Value) (D:Dm ops.toList R.length=true) (H:Q6C ops.toList (S9 ops.toList)=true)
 (b:Bool) (t:Nat) (w:World) (h:Y5 P ops.toList V0 (J7 ops.toList (S9 ops.toList)) R w):Y5 P ops.toList V0 ((Region.schedule b ops t).filterMap (ops[·]?)) R w:=by
 obtain ⟨L,W,m,af⟩:=Q2p D b t
 simp only[Dm,Bool.and_eq_true] at D
 obtain ⟨⟨⟨⟨⟨he,hc⟩,hn⟩,V⟩,⟨am,ak⟩,ax⟩,ai⟩:=D
 generalize S9 ops.toList=f at*
 rw[W]
 refine Q5m (J7 ops.toList f) (I2 ops.toList f) (fun p q a k B u r y=>?_) _ V0 L R w m.hn rfl (fun q hq=>by rw[m.hLl];exact m.hlt q hq) (by rw[m.hLl];exact Nat.le_refl _) ?_ (by rw[m.hLl,List.take_length];exact h)
 ·have Y:q<ops.toList.length:=by have:=(List.getElem?_eq_some_iff.1 r).1;omega
  have ao:p<ops.toList.length:=by omega
  have v: ∀i o,(J7 ops.toList f)[i]? =some o→ops.toList.getD (f.getD i 0) default=o:=by
   intro i o z
   unfold J7 at z
   rw[List.getElem?_map] at z
   cases ho:f[i]? with
   | none=>rw[ho] at z;cases z
   | some x=>
    rw[ho] at z
    simp only[Option.map_some,Option.some.injEq] at z
    rw[List.getD_eq_getElem?_getD (l:=f),ho];exact z
  have C:(I3 a k||I3 k a)=false:=by
   cases A:I3 a k||I3 k a with
   | false=>rfl
   | true=>rw[m.hclash p q a k B u r A] at y;cases y
  rw[Bool.or_eq_false_iff] at C
  simp only[Q6C,Bool.and_eq_true] at H
  have hs:=List.all_eq_true.1 (List.all_eq_true.1 H.2 q (by simpa using Y)) p (by simpa using B)
  rw[y,Bool.false_or,v p a u,v q k r] at hs
  simp only[Q9i,Bool.and_eq_true,Bool.or_eq_true] at hs
  obtain ⟨⟨g1,U⟩,g3⟩:=hs
  have N:a.guard=none:=by
   cases A:a.guard with
   | none=>rfl
   | some _=>rw[A] at g1;cases g1
  have c1: ∀d,a.dst=some d→d∉H1 k∧k.dst≠some d:=fun d V=>by
   have:=C.1
   unfold I3 at this
   rw[V] at this
   simp only[Bool.or_eq_false_iff] at this
   exact ⟨fun e=>by simp[e] at this,fun e=>by simp[e] at this⟩
  have c2: ∀d,k.dst=some d→d∉H1 a:=fun d V=>by
   have:=C.2
   unfold I3 at this
   rw[V] at this
   simp only[Bool.or_eq_false_iff] at this
   exact fun e=>by simp[e] at this
  refine ⟨m.hpl a (List.mem_of_getElem? u),m.hpl k (List.mem_of_getElem? r),N,fun d g=>?_,fun d g=>?_,fun d g=>(c1 d g).2,fun j c n=>?_,?_⟩
  ·rw[List.mem_append,not_or]
   refine ⟨fun e=>?_,(c1 d g).1⟩
   unfold N2 at e
   cases n:k.guard with
   | none=>rw[n] at e;simp at e
   | some q0=>
    obtain ⟨j,c⟩:=q0
    obtain ⟨p',aw,Q,O⟩:=m.hg q k j c r n
    rw[n] at e
    simp only at e
    cases s:ops.toList[j]?.map (·.dst) with
    | none=>
     cases J:ops.toList[j]? with
     | none=>rw[J] at e;simp at e
     | some oj=>rw[J] at s;cases s
    | some dj=>
     cases J:ops.toList[j]? with
     | none=>rw[J] at s;cases s
     | some oj=>
      rw[J] at e Q
      simp only[Option.bind_some] at e
      cases E:oj.dst with
      | none=>rw[E] at e;simp at e
      | some d2=>
       rw[E] at e
       simp only[List.mem_singleton] at e
       subst e
       have:=Qm (J7 ops.toList f) hn p' p oj a d Q u E g
       subst this
       rw[O] at y;cases y
  ·rw[List.mem_append,not_or]
   exact ⟨fun e=>by simp[N2,N] at e,c2 d g⟩
  ·rw[n] at U
   simp only at U
   cases A:(ops.toList[j]?).bind (·.dst) with
   | none=>rw[A] at U;cases U
   | some _=>rfl
  ·rcases g3 with ⟨⟨g3,g4⟩,g5⟩ | g3
   ·refine .inl ⟨g3,g4,?_⟩
    cases A:k.guard with
    | none=>rfl
    | some _=>rw[A] at g5;cases g5
   ·exact .inr g3
 ·refine Se L [] (L:=L) rfl fun Z q M X p hp B=>?_
  cases y:I2 ops.toList f p q with
  | false=>rfl
  | true=>
   have h1:=m.hC Z q M X p y (m.hlt p (by rw[X];simp[hp]))
   have h2:=m.hn
   rw[X] at h2
   exact absurd rfl ((List.nodup_append.1 h2).2.2 p h1 p (by simp[hp]))
theorem Q9l: ∃f:World→(World→Prop)→Prop,f=fun w A=>A w.drew:=⟨_,rfl⟩
noncomputable def sq:World→(World→Prop)→Prop:=Classical.choose Q9l
theorem X1p:sq=fun w A=>A w.drew:=Classical.choose_spec Q9l
def Q3a:List Ent→Nat→Ent→(List Ent→Prop)→Prop
 | [],_,_,k=>k []
 | _::l,0,e,k=>k (e::l)
 | x::l,n+1,e,k=>Q3a l n e (fun l'=>k (x::l'))
def Q3f (S:List Ent) (d:Option Nat) (e:Ent) (k:List Ent→Prop):Prop:=
 match d with
 | some d=>Q3a S d e k
 | none=>k S
def Q6k:List Ent→Nat→(Ent→Prop)→Prop
 | [],_,k=>k (.val undef)
 | x::_,0,k=>k x
 | _::l,n+1,k=>Q6k l n k
def Q7r (S:List Ent) (x:Operand) (k:Ent→Prop):Prop:=
 match x with
 | .tmp t=>Q6k S t k
 | .const v=>k (.val v)
 | .global g=>k (.val (.pointer (some ⟨g,0,none⟩)))
 | .func f=>k (.val (.func (.func f) #[] #[]))
def Au (u:Nat→Value):List Ent→(List Value→Prop)→Prop
 | [],k=>k []
 | .val v::S,k=>Au u S (fun l=>k (v::l))
 | .ref j::S,k=>Au u S (fun l=>k (u j::l))
def Q6G:List Value→(List Ent→Prop)→Prop
 | [],k=>k []
 | v::l,k=>Q6G l (fun S=>k (.val v::S))
theorem Q4v: ∀(S:List Ent) (n:Nat) (e:Ent) (k:List Ent→Prop),Q3a S n e k=k (Q0C S n e)
 | [],_,_,_=>rfl
 | _::_,0,_,_=>rfl
 | _::l,n+1,e,k=>by simp only[Q3a,Q0C,Q4v l n e]
theorem Q0D (S:List Ent) (d:Option Nat) (e:Ent) (k:List Ent→Prop):Q3f S d e k=k (putE S d e):=by
 cases d with
 | none=>rfl
 | some d=>exact Q4v S d e k
theorem Q4t: ∀(S:List Ent) (n:Nat) (k:Ent→Prop),Q6k S n k=k (getE S n)
 | [],_,_=>rfl
 | _::_,0,_=>rfl
 | _::l,n+1,k=>Q4t l n k
theorem Q78 (S:List Ent) (x:Operand) (k:Ent→Prop):Q7r S x k=k (entOf S x):=by
 cases x with
 | tmp t=>exact Q4t S t k
 | _=>rfl
theorem Q0M (u:Nat→Value): ∀(S:List Ent) (k:List Value→Prop),Au u S k=k (G5 u S)
 | [],_=>rfl
 | .val v::S,k=>by simp only[Au,Q0M u S];rfl
 | .ref j::S,k=>by simp only[Au,Q0M u S];rfl
theorem Q5o: ∀(l:List Value) (k:List Ent→Prop),Q6G l k=k (l.map .val)
 | [],_=>rfl
 | v::l,k=>by simp only[Q6G,Q5o l];rfl
noncomputable def Dn (P:Program) (ops:List Oper) (T:World→World→Prop) (B:World→Prop) (V0:List Value→World→Prop) (tail:List Oper):Nat→List Oper→List Ent→Dj→List Nat→Prop
 | _,[],S,b,done=>Ct done (fun _=>undef) fun u=> ∀w,B w→Tz b u w (Au u S fun l=>G6 P ops V0 tail l w) done
 | i,o::a,S,b,done=>
  match mv o with
  | some x=>Q7r S x fun e=>Q3f S o.dst e fun S=>Dn P ops T B V0 tail (i+1) a S b done
  | none=>match Q6v o with
   | true=>Q4b T (fun φ=>Ct (refs ops S o) (fun _=>undef) fun u=> ∀w,B w→Ck b u w (runOp P ops (G5 u S) o w (dk T (φ ((refs ops S o).map u)) w)) (refs ops S o))
    (fun φ=>Q3f S o.dst (.ref i) fun c=>Dn P ops T B V0 tail (i+1) a c (b++[(i,refs ops S o,φ)]) (done++[i]))
   | false=>Q6 T (fun φ=>Ct (refs ops S o) (fun _=>undef) fun u=> ∀w,B w→Ck b u w (runOp P ops (G5 u S) o w (dk T φ w)) (refs ops S o))
    (fun φ=>Q3f S o.dst (.ref i) fun c=>Dn P ops T B V0 tail (i+1) a c (b++[(i,[],fun _=>φ)]) (done++[i]))
theorem Hp (P:Program) (ops:List Oper) (T:World→World→Prop) (B:World→Prop) (V0:List Value→World→Prop) (tail:List Oper): ∀(a:List Oper) (i:Nat) (S:List Ent) (b:Dj) (done:List Nat),
 Dn P ops T B V0 tail i a S b done=chain P ops T B V0 tail i a S b done
 | [],i,S,b,done=>by simp only[Dn,chain,Q0M]
 | o::a,i,S,b,done=>by
  simp only[Dn,chain]
  split
  ·rw[Q78,Q0D,Hp]
  ·split
   ·congr 1
    funext φ
    rw[Q0D,Hp]
   ·congr 1
    funext φ
    rw[Q0D,Hp]
noncomputable def Q9x (P:Program) (ops:List Oper) (V0:List Value→World→Prop) (l:List Value) (w:World):Prop:=
 dr w fun T B=>Q6G l fun S=>Dn P ops T B V0 ((J7 ops (S9 ops)).drop (Dd ops (S9 ops) ops.length)) 0 ((J7 ops (S9 ops)).take (Dd ops (S9 ops) ops.length)) S [] []
def Av (a b:List Nat):Bool:=a.all (b.contains ·)&&b.all (a.contains ·)
theorem Et {a b:List Nat} (h:Av a b=true) (i:Nat):a.contains i=b.contains i:=by
 simp only[Av,Bool.and_eq_true,List.all_eq_true] at h
 rw[Bool.eq_iff_iff]
 constructor
 ·intro c;exact h.1 i (by simpa using c)
 ·intro c;exact h.2 i (by simpa using c)
abbrev V3:=List (Option (List Nat×List Nat))
def V3.slots (a:V3):List (Option (List Nat)):=a.map (·.map (·.1))
theorem V3.slots_get (a:V3) (k:Nat):a.slots.getD k none=(a.getD k none).map (·.1):=by
 simp only[V3.slots,List.getD_eq_getElem?_getD,List.getElem?_map]
 cases a[k]? <;>rfl
noncomputable def Ue (P:Program) (a:V3) (b:List (Option (List Nat))):Nat→Code→Od→List Value→World→Prop
 | _, .skip,Q,l,w=>Q .normal l w
 | _, .label _,Q,l,w=>Q .normal l w
 | _, .exit id,Q,l,w=>Q (.exit id) l w
 | _, .ret,Q,l,w=>Q .ret l w
 | _, .region _ ops false,Q,l,w=>G6 P ops.toList (fun l w=>Q .normal l w) ops.toList l w
 | _, .region _ ops true,Q,l,w=>match Dm ops.toList l.length with
  | true=>match Q6C ops.toList (S9 ops.toList) with
   | true=>sq w fun w=>G6 P ops.toList (fun l w=>Q .normal l w) (J7 ops.toList (S9 ops.toList)) l w
   | false=>Q9x P ops.toList (fun l w=>Q .normal l w) l w
  | false=>False
 | k, .seq x y,Q,l,w=>match a.getD k none with
  | none=>Ue P a b (k+1) x (thn (fun l w=>Ue P a b (k+1+K2 x) y Q l w) Q) l w
  | some (f,g)=>match Av g (W6 b (k+1) x) with
   | true=>jn w (fun J w=>Ue P a b (k+1) x (thn (fun l' w'=>J (Lv l' f) w') Q) l w)
    (fun z d w=>Si f g z d 0 l fun l=>Ue P a b (k+1+K2 x) y Q l w)
   | false=>False
 | k, .cond c x y,Q,l,w=>X1 (ev l c) (Ue P a b k x Q l w) (Ue P a b (k+K2 x) y Q l w)
 | k, .block id c,Q,l,w=>Ue P a b k c (Q12 id Q) l w
 | k, .loop c,Q,l,w=>match a.getD k none with
  | none=>False
  | some (f,g)=>match Av g (W6 b (k+1) c) with
   | true=>lp (Lv l f) w (fun e x d w=>Si f g x d 0 l fun l=>Ue P a b (k+1) c (thn (fun l' w'=>e (Lv l' f) w') Q) l w)
   | false=>False
 | _,_,_,_,_=>False
theorem Kp {next a:List Value→World→Prop} {Q b:Od} (c: ∀l w,next l w→a l w) (d: ∀e l w,Q e l w→b e l w): ∀e l w,thn next Q e l w→thn a b e l w:=by
 intro e l w h;cases e<;>first | exact c _ _ h | exact d _ _ _ h
theorem Q8O (P:Program) (m:V3) (c:Code): ∀(k:Nat) (Q j:Od) (l:List Value) (w:World),(∀e l w,Q e l w→j e l w)→
 Ue P m m.slots k c Q l w→Lx P m.slots k c j l w:=by
 induction c with
 | skip=>intro k Q j l w g h;exact g _ _ _ h
 | label n=>intro k Q j l w g h;exact g _ _ _ h
 | exit id=>intro k Q j l w g h;exact g _ _ _ h
 | ret=>intro k Q j l w g h;exact g _ _ _ h
 | goto n=>intro k Q j l w g h;exact h.elim
 | refuse s=>intro k Q j l w g h;exact h.elim
 | scope c=>intro k Q j l w g h;exact h.elim
 | rangeFunc f p a b=>intro k Q j l w g h;exact h.elim
 | region id ops v=>
  intro k Q j l w g h
  cases v with
  | true=>
   simp only[Ue] at h
   split at h
   ·rename_i C
    intro t
    have A:Y5 P ops.toList (fun l w=>Q .normal l w) ((Region.schedule (P.follows .mixedOrders) ops t).filterMap (ops[·]?)) l w.drew:=by
     split at h
     ·rename_i L
      simp only[X1p,Cm] at h
      exact X0N P ops _ l C L _ t _ h
     ·simp only[Q9x,Q9b,Q6g,Q5o,Hp] at h
      obtain ⟨T,B,Y,Z,h⟩:=h
      exact Q9Q P ops T B _ l C Z h (P.follows .mixedOrders) t w.drew Y
    refine Yp P _ _ _ (O5 ops.toList) l _ _ _ ?_ (I4.refl _ _) (fun l w U _=>g _ _ _ U) A
    intro o D d A
    simp only[List.mem_filterMap] at D
    obtain ⟨i,_,hi⟩:=D
    simp only[O5,List.contains_eq_mem,List.mem_filterMap,decide_eq_true_eq]
    exact ⟨o,by simpa using Array.mem_of_getElem? hi,A⟩
   ·exact h.elim
  | false=>
   simp only[Ue] at h
   rw[Cm] at h
   refine Yp P _ _ _ (O5 ops.toList) l _ _ _ ?_ (I4.refl _ _) (fun l w U _=>g _ _ _ U) h
   intro o D d A
   simp only[O5,List.contains_eq_mem,List.mem_filterMap,decide_eq_true_eq]
   exact ⟨o,D,A⟩
 | seq x y q r=>
  intro k Q j l w g h
  simp only[Ue,Lx] at h⊢
  rw[V3.slots_get]
  split at h
  ·rename_i u
   simp only[u,Option.map_none]
   exact q _ _ _ _ _ (Kp (fun l w h=>r _ _ _ _ _ g h) g) h
  ·rename_i W wr u
   simp only[u,Option.map_some]
   split at h
   ·rename_i O
    obtain ⟨J,h1,h2⟩:=Q4z h
    refine Wt J (q _ _ _ _ _ (Kp (fun l w h=>h) g) h1) fun z d w hz=>?_
    have X:=h2 z d w hz
    rw[Q2k,Hv _ _ _ (Et O)] at X
    exact r _ _ _ _ _ g X
   ·exact h.elim
 | cond c x y q r=>
  intro k Q j l w g h
  exact Q2o (q k _ _ _ _ g) (r _ _ _ _ _ g) h
 | block id c N=>
  intro k Q j l w g h
  refine N k _ _ _ _ ?_ h
  intro e l' w' E
  cases e with
  | exit ae=>simp only[Q12] at E⊢;split<;>rename_i H<;>simp only[H,if_true,if_false] at E<;>exact g _ _ _ E
  | _=>exact g _ _ _ E
 | loop c N=>
  intro k Q j l w g h
  simp only[Ue,Lx] at h⊢
  split at h
  ·exact h.elim
  ·rename_i W wr u
   have R:(m.slots.getD k none).getD []=W:=by rw[V3.slots_get,u];rfl
   split at h
   ·rename_i O
    subst R
    refine Q2R (fun M x d w V=>?_) h
    rw[Q2k,Hv _ _ _ (Et O)] at V
    exact N _ _ _ _ _ (Kp (fun l w h=>h) g) V
   ·exact h.elim
def Q1i (P:Program) (t:TypeId) (a:Value) (w:World) (K:Value→Prop):Prop:= ∃v,(do loadVar t (←asAddr a):Sem Value).run P w= .ok v w∧K v
theorem Q1m: ∃f:Program→TypeId→Value→World→(Value→Prop)→Prop,f=Q1i:=⟨_,rfl⟩
noncomputable def V4:Program→TypeId→Value→World→(Value→Prop)→Prop:=Classical.choose Q1m
theorem Q0Z:V4=Q1i:=Classical.choose_spec Q1m
noncomputable def Q40 (P:Program) (l:List Value) (K:List Value→World→Prop):List ResultVar→List Value→World→Prop
 | [],b,w=>K b.reverse w
 | .tmp t::c,b,w=>Q40 P l K c (get l t::b) w
 | .cell a t::c,b,w=>V4 P t (get l a) w fun v=>Q40 P l K c (v::b) w
def Q1b:List Value→Value
 | [v]=>v
 | vs=> .tuple vs.toArray
noncomputable def results (P:Program) (a:List ResultVar) (K:Value→World→Prop) (l:List Value) (w:World):Prop:=
 Q40 P l (fun vs w=>K (Q1b vs) w) a [] w
noncomputable def Q6T (P:Program) (fn:Func) (K:Value→World→Prop):Od
 | .normal,l,w | .ret,l,w=>results P fn.results.toList K l w
 | _,_,_=>False
def Q8r (K:Value→World→Prop) (e:Ending) (w:World):Prop:=match e with | .returned v=>K v w | _=>False
theorem Q3B (a:Array Value) (t:Nat):a.getD t undef=get a.toList t:=by
 simp[get,List.getD_eq_getElem?_getD]
theorem Q7k (vs:List Value):(if h:vs.toArray.size=1 then vs.toArray[0] else Value.tuple vs.toArray)=Q1b vs:=by
 match vs with
 | []=>rfl
 | [v]=>rfl
 | _::_::_=>rfl
theorem Q0N (P:Program) (l:List Value) (K:List Value→World→Prop) (f:ResultVar→Sem Value)
 (c: ∀t,f (.tmp t)=Pure.pure (get l t)) (d: ∀a t,f (.cell a t)=(do loadVar t (←asAddr (get l a)))): ∀(e:List ResultVar) (b:List Value) (w:World),Q40 P l K e b w→
 ∃vs,(e.mapM f).run P w= .ok vs w∧K (b.reverse++vs) w
 | [],b,w,h=>⟨[],by simp,by rw[List.append_nil];exact h⟩
 | .tmp t::e,b,w,h=>by
  obtain ⟨vs,i,g⟩:=Q0N P l K f c d e _ w h
  refine ⟨get l t::vs,?_,by simpa using g⟩
  rw[List.mapM_cons,c]
  simp[i]
 | .cell a t::e,b,w,h=>by
  simp only[Q40,Q0Z] at h
  obtain ⟨v,j,h⟩:=h
  obtain ⟨vs,i,g⟩:=Q0N P l K f c d e _ w h
  refine ⟨v::vs,?_,by simpa using g⟩
  rw[List.mapM_cons,d,Sem.run_bind,j]
  simp[i]
def X0O (a:Array Value):ResultVar→Sem Value
 | .tmp t=>Pure.pure (a.getD t undef)
 | .cell b t=>do loadVar t (←asAddr (a.getD b undef))
theorem Q3y (fn:Func) (a:Array Value):Go.results fn a=(do
 let vs←fn.results.mapM (X0O a)
 Pure.pure (if h:vs.size=1 then vs[0] else .tuple vs)):=by
 unfold Go.results
 congr 1
theorem Q0i (P:Program) (fn:Func) (K:Value→World→Prop) (a:Array Value) (w:World) (h:results P fn.results.toList K a.toList w):
 ∃v,(Go.results fn a).run P w= .ok v w∧K v w:=by
 rw[Q3y,Array.mapM_eq_mapM_toList]
 obtain ⟨vs,c,b⟩:=Q0N P a.toList (fun vs w=>K (Q1b vs) w) (X0O a) (fun t=>by rw[←Q3B];rfl) (fun d t=>by rw[←Q3B];rfl) fn.results.toList [] w h
 refine ⟨Q1b vs,?_,by simpa using b⟩
 rw[Sem.run_bind,Sem.run_map,c]
 simp only[Result.andThen_ok,Sem.run_pure,Q7k]
def Pk (fn:Func) (a:List Value):List Value:=a++List.replicate (fn.ntmps-a.length) undef
theorem Q3W {P:Program} {f:FuncId} {fn:Func} {c:Code} {b:List Value} {w:World} {K:Value→World→Prop} (d:List (Option (List Nat)))
 (k:P.funcs[f]? =some fn) (j:fn.body=some c) (h:Lx P d 0 c (Q6T P fn K) (Pk fn b) w):Calls P f b.toArray w (Q8r K):=by
 refine calls_of_wp k j (wp_mono (Q77 P d c 0 (Q6T P fn K) _ w rfl ?_) ?_)
 ·have:(b.toArray++Array.replicate (fn.ntmps-b.toArray.size) undef).toList=Pk fn b:=by simp[Pk]
  simp only[this];exact h
 ·intro e a w ⟨i,g⟩
  cases e with
  | normal=>exact ⟨i,Q0i P fn K _ _ g⟩
  | ret=>exact ⟨i,Q0i P fn K _ _ g⟩
  | _=>exact g.elim
theorem Ul {P:Program} {f:FuncId} {fn:Func} {a:List Value} {w:World} {K:Value→World→Prop}
 (k:P.funcs[f]? =some fn) (d:fn.body.isSome=true) (i:(fn.name== "runtime.NumGoroutine")=false) (h:Calls P f a.toArray w (Q8r K)):Q1 P f a w K:=by
 have j:(callFunc f a.toArray).run P w= .ok (.enter f a.toArray) w:=by
  unfold callFunc
  simp only[Sem.run_bind,run_program,Result.andThen_ok,k,i,Bool.false_eq_true,if_false]
  cases b:fn.body with
  | none=>rw[b] at d;cases d
  | some c=>simp
 unfold Q1
 rw[T1]
 unfold K1
 rw[j]
 refine h.mono fun e w' g=>?_
 cases e<;>exact g
theorem Q26 {P:Program} {f:FuncId} {fn:Func} {a:List Value} {w:World} {K:Value→World→Prop}
 (k:P.funcs[f]? =some fn) (d:fn.body.isSome=true) (i:(fn.name== "runtime.NumGoroutine")=false) (h:Q1 P f a w K):Calls P f a.toArray w (Q8r K):=by
 have j:(callFunc f a.toArray).run P w= .ok (.enter f a.toArray) w:=by
  unfold callFunc
  simp only[Sem.run_bind,run_program,Result.andThen_ok,k,i,Bool.false_eq_true,if_false]
  cases b:fn.body with
  | none=>rw[b] at d;cases d
  | some c=>simp
 unfold Q1 at h
 rw[T1] at h
 unfold K1 at h
 rw[j] at h
 refine Calls.mono h fun e w' g=>?_
 cases e<;>exact g
theorem Q9T {P:Program} {f:FuncId} {fn:Func} {b:List Value} {w:World} {K:Value→World→Prop} (a:V3)
 (g:P.funcs[f]? =some fn) (d:fn.body.isSome=true) (i:(fn.name== "runtime.NumGoroutine")=false)
 (h:Ue P a a.slots 0 (fn.body.getD .skip) (Q6T P fn K) (Pk fn b) w):Q1 P f b w K:=by
 refine Ul g d i ?_
 obtain ⟨c,e⟩:=Option.isSome_iff_exists.1 d
 rw[e] at h
 exact Q3W a.slots g e (Q8O P a c 0 _ _ _ _ (fun _ _ _ h=>h) h)
theorem Q8 {P:Program} {f:FuncId} {fn:Func} {a:List Value} {w:World} {K:Value→World→Prop} {g:Prop} (b:V3)
 (i:P.funcs[f]? =some fn) (e:fn.body.isSome=true) (d:(fn.name== "runtime.NumGoroutine")=false)
 (c:g=Ue P b b.slots 0 (fn.body.getD .skip) (Q6T P fn K) (Pk fn a) w) (h:g):Q1 P f a w K:=
 Q9T b i e d (c▸h)
theorem Y8 {P:Program} {f:FuncId} {first caps:List Value} {a:List Value} {w:World} {K:Value→World→Prop} (h:Q1 P f (first++a++caps) w K):Y6 P (.func (.func f) first.toArray caps.toArray) a w K:=by
 simpa [Y6,Q1,Deferred.ofValue,invoke,pure_bind,List.append_toArray] using h
end Go.Emb

namespace Go.Proofs.YtjdiakhipmggjaaGreatDoor
noncomputable abbrev P : Program := Tryz.prog
namespace F
abbrev bU : Nat := 3
abbrev ch : Nat := 12
abbrev aa : Nat := 13
abbrev b4 : Nat := 14
abbrev ci : Nat := 15
abbrev bI : Nat := 16
abbrev aR : Nat := 17
abbrev a2 : Nat := 18
abbrev bm : Nat := 19
abbrev ab : Nat := 20
abbrev aM : Nat := 21
abbrev bJ : Nat := 22
abbrev aD : Nat := 23
abbrev b5 : Nat := 24
abbrev ar : Nat := 27
abbrev ca : Nat := 29
abbrev bS : Nat := 31
abbrev b6 : Nat := 33
abbrev bn : Nat := 34
abbrev bo : Nat := 35
abbrev x : Nat := 36
abbrev cm : Nat := 41
abbrev cd : Nat := 42
abbrev ce : Nat := 43
abbrev j : Nat := 44
abbrev aX : Nat := 45
abbrev n : Nat := 46
abbrev b7 : Nat := 47
abbrev b8 : Nat := 48
abbrev aS : Nat := 49
abbrev aE : Nat := 50
abbrev ax : Nat := 51
abbrev au : Nat := 52
abbrev m : Nat := 53
abbrev c7 : Nat := 54
abbrev bp : Nat := 55
abbrev bx : Nat := 56
abbrev bz : Nat := 62
abbrev aN : Nat := 64
abbrev b9 : Nat := 65
abbrev av : Nat := 66
abbrev aT : Nat := 67
abbrev cx : Nat := 68
abbrev q : Nat := 69
abbrev aF : Nat := 70
abbrev y : Nat := 73
abbrev cn : Nat := 77
abbrev cf : Nat := 78
abbrev a3 : Nat := 79
abbrev a7 : Nat := 80
abbrev bM : Nat := 81
abbrev g : Nat := 82
abbrev aU : Nat := 83
abbrev u : Nat := 84
abbrev bN : Nat := 85
abbrev c : Nat := 86
abbrev v : Nat := 87
abbrev ay : Nat := 88
abbrev ba : Nat := 89
abbrev af : Nat := 90
abbrev ag : Nat := 91
abbrev aL : Nat := 92
abbrev a : Nat := 93
abbrev az : Nat := 94
abbrev bV : Nat := 95
abbrev aY : Nat := 96
abbrev bK : Nat := 97
abbrev a4 : Nat := 98
abbrev bb : Nat := 99
abbrev bc : Nat := 100
abbrev b : Nat := 101
abbrev aZ : Nat := 102
abbrev aA : Nat := 103
abbrev aO : Nat := 104
abbrev aV : Nat := 105
abbrev bq : Nat := 106
abbrev aj : Nat := 107
abbrev aC : Nat := 109
abbrev bd : Nat := 110
abbrev ad : Nat := 111
abbrev br : Nat := 113
abbrev w : Nat := 114
abbrev cb : Nat := 115
abbrev bs : Nat := 116
abbrev o : Nat := 117
abbrev h : Nat := 118
abbrev ac : Nat := 120
abbrev c2 : Nat := 121
abbrev c3 : Nat := 122
abbrev a5 : Nat := 123
abbrev ae : Nat := 124
abbrev aG : Nat := 125
abbrev c4 : Nat := 126
abbrev aw : Nat := 127
abbrev c5 : Nat := 128
abbrev ak : Nat := 129
abbrev c6 : Nat := 130
abbrev al : Nat := 131
abbrev bl : Nat := 132
abbrev bA : Nat := 133
abbrev ah : Nat := 134
abbrev aW : Nat := 135
abbrev a8 : Nat := 136
abbrev a9 : Nat := 137
abbrev t : Nat := 138
abbrev bO : Nat := 139
abbrev i : Nat := 140
abbrev bW : Nat := 141
abbrev f : Nat := 142
abbrev cu : Nat := 143
abbrev cj : Nat := 144
abbrev aH : Nat := 145
abbrev bt : Nat := 146
abbrev bu : Nat := 147
abbrev be : Nat := 148
abbrev bf : Nat := 149
abbrev bg : Nat := 150
abbrev aI : Nat := 151
abbrev b0 : Nat := 152
abbrev aJ : Nat := 153
abbrev p : Nat := 154
abbrev cc : Nat := 155
abbrev cy : Nat := 156
abbrev bX : Nat := 157
abbrev ai : Nat := 158
abbrev cv : Nat := 159
abbrev d : Nat := 160
abbrev am : Nat := 161
abbrev bY : Nat := 162
abbrev bL : Nat := 163
abbrev bZ : Nat := 164
abbrev c8 : Nat := 165
abbrev e : Nat := 166
abbrev bP : Nat := 167
abbrev bD : Nat := 168
abbrev bE : Nat := 169
abbrev bB : Nat := 170
abbrev b2 : Nat := 171
abbrev an : Nat := 172
abbrev b3 : Nat := 173
abbrev co : Nat := 174
abbrev ao : Nat := 175
abbrev cz : Nat := 179
abbrev bT : Nat := 180
abbrev s : Nat := 181
abbrev z : Nat := 182
abbrev aP : Nat := 183
abbrev aB : Nat := 184
abbrev bv : Nat := 185
abbrev bh : Nat := 186
abbrev aq : Nat := 187
abbrev aK : Nat := 190
abbrev ck : Nat := 191
abbrev bQ : Nat := 192
abbrev c0 : Nat := 193
abbrev k : Nat := 194
abbrev bF : Nat := 195
abbrev c1 : Nat := 196
abbrev cs : Nat := 197
abbrev l : Nat := 198
abbrev bG : Nat := 199
abbrev a6 : Nat := 202
abbrev aQ : Nat := 203
abbrev bR : Nat := 204
abbrev a0 : Nat := 208
abbrev ct : Nat := 209
abbrev cl : Nat := 210
abbrev cp : Nat := 211
abbrev a1 : Nat := 212
abbrev bi : Nat := 215
abbrev cA : Nat := 219
abbrev c9 : Nat := 220
abbrev r : Nat := 221
abbrev cw : Nat := 222
abbrev cg : Nat := 224
abbrev bj : Nat := 225
abbrev bk : Nat := 226
abbrev ap : Nat := 227
abbrev bw : Nat := 228
abbrev cq : Nat := 229
abbrev b1 : Nat := 230
abbrev bH : Nat := 231
abbrev cr : Nat := 232
abbrev bC : Nat := 233
end F
namespace T
abbrev x : Nat := 0
abbrev ah : Nat := 2
abbrev d : Nat := 3
abbrev q : Nat := 4
abbrev a0 : Nat := 5
abbrev b : Nat := 9
abbrev av : Nat := 12
abbrev am : Nat := 21
abbrev l : Nat := 22
abbrev w : Nat := 23
abbrev g : Nat := 26
abbrev a1 : Nat := 29
abbrev i : Nat := 33
abbrev k : Nat := 37
abbrev aq : Nat := 43
abbrev an : Nat := 44
abbrev t : Nat := 46
abbrev a5 : Nat := 51
abbrev e : Nat := 54
abbrev h : Nat := 65
abbrev j : Nat := 69
abbrev aj : Nat := 74
abbrev n : Nat := 76
abbrev u : Nat := 78
abbrev z : Nat := 80
abbrev y : Nat := 82
abbrev f : Nat := 83
abbrev a : Nat := 85
abbrev a2 : Nat := 88
abbrev a3 : Nat := 91
abbrev s : Nat := 94
abbrev m : Nat := 95
abbrev o : Nat := 96
abbrev c : Nat := 98
abbrev r : Nat := 100
abbrev aa : Nat := 120
abbrev ao : Nat := 126
abbrev v : Nat := 136
abbrev a7 : Nat := 139
abbrev ac : Nat := 140
abbrev a6 : Nat := 146
abbrev a4 : Nat := 148
abbrev au : Nat := 154
abbrev ai : Nat := 156
abbrev ak : Nat := 157
abbrev a8 : Nat := 165
abbrev ae : Nat := 168
abbrev p : Nat := 172
abbrev ax : Nat := 184
abbrev a9 : Nat := 190
abbrev af : Nat := 197
abbrev ag : Nat := 200
abbrev ar : Nat := 203
abbrev al : Nat := 205
abbrev aw : Nat := 220
abbrev ab : Nat := 225
abbrev ad : Nat := 226
abbrev ap : Nat := 235
abbrev ay : Nat := 241
end T
namespace G
abbrev b : Nat := 0
abbrev e : Nat := 1
abbrev d : Nat := 2
abbrev a : Nat := 3
abbrev c : Nat := 4
end G
end Go.Proofs.YtjdiakhipmggjaaGreatDoor

set_option maxRecDepth 100000
namespace Go.Proofs.YtjdiakhipmggjaaGreatDoor
open Go.Emb
def Q3h:V3:=[none,none,none,none,some ([1,10],[1,3,10,11,12,13,14,15,16,17,18]),none,none,none,none,none]
def Pp (w:World) (K:Value→World→Prop):Prop:= N8 P T.a [(0,(.string ⟨#[79,98,106,101,99,116]⟩))] w fun l w=>N8 P T.j [(0,(.string ⟨#[119,104,97,116]⟩)),(1,(.string ⟨#[116,101,120,116]⟩))] w fun i w=>buildSlice P T.h 1 [(0,i)] w fun k w=>N8 P T.a [(0,(.string ⟨#[70,97,117,108,116]⟩)),(1,(.string ⟨#[79,98,106,101,99,116]⟩)),(6,k)] w fun n w=>buildSlice P T.g 2 [(0,l),(1,n)] w fun j w=>Q2 P T.ao (.pointer (some ⟨G.b,0,none⟩)) w fun m w=>lp (α:=Value×Value) (j,(.int .i64 0)) w fun a b o w=>Q3 P .lss T.d (.tmp 10) (.const (.int .i64 6)) b.2 (.int .i64 6) w fun e w=>X1 e (D7 P T.ao m b.2 w fun c w=>N8 P T.a [(0,c),(1,(.string ⟨#[70,97,117,108,116]⟩)),(5,(.bool true))] w fun f w=>buildSlice P T.g 1 [(0,f)] w fun g w=>X6 P .append [T.g,T.g] T.g [false,false] [b.1,g] w fun d w=>Q3 P .add T.d (.tmp 10) (.const (.int .i64 1)) b.2 (.int .i64 1) w fun h w=>a (d,h) w) (K b.1 w)
theorem Q3Z {w:World} {K:Value→World→Prop} (h:Pp w K):Q1 P F.cm [] w K:=Q8 Q3h Tryz.func41 rfl (by decide) (by kernel_rfl) h
def Q3w:V3:=[none,none,none,some ([8],[2,4,8,9,10,11,12,13,14,15,16,17,18,19,20,21,22,23,24,25,26,27,28,29,30,31,32,33]),none,none,none,none,none,none,none]
def Tg (X:Value) (w:World) (K:Value→World→Prop):Prop:= box P T.a X w fun b w=>fieldAddr P T.a b 7 w fun t5 w=>Q2 P T.f t5 w fun W w=>X6 P .len [T.f] T.d [false] [W] w fun Z w=>lp (α:=Value) (.int .i64 0) w fun h N d_ w=>Q3 P .lss T.d (.tmp 8) (.tmp 7) N Z w fun Y w=>X1 Y (indexAddr P T.f W N w fun L w=>Q2 P T.c L w fun U w=>W1 P T.c w fun a w=>Z6 P T.c a U w fun _u w=>fieldAddr P T.c a 1 w fun t w=>Q2 P T.e t w fun p w=>X6 P .len [T.e] T.d [false] [p] w fun z w=>Q3 P .gtr T.d (.tmp 14) (.const (.int .i64 32)) z (.int .i64 32) w fun e w=>Q0 e false w (fieldAddr P T.c a 6) fun m w=>Q0 e false w (Q2 P T.o m) fun B w=>Q0 e false w (X6 P .len [T.o] T.d [false] [B]) fun r w=>Q0 e false w (Q3 P .gtr T.d (.tmp 19) (.const (.int .i64 32)) r (.int .i64 32)) fun D w=>pick P e (.bool true) D w fun f w=>Q0 f false w (fieldAddr P T.c a 5) fun y w=>Q0 f false w (Q2 P T.m y) fun u w=>Q0 f false w (X6 P .len [T.m] T.d [false] [u]) fun V w=>Q0 f false w (Q3 P .gtr T.d (.tmp 25) (.const (.int .i64 200)) V (.int .i64 200)) fun s w=>pick P f (.bool true) s w fun g w=>Q0 g false w (fieldAddr P T.c a 4) fun E w=>Q0 g false w (Q2 P T.d E) fun i w=>Q0 g false w (Q3 P .gtr T.d (.tmp 30) (.const (.int .i64 64)) i (.int .i64 64)) fun H w=>pick P g (.bool true) H w fun j w=>X1 j (K (.bool true) w) (Q3 P .add T.d (.tmp 8) (.const (.int .i64 1)) N (.int .i64 1) w fun M w=>h M w)) (fieldAddr P T.a b 2 w fun A w=>Q2 P T.e A w fun q w=>X6 P .len [T.e] T.d [false] [q] w fun o w=>Q3 P .gtr T.d (.tmp 36) (.const (.int .i64 32)) o (.int .i64 32) w fun c w=>Q0 c false w (fieldAddr P T.a b 6) fun R w=>Q0 c false w (Q2 P T.h R) fun J w=>Q0 c false w (X6 P .len [T.h] T.d [false] [J]) fun Q w=>Q0 c false w (Q3 P .gtr T.d (.tmp 41) (.const (.int .i64 32)) Q (.int .i64 32)) fun k w=>pick P c (.bool true) k w fun d w=>Q0 d false w (fieldAddr P T.a b 7) fun v w=>Q0 d false w (Q2 P T.f v) fun l w=>Q0 d false w (X6 P .len [T.f] T.d [false] [l]) fun C w=>Q0 d false w (Q3 P .gtr T.d (.tmp 47) (.const (.int .i64 32)) C (.int .i64 32)) fun n w=>pick P d (.bool true) n w fun O w=>K O w)
theorem Q3k {a:Value} {w:World} {K:Value→World→Prop} (h:Tg a w K):Q1 P F.cn [a] w K:=Q8 Q3w Tryz.func77 rfl (by decide) (by kernel_rfl) h
def A5:V3:=[none,none,none,some ([8],[4,5,8,9,10,11,12,13,14,15,16,17,18]),none,none,none,none,none,none,none]
def H2 (g i:Value) (w:World) (K:Value→World→Prop):Prop:= X6 P .len [T.f] T.d [false] [g] w fun j w=>lp (α:=Value) (.int .i64 0) w fun a b k w=>Q3 P .lss T.d (.tmp 8) (.tmp 7) b j w fun h w=>X1 h (indexAddr P T.f g b w fun c w=>Q2 P T.c c w fun d w=>Y6 P i [d] w fun e w=>X1 e (K b w) (Q3 P .add T.d (.tmp 8) (.const (.int .i64 1)) b (.int .i64 1) w fun f w=>a f w)) (K (.int .i64 (-1)) w)
theorem A7 {a b:Value} {w:World} {K:Value→World→Prop} (h:H2 a b w K):Q1 P F.f [a,b] w K:=Q8 A5 Tryz.func142 rfl (by decide) (by kernel_rfl) h
def D2 (a c:Value) (w:World) (K:Value→World→Prop):Prop:= Q1 P F.f [a,c] w fun d w=>Q3 P .geq T.d (.tmp 7) (.const (.int .i64 0)) d (.int .i64 0) w fun b w=>K b w
theorem K3 {a b:Value} {w:World} {K:Value→World→Prop} (h:D2 a b w K):Q1 P F.a [a,b] w K:=Q8 (List.replicate 2 none) Tryz.func93 rfl (by decide) (by kernel_rfl) h
def Vt:V3:=[none,none,none,some ([8],[4,5,8,9,10,11,12,13,14,15,16,17,18]),none,none,none,none,none,none,none]
def I9 (g i:Value) (w:World) (K:Value→World→Prop):Prop:= X6 P .len [T.e] T.d [false] [g] w fun j w=>lp (α:=Value) (.int .i64 0) w fun a b k w=>Q3 P .lss T.d (.tmp 8) (.tmp 7) b j w fun h w=>X1 h (indexAddr P T.e g b w fun c w=>Q2 P T.b c w fun d w=>Q3 P .eql T.b (.tmp 11) (.tmp 15) i d w fun e w=>X1 e (K b w) (Q3 P .add T.d (.tmp 8) (.const (.int .i64 1)) b (.int .i64 1) w fun f w=>a f w)) (K (.int .i64 (-1)) w)
theorem Li {a b:Value} {w:World} {K:Value→World→Prop} (h:I9 a b w K):Q1 P F.am [a,b] w K:=Q8 Vt Tryz.func161 rfl (by decide) (by kernel_rfl) h
def F3 (a c:Value) (w:World) (K:Value→World→Prop):Prop:= Q1 P F.am [a,c] w fun d w=>Q3 P .geq T.d (.tmp 7) (.const (.int .i64 0)) d (.int .i64 0) w fun b w=>K b w
theorem Jm {a b:Value} {w:World} {K:Value→World→Prop} (h:F3 a b w K):Q1 P F.ac [a,b] w K:=Q8 (List.replicate 2 none) Tryz.func120 rfl (by decide) (by kernel_rfl) h
def Hn (b:Value) (w:World) (K:Value→World→Prop):Prop:= box P T.c b w fun a w=>fieldAddr P T.c a 3 w fun d w=>Q2 P T.q d w fun c w=>K c w
theorem Q18 {a:Value} {w:World} {K:Value→World→Prop} (h:Hn a w K):Q1 P F.c2 [a] w K:=Q8 (List.replicate 2 none) Tryz.func121 rfl (by decide) (by kernel_rfl) h
def Rc (b:Value) (w:World) (K:Value→World→Prop):Prop:= box P T.c b w fun a w=>fieldAddr P T.c a 3 w fun e w=>Q2 P T.q e w fun d w=>Z8 P .not d w fun c w=>K c w
theorem Q1p {a:Value} {w:World} {K:Value→World→Prop} (h:Rc a w K):Q1 P F.c3 [a] w K:=Q8 (List.replicate 2 none) Tryz.func122 rfl (by decide) (by kernel_rfl) h
def Ji:V3:=[none,none,none,some ([8],[4,5,8,9,10,11,12,13,14,15,16,17,18]),none,none,none,none,none,none,none]
def B3 (g i:Value) (w:World) (K:Value→World→Prop):Prop:= X6 P .len [T.e] T.d [false] [g] w fun j w=>lp (α:=Value) (.int .i64 0) w fun a b k w=>Q3 P .lss T.d (.tmp 8) (.tmp 7) b j w fun h w=>X1 h (indexAddr P T.e g b w fun c w=>Q2 P T.b c w fun d w=>Y6 P i [d] w fun e w=>X1 e (K b w) (Q3 P .add T.d (.tmp 8) (.const (.int .i64 1)) b (.int .i64 1) w fun f w=>a f w)) (K (.int .i64 (-1)) w)
theorem Jg {a b:Value} {w:World} {K:Value→World→Prop} (h:B3 a b w K):Q1 P F.t [a,b] w K:=Q8 Ji Tryz.func138 rfl (by decide) (by kernel_rfl) h
def S7 (a c:Value) (w:World) (K:Value→World→Prop):Prop:= Q1 P F.t [a,c] w fun d w=>Q3 P .geq T.d (.tmp 7) (.const (.int .i64 0)) d (.int .i64 0) w fun b w=>K b w
theorem Ye {a b:Value} {w:World} {K:Value→World→Prop} (h:S7 a b w K):Q1 P F.c [a,b] w K:=Q8 (List.replicate 2 none) Tryz.func86 rfl (by decide) (by kernel_rfl) h
def Jj (a d:Value) (w:World) (K:Value→World→Prop):Prop:= Q2 P T.a2 d w fun c w=>Y6 P c [a] w fun b w=>Z8 P .not b w fun e w=>K e w
theorem Rr {a b:Value} {w:World} {K:Value→World→Prop} (h:Jj a b w K):Q1 P F.bY [a,b] w K:=Q8 (List.replicate 2 none) Tryz.func162 rfl (by decide) (by kernel_rfl) h
def Wz (b e:Value) (w:World) (K:Value→World→Prop):Prop:= box P T.a2 e w fun a w=>N0 P (.func F.bY) [] [a] w fun d w=>Q1 P F.c [b,d] w fun f w=>Z8 P .not f w fun c w=>K c w
theorem Bu {a b:Value} {w:World} {K:Value→World→Prop} (h:Wz a b w K):Q1 P F.a5 [a,b] w K:=Q8 (List.replicate 2 none) Tryz.func123 rfl (by decide) (by kernel_rfl) h
def Q6p:V3:=[none,none,none,some ([],[4,6,9,10,11,12,13,14,15]),none,none,none,none,none,none]
def Q1d (g i:Value) (w:World) (K:Value→World→Prop):Prop:= rng P T.b g w fun h w=>lp (α:=Unit) () w fun a k j w=>V0 P h true T.x w fun f w=>ext P f 0 w fun b w=>X1 b (ext P f 2 w fun c w=>Y6 P i [c] w fun e w=>Z8 P .not e w fun d w=>X1 d (K (.bool false) w) (a () w)) (K (.bool true) w)
theorem Q6W {a b:Value} {w:World} {K:Value→World→Prop} (h:Q1d a b w K):Q1 P F.ck [a,b] w K:=Q8 Q6p Tryz.func191 rfl (by decide) (by kernel_rfl) h
def Pu (b:Value) (w:World) (K:Value→World→Prop):Prop:= Q3 P .geq T.am (.tmp 3) (.const (.int .i32 65)) b (.int .i32 65) w fun a w=>Q0 a true w (fun w J=>J b w) fun d w=>Q0 a true w (Q3 P .leq T.am (.tmp 6) (.const (.int .i32 90)) d (.int .i32 90)) fun e w=>pick P a e (.bool false) w fun c w=>K c w
theorem Q3i {a:Value} {w:World} {K:Value→World→Prop} (h:Pu a w K):Q1 P F.bZ [a] w K:=Q8 (List.replicate 2 none) Tryz.func164 rfl (by decide) (by kernel_rfl) h
def To (b:Value) (w:World) (K:Value→World→Prop):Prop:= Q3 P .geq T.am (.tmp 3) (.const (.int .i32 97)) b (.int .i32 97) w fun a w=>Q0 a true w (fun w J=>J b w) fun d w=>Q0 a true w (Q3 P .leq T.am (.tmp 6) (.const (.int .i32 122)) d (.int .i32 122)) fun e w=>pick P a e (.bool false) w fun c w=>K c w
theorem Q4h {a:Value} {w:World} {K:Value→World→Prop} (h:To a w K):Q1 P F.c0 [a] w K:=Q8 (List.replicate 2 none) Tryz.func193 rfl (by decide) (by kernel_rfl) h
def Gg (c:Value) (w:World) (K:Value→World→Prop):Prop:= Q1 P F.bZ [c] w fun e w=>Q0 e false w (fun w J=>J c w) fun k w=>Q0 e false w (Q1 P F.c0 [k]) fun l w=>pick P e (.bool true) l w fun b w=>Q0 b false w (fun w J=>J c w) fun f w=>Q0 b false w (Q3 P .geq T.am (.tmp 10) (.const (.int .i32 48)) f (.int .i32 48)) fun g w=>Q0 b false w (fun w J=>J g w) fun a w=>Q0 a true w (fun w J=>J c w) fun d w=>Q0 a true w (Q3 P .leq T.am (.tmp 13) (.const (.int .i32 57)) d (.int .i32 57)) fun h w=>Q0 b false w (pick P a h (.bool false)) fun j w=>pick P b (.bool true) j w fun i w=>K i w
theorem Q37 {a:Value} {w:World} {K:Value→World→Prop} (h:Gg a w K):Q1 P F.bQ [a] w K:=Q8 (List.replicate 2 none) Tryz.func192 rfl (by decide) (by kernel_rfl) h
def Q0n (c:Value) (w:World) (K:Value→World→Prop):Prop:= Q3 P .eql T.b (.tmp 3) (.const (.string ⟨#[]⟩)) c (.string ⟨#[]⟩) w fun d w=>Q0 d false w (fun w J=>J c w) fun o w=>Q0 d false w (X6 P .len [T.b] T.d [false] [o]) fun p w=>Q0 d false w (Q3 P .gtr T.d (.tmp 7) (.const (.int .i64 32)) p (.int .i64 32)) fun n w=>pick P d (.bool true) n w fun b w=>Q0 b false w (fun w J=>J c w) fun m w=>Q0 b false w (D7 P T.b m (.int .i64 0)) fun i w=>Q0 b false w (Q3 P .geq T.a0 (.tmp 12) (.const (.int .u8 48)) i (.int .u8 48)) fun g w=>Q0 b false w (fun w J=>J g w) fun a w=>Q0 a true w (fun w J=>J c w) fun k w=>Q0 a true w (D7 P T.b k (.int .i64 0)) fun f w=>Q0 a true w (Q3 P .leq T.a0 (.tmp 16) (.const (.int .u8 57)) f (.int .u8 57)) fun e w=>Q0 b false w (pick P a e (.bool false)) fun j w=>pick P b (.bool true) j w fun h w=>X1 h (K (.bool false) w) (Q1 P F.ck [c,(.func (.func F.bQ) #[] #[])] w fun l w=>K l w)
theorem Q5h {a:Value} {w:World} {K:Value→World→Prop} (h:Q0n a w K):Q1 P F.bL [a] w K:=Q8 (List.replicate 5 none) Tryz.func163 rfl (by decide) (by kernel_rfl) h
def Tb (c:Value) (w:World) (K:Value→World→Prop):Prop:= Q1 P F.bL [c] w fun a w=>Q0 a true w (fun w J=>J c w) fun e w=>Q0 a true w (D7 P T.b e (.int .i64 0)) fun g w=>Q0 a true w (conv P T.a0 T.am g) fun d w=>Q0 a true w (Q1 P F.bZ [d]) fun f w=>pick P a f (.bool false) w fun b w=>K b w
theorem Q47 {a:Value} {w:World} {K:Value→World→Prop} (h:Tb a w K):Q1 P F.ae [a] w K:=Q8 (List.replicate 2 none) Tryz.func124 rfl (by decide) (by kernel_rfl) h
def Un (n l o:Value) (w:World) (K:Value→World→Prop):Prop:= dr w fun a b=>Q6 a (fun c=> ∀w,b w→Q2 P T.aa l w (dk a c w)) fun c=>Q6 a (fun f=> ∀d w,b w→c d w→Y6 P d [n] w (dk a f w)) fun f=>Q6 a (fun i=> ∀w,b w→Q2 P T.aa l w (dk a i w)) fun i=>Q6 a (fun e=> ∀w,b w→Q2 P T.b o w (dk a e w)) fun e=>∀d m j k w,b w→c d w→f m w→i j w→e k w→ Y6 P j [k] w fun g w=>Q3 P .eql T.b (.tmp 7) (.tmp 10) m g w fun h w=>K h w
theorem Sm {a c b:Value} {w:World} {K:Value→World→Prop} (h:Un a c b w K):Q1 P F.c8 [a,c,b] w K:=Q8 (List.replicate 2 none) Tryz.func165 rfl (by decide) (by kernel_rfl) h
def Iw:V3:=[none,none,none,some ([9],[4,5,6,9,10,11,12,13,14,15,16,17,18,19]),none,none,none,none,none,none,none]
def Lz (f n:Value) (w:World) (K:Value→World→Prop):Prop:= box P T.aa n w fun a w=>X6 P .len [T.e] T.d [false] [f] w fun m w=>lp (α:=Value) (.int .i64 0) w fun c d o w=>Q3 P .lss T.d (.tmp 9) (.tmp 8) d m w fun i w=>X1 i (indexAddr P T.e f d w fun h w=>Q2 P T.b h w fun e w=>W1 P T.b w fun b w=>Z6 P T.b b e w fun _u w=>R6 P T.e f none (some d) none w fun j w=>N0 P (.func F.c8) [] [a,b] w fun k w=>Q1 P F.c [j,k] w fun l w=>X1 l (K (.bool false) w) (Q3 P .add T.d (.tmp 9) (.const (.int .i64 1)) d (.int .i64 1) w fun g w=>c g w)) (K (.bool true) w)
theorem Gs {a b:Value} {w:World} {K:Value→World→Prop} (h:Lz a b w K):Q1 P F.aG [a,b] w K:=Q8 Iw Tryz.func125 rfl (by decide) (by kernel_rfl) h
def Q1f (a:Value) (w:World) (K:Value→World→Prop):Prop:= K a w
theorem Q0V {a:Value} {w:World} {K:Value→World→Prop} (h:Q1f a w K):Q1 P F.c4 [a] w K:=Q8 (List.replicate 2 none) Tryz.func126 rfl (by decide) (by kernel_rfl) h
def Qt:V3:=[none,none,none,some ([8],[4,5,8,9,10,11,12,13,14,15,16,17,18]),none,none,none,none,none,none,none]
def R3 (g i:Value) (w:World) (K:Value→World→Prop):Prop:= X6 P .len [T.h] T.d [false] [g] w fun j w=>lp (α:=Value) (.int .i64 0) w fun a b k w=>Q3 P .lss T.d (.tmp 8) (.tmp 7) b j w fun h w=>X1 h (indexAddr P T.h g b w fun c w=>Q2 P T.j c w fun d w=>Y6 P i [d] w fun e w=>X1 e (K b w) (Q3 P .add T.d (.tmp 8) (.const (.int .i64 1)) b (.int .i64 1) w fun f w=>a f w)) (K (.int .i64 (-1)) w)
theorem Qs {a b:Value} {w:World} {K:Value→World→Prop} (h:R3 a b w K):Q1 P F.i [a,b] w K:=Q8 Qt Tryz.func140 rfl (by decide) (by kernel_rfl) h
def E8 (a c:Value) (w:World) (K:Value→World→Prop):Prop:= Q1 P F.i [a,c] w fun d w=>Q3 P .geq T.d (.tmp 7) (.const (.int .i64 0)) d (.int .i64 0) w fun b w=>K b w
theorem P9 {a b:Value} {w:World} {K:Value→World→Prop} (h:E8 a b w K):Q1 P F.e [a,b] w K:=Q8 (List.replicate 2 none) Tryz.func166 rfl (by decide) (by kernel_rfl) h
def Yx (q m r:Value) (w:World) (K:Value→World→Prop):Prop:= box P T.j q w fun b w=>dr w fun a c=>Q6 a (fun f=> ∀w,c w→Q2 P T.a8 m w (dk a f w)) fun f=>Q6 a (fun d=> ∀w,c w→Q2 P T.j b w (dk a d w)) fun d=>Q6 a (fun j=> ∀g e w,c w→f g w→d e w→Y6 P g [e] w (dk a j w)) fun j=>Q6 a (fun i=> ∀w,c w→Q2 P T.a8 m w (dk a i w)) fun i=>Q6 a (fun h=> ∀w,c w→Q2 P T.j r w (dk a h w)) fun h=>∀g e p n o w,c w→f g w→d e w→j p w→i n w→h o w→ Y6 P n [o] w fun k w=>Q3 P .eql T.b (.tmp 7) (.tmp 10) p k w fun l w=>K l w
theorem Eu {a c b:Value} {w:World} {K:Value→World→Prop} (h:Yx a c b w K):Q1 P F.bP [a,c,b] w K:=Q8 (List.replicate 2 none) Tryz.func167 rfl (by decide) (by kernel_rfl) h
def Ro:V3:=[none,none,none,some ([9],[4,5,6,9,10,11,12,13,14,15,16,17,18,19]),none,none,none,none,none,none,none]
def Ju (f n:Value) (w:World) (K:Value→World→Prop):Prop:= box P T.a8 n w fun a w=>X6 P .len [T.h] T.d [false] [f] w fun m w=>lp (α:=Value) (.int .i64 0) w fun c d o w=>Q3 P .lss T.d (.tmp 9) (.tmp 8) d m w fun i w=>X1 i (indexAddr P T.h f d w fun h w=>Q2 P T.j h w fun e w=>W1 P T.j w fun b w=>Z6 P T.j b e w fun _u w=>R6 P T.h f none (some d) none w fun j w=>N0 P (.func F.bP) [] [a,b] w fun k w=>Q1 P F.e [j,k] w fun l w=>X1 l (K (.bool false) w) (Q3 P .add T.d (.tmp 9) (.const (.int .i64 1)) d (.int .i64 1) w fun g w=>c g w)) (K (.bool true) w)
theorem Rm {a b:Value} {w:World} {K:Value→World→Prop} (h:Ju a b w K):Q1 P F.aw [a,b] w K:=Q8 Ro Tryz.func127 rfl (by decide) (by kernel_rfl) h
def Ra (b:Value) (w:World) (K:Value→World→Prop):Prop:= box P T.j b w fun a w=>fieldAddr P T.j a 0 w fun d w=>Q2 P T.b d w fun c w=>K c w
theorem Q1A {a:Value} {w:World} {K:Value→World→Prop} (h:Ra a w K):Q1 P F.c5 [a] w K:=Q8 (List.replicate 2 none) Tryz.func128 rfl (by decide) (by kernel_rfl) h
def Ya (q m r:Value) (w:World) (K:Value→World→Prop):Prop:= box P T.c q w fun b w=>dr w fun a c=>Q6 a (fun f=> ∀w,c w→Q2 P T.a7 m w (dk a f w)) fun f=>Q6 a (fun d=> ∀w,c w→Q2 P T.c b w (dk a d w)) fun d=>Q6 a (fun j=> ∀g e w,c w→f g w→d e w→Y6 P g [e] w (dk a j w)) fun j=>Q6 a (fun i=> ∀w,c w→Q2 P T.a7 m w (dk a i w)) fun i=>Q6 a (fun h=> ∀w,c w→Q2 P T.c r w (dk a h w)) fun h=>∀g e p n o w,c w→f g w→d e w→j p w→i n w→h o w→ Y6 P n [o] w fun k w=>Q3 P .eql T.b (.tmp 7) (.tmp 10) p k w fun l w=>K l w
theorem Da {a c b:Value} {w:World} {K:Value→World→Prop} (h:Ya a c b w K):Q1 P F.bD [a,c,b] w K:=Q8 (List.replicate 2 none) Tryz.func168 rfl (by decide) (by kernel_rfl) h
def Hf:V3:=[none,none,none,some ([9],[4,5,6,9,10,11,12,13,14,15,16,17,18,19]),none,none,none,none,none,none,none]
def Ja (f n:Value) (w:World) (K:Value→World→Prop):Prop:= box P T.a7 n w fun a w=>X6 P .len [T.f] T.d [false] [f] w fun m w=>lp (α:=Value) (.int .i64 0) w fun c d o w=>Q3 P .lss T.d (.tmp 9) (.tmp 8) d m w fun i w=>X1 i (indexAddr P T.f f d w fun h w=>Q2 P T.c h w fun e w=>W1 P T.c w fun b w=>Z6 P T.c b e w fun _u w=>R6 P T.f f none (some d) none w fun j w=>N0 P (.func F.bD) [] [a,b] w fun k w=>Q1 P F.a [j,k] w fun l w=>X1 l (K (.bool false) w) (Q3 P .add T.d (.tmp 9) (.const (.int .i64 1)) d (.int .i64 1) w fun g w=>c g w)) (K (.bool true) w)
theorem Ez {a b:Value} {w:World} {K:Value→World→Prop} (h:Ja a b w K):Q1 P F.ak [a,b] w K:=Q8 Hf Tryz.func129 rfl (by decide) (by kernel_rfl) h
def Hr (b:Value) (w:World) (K:Value→World→Prop):Prop:= box P T.c b w fun a w=>fieldAddr P T.c a 0 w fun d w=>Q2 P T.b d w fun c w=>K c w
theorem Q1w {a:Value} {w:World} {K:Value→World→Prop} (h:Hr a w K):Q1 P F.c6 [a] w K:=Q8 (List.replicate 2 none) Tryz.func130 rfl (by decide) (by kernel_rfl) h
def Yd (b f:Value) (w:World) (K:Value→World→Prop):Prop:= box P T.j b w fun a w=>Q2 P T.ae f w fun e w=>Q2 P T.j a w fun c w=>Y6 P e [c] w fun d w=>Z8 P .not d w fun g w=>K g w
theorem Db {a b:Value} {w:World} {K:Value→World→Prop} (h:Yd a b w K):Q1 P F.bE [a,b] w K:=Q8 (List.replicate 2 none) Tryz.func169 rfl (by decide) (by kernel_rfl) h
def Jc (b e:Value) (w:World) (K:Value→World→Prop):Prop:= box P T.ae e w fun a w=>N0 P (.func F.bE) [] [a] w fun d w=>Q1 P F.e [b,d] w fun f w=>Z8 P .not f w fun c w=>K c w
theorem Hi {a b:Value} {w:World} {K:Value→World→Prop} (h:Jc a b w K):Q1 P F.al [a,b] w K:=Q8 (List.replicate 2 none) Tryz.func131 rfl (by decide) (by kernel_rfl) h
def Tm (a:Value) (w:World) (K:Value→World→Prop):Prop:= Q3 P .eql T.b (.tmp 3) (.const (.string ⟨#[105,110,116]⟩)) a (.string ⟨#[105,110,116]⟩) w fun c w=>Q0 c false w (fun w J=>J a w) fun g w=>Q0 c false w (Q3 P .eql T.b (.tmp 6) (.const (.string ⟨#[98,111,111,108]⟩)) g (.string ⟨#[98,111,111,108]⟩)) fun h w=>pick P c (.bool true) h w fun b w=>Q0 b false w (fun w J=>J a w) fun e w=>Q0 b false w (Q3 P .eql T.b (.tmp 10) (.const (.string ⟨#[116,101,120,116]⟩)) e (.string ⟨#[116,101,120,116]⟩)) fun f w=>pick P b (.bool true) f w fun d w=>K d w
theorem Q46 {a:Value} {w:World} {K:Value→World→Prop} (h:Tm a w K):Q1 P F.aC [a] w K:=Q8 (List.replicate 2 none) Tryz.func109 rfl (by decide) (by kernel_rfl) h
def Jd (c k:Value) (w:World) (K:Value→World→Prop):Prop:= X6 P .len [T.b] T.d [false] [c] w fun o w=>X6 P .len [T.b] T.d [false] [k] w fun n w=>Q3 P .geq T.d (.tmp 6) (.tmp 8) o n w fun a w=>Q0 a true w (fun w J=>J c w) fun h w=>Q0 a true w (fun w J=>J c w) fun e w=>Q0 a true w (X6 P .len [T.b] T.d [false] [e]) fun b w=>Q0 a true w (fun w J=>J k w) fun i w=>Q0 a true w (X6 P .len [T.b] T.d [false] [i]) fun l w=>Q0 a true w (Q3 P .sub T.d (.tmp 13) (.tmp 15) b l) fun j w=>Q0 a true w (R6 P T.b h (some j) none none) fun g w=>Q0 a true w (fun w J=>J k w) fun m w=>Q0 a true w (Q3 P .eql T.b (.tmp 17) (.tmp 18) g m) fun d w=>pick P a d (.bool false) w fun f w=>K f w
theorem He {a b:Value} {w:World} {K:Value→World→Prop} (h:Jd a b w K):Q1 P F.a6 [a,b] w K:=Q8 (List.replicate 2 none) Tryz.func202 rfl (by decide) (by kernel_rfl) h
def Lr (a b:Value) (w:World) (K:Value→World→Prop):Prop:= Q1 P F.a6 [a,b] w fun c w=>K c w
theorem Ka {a b:Value} {w:World} {K:Value→World→Prop} (h:Lr a b w K):Q1 P F.bv [a,b] w K:=Q8 (List.replicate 2 none) Tryz.func185 rfl (by decide) (by kernel_rfl) h
def Yq (a f:Value) (w:World) (K:Value→World→Prop):Prop:= Q1 P F.a6 [a,f] w fun g w=>X1 g (X6 P .len [T.b] T.d [false] [a] w fun d w=>X6 P .len [T.b] T.d [false] [f] w fun c w=>Q3 P .sub T.d (.tmp 10) (.tmp 12) d c w fun b w=>R6 P T.b a none (some b) none w fun e w=>K e w) (K a w)
theorem Ed {a b:Value} {w:World} {K:Value→World→Prop} (h:Yq a b w K):Q1 P F.bR [a,b] w K:=Q8 (List.replicate 5 none) Tryz.func204 rfl (by decide) (by kernel_rfl) h
def Vs (a b:Value) (w:World) (K:Value→World→Prop):Prop:= Q1 P F.bR [a,b] w fun c w=>K c w
theorem Fk {a b:Value} {w:World} {K:Value→World→Prop} (h:Vs a b w K):Q1 P F.bh [a,b] w K:=Q8 (List.replicate 2 none) Tryz.func186 rfl (by decide) (by kernel_rfl) h
def Q4M:V3:=[none,none,none,some ([0,4],[0,4,5,6,7,8,9,10]),none,none,none]
def Q0v (d:Value) (w:World) (K:Value→World→Prop):Prop:= lp (α:=Value×Value) (d,(.int .i64 0)) w fun a b g w=>Q1 P F.bv [b.1,(.string ⟨#[91,93]⟩)] w fun f w=>X1 f (Q1 P F.bh [b.1,(.string ⟨#[91,93]⟩)] w fun e w=>Q3 P .add T.d (.tmp 9) (.const (.int .i64 1)) b.2 (.int .i64 1) w fun c w=>a (e,c) w) (K (.tuple #[b.1,b.2]) w)
theorem Q51 {a:Value} {w:World} {K:Value→World→Prop} (h:Q0v a w K):Q1 P F.cc [a] w K:=Q8 Q4M Tryz.func155 rfl (by decide) (by kernel_rfl) h
def Tf (k:Value) (w:World) (K:Value→World→Prop):Prop:= Q1 P F.cc [k] w fun j w=>ext P j 0 w fun i w=>ext P j 1 w fun l w=>Q3 P .leq T.d (.tmp 10) (.const (.int .i64 3)) l (.int .i64 3) w fun a w=>Q0 a true w (fun w J=>J i w) fun c w=>Q0 a true w (Q1 P F.aC [c]) fun f w=>Q0 a true w (fun w J=>J f w) fun b w=>Q0 b false w (fun w J=>J i w) fun g w=>Q0 b false w (Q1 P F.ae [g]) fun e w=>Q0 a true w (pick P b (.bool true) e) fun h w=>pick P a h (.bool false) w fun d w=>K d w
theorem Q3z {a:Value} {w:World} {K:Value→World→Prop} (h:Tf a w K):Q1 P F.w [a] w K:=Q8 (List.replicate 3 none) Tryz.func114 rfl (by decide) (by kernel_rfl) h
def Cf (b:Value) (w:World) (K:Value→World→Prop):Prop:= Q1 P F.bL [b] w fun a w=>Q0 a true w (fun w J=>J b w) fun d w=>Q0 a true w (Q1 P F.ae [d]) fun f w=>Q0 a true w (Z8 P .not f) fun c w=>pick P a c (.bool false) w fun e w=>K e w
theorem Q21 {a:Value} {w:World} {K:Value→World→Prop} (h:Cf a w K):Q1 P F.bA [a] w K:=Q8 (List.replicate 2 none) Tryz.func133 rfl (by decide) (by kernel_rfl) h
def Hq (d:Value) (w:World) (K:Value→World→Prop):Prop:= box P T.j d w fun a w=>fieldAddr P T.j a 0 w fun g w=>Q2 P T.b g w fun f w=>Q1 P F.bA [f] w fun b w=>Q0 b true w (fieldAddr P T.j a 1) fun i w=>Q0 b true w (Q2 P T.b i) fun e w=>Q0 b true w (Q1 P F.w [e]) fun h w=>pick P b h (.bool false) w fun c w=>K c w
theorem Q1r {a:Value} {w:World} {K:Value→World→Prop} (h:Hq a w K):Q1 P F.bl [a] w K:=Q8 (List.replicate 2 none) Tryz.func132 rfl (by decide) (by kernel_rfl) h
def Qz (b f:Value) (w:World) (K:Value→World→Prop):Prop:= box P T.c b w fun a w=>Q2 P T.ac f w fun e w=>Q2 P T.c a w fun c w=>Y6 P e [c] w fun d w=>Z8 P .not d w fun g w=>K g w
theorem Oe {a b:Value} {w:World} {K:Value→World→Prop} (h:Qz a b w K):Q1 P F.bB [a,b] w K:=Q8 (List.replicate 2 none) Tryz.func170 rfl (by decide) (by kernel_rfl) h
def Zi (b e:Value) (w:World) (K:Value→World→Prop):Prop:= box P T.ac e w fun a w=>N0 P (.func F.bB) [] [a] w fun d w=>Q1 P F.a [b,d] w fun f w=>Z8 P .not f w fun c w=>K c w
theorem Ek {a b:Value} {w:World} {K:Value→World→Prop} (h:Zi a b w K):Q1 P F.ah [a,b] w K:=Q8 (List.replicate 2 none) Tryz.func134 rfl (by decide) (by kernel_rfl) h
def En (B A:Value) (w:World) (K:Value→World→Prop):Prop:= box P T.p B w fun a w=>fieldAddr P T.p a 0 w fun H w=>Q2 P T.d H w fun E w=>Q3 P .geq T.d (.tmp 5) (.const (.int .i64 0)) E (.int .i64 0) w fun f w=>Q0 f true w (fieldAddr P T.p a 1) fun C w=>Q0 f true w (Q2 P T.d C) fun D w=>Q0 f true w (fieldAddr P T.p a 0) fun r w=>Q0 f true w (Q2 P T.d r) fun z w=>Q0 f true w (Q3 P .gtr T.d (.tmp 9) (.tmp 11) D z) fun l w=>pick P f l (.bool false) w fun b w=>Q0 b true w (fieldAddr P T.p a 1) fun t w=>Q0 b true w (Q2 P T.d t) fun i w=>Q0 b true w (Q2 P T.d A) fun h w=>Q0 b true w (Q3 P .leq T.d (.tmp 16) (.tmp 17) i h) fun o w=>pick P b o (.bool false) w fun e w=>Q0 e true w (fieldAddr P T.p a 2) fun u w=>Q0 e true w (Q2 P T.d u) fun p w=>Q0 e true w (Q3 P .geq T.d (.tmp 22) (.const (.int .i64 0)) p (.int .i64 0)) fun m w=>pick P e m (.bool false) w fun c w=>Q0 c true w (fieldAddr P T.p a 2) fun k w=>Q0 c true w (Q2 P T.d k) fun v w=>Q0 c true w (Q2 P T.d A) fun y w=>Q0 c true w (Q3 P .lss T.d (.tmp 27) (.tmp 28) v y) fun q w=>pick P c q (.bool false) w fun d w=>Q0 d true w (fieldAddr P T.p a 3) fun g w=>Q0 d true w (Q2 P T.b g) fun s w=>Q0 d true w (Q1 P F.ae [s]) fun n w=>pick P d n (.bool false) w fun j w=>K j w
theorem Q0H {a b:Value} {w:World} {K:Value→World→Prop} (h:En a b w K):Q1 P F.b2 [a,b] w K:=Q8 (List.replicate 2 none) Tryz.func171 rfl (by decide) (by kernel_rfl) h
def Qr:V3:=[none,none,none,some ([8],[4,5,8,9,10,11,12,13,14,15,16,17,18]),none,none,none,none,none,none,none]
def R4 (g i:Value) (w:World) (K:Value→World→Prop):Prop:= X6 P .len [T.m] T.d [false] [g] w fun j w=>lp (α:=Value) (.int .i64 0) w fun a b k w=>Q3 P .lss T.d (.tmp 8) (.tmp 7) b j w fun h w=>X1 h (indexAddr P T.m g b w fun c w=>Q2 P T.s c w fun d w=>Y6 P i [d] w fun e w=>X1 e (K b w) (Q3 P .add T.d (.tmp 8) (.const (.int .i64 1)) b (.int .i64 1) w fun f w=>a f w)) (K (.int .i64 (-1)) w)
theorem Qw {a b:Value} {w:World} {K:Value→World→Prop} (h:R4 a b w K):Q1 P F.a0 [a,b] w K:=Q8 Qr Tryz.func208 rfl (by decide) (by kernel_rfl) h
def E7 (a c:Value) (w:World) (K:Value→World→Prop):Prop:= Q1 P F.a0 [a,c] w fun d w=>Q3 P .geq T.d (.tmp 7) (.const (.int .i64 0)) d (.int .i64 0) w fun b w=>K b w
theorem P8 {a b:Value} {w:World} {K:Value→World→Prop} (h:E7 a b w K):Q1 P F.k [a,b] w K:=Q8 (List.replicate 2 none) Tryz.func194 rfl (by decide) (by kernel_rfl) h
def Xz (b f:Value) (w:World) (K:Value→World→Prop):Prop:= box P T.s b w fun a w=>Q2 P T.ag f w fun e w=>Q2 P T.s a w fun c w=>Y6 P e [c] w fun d w=>Z8 P .not d w fun g w=>K g w
theorem Dc {a b:Value} {w:World} {K:Value→World→Prop} (h:Xz a b w K):Q1 P F.bF [a,b] w K:=Q8 (List.replicate 2 none) Tryz.func195 rfl (by decide) (by kernel_rfl) h
def Zv (b e:Value) (w:World) (K:Value→World→Prop):Prop:= box P T.ag e w fun a w=>N0 P (.func F.bF) [] [a] w fun d w=>Q1 P F.k [b,d] w fun f w=>Z8 P .not f w fun c w=>K c w
theorem Ey {a b:Value} {w:World} {K:Value→World→Prop} (h:Zv a b w K):Q1 P F.an [a,b] w K:=Q8 (List.replicate 2 none) Tryz.func172 rfl (by decide) (by kernel_rfl) h
def Yo:V3:=[none,none,none,some ([8],[4,5,8,9,10,11,12,13,14,15,16,17,18]),none,none,none,none,none,none,none]
def C7 (g i:Value) (w:World) (K:Value→World→Prop):Prop:= X6 P .len [T.ap] T.d [false] [g] w fun j w=>lp (α:=Value) (.int .i64 0) w fun a b k w=>Q3 P .lss T.d (.tmp 8) (.tmp 7) b j w fun h w=>X1 h (indexAddr P T.ap g b w fun c w=>Q2 P T.ab c w fun d w=>Y6 P i [d] w fun e w=>X1 e (K b w) (Q3 P .add T.d (.tmp 8) (.const (.int .i64 1)) b (.int .i64 1) w fun f w=>a f w)) (K (.int .i64 (-1)) w)
theorem Zj {a b:Value} {w:World} {K:Value→World→Prop} (h:C7 a b w K):Q1 P F.r [a,b] w K:=Q8 Yo Tryz.func221 rfl (by decide) (by kernel_rfl) h
def Gl (b f:Value) (w:World) (K:Value→World→Prop):Prop:= box P T.ab b w fun a w=>fieldAddr P T.ab a 0 w fun e w=>Q2 P T.b e w fun c w=>Q2 P T.b f w fun d w=>Q3 P .eql T.b (.tmp 5) (.tmp 6) c d w fun g w=>K g w
theorem Q2W {a b:Value} {w:World} {K:Value→World→Prop} (h:Gl a b w K):Q1 P F.cw [a,b] w K:=Q8 (List.replicate 2 none) Tryz.func222 rfl (by decide) (by kernel_rfl) h
def Q0g (b:Value) (w:World) (K:Value→World→Prop):Prop:= box P T.b b w fun a w=>R6 P T.ad (.pointer (some ⟨G.a,0,none⟩)) none none none w fun e w=>N0 P (.func F.cw) [] [a] w fun d w=>Q1 P F.r [e,d] w fun c w=>K c w
theorem Q55 {a:Value} {w:World} {K:Value→World→Prop} (h:Q0g a w K):Q1 P F.ct [a] w K:=Q8 (List.replicate 2 none) Tryz.func209 rfl (by decide) (by kernel_rfl) h
def Tj (p:Value) (w:World) (K:Value→World→Prop):Prop:= Q1 P F.ct [p] w fun o w=>Q3 P .lss T.d (.tmp 8) (.const (.int .i64 0)) o (.int .i64 0) w fun q w=>X1 q (K (.tuple #[(.bool false),(.bool false),(.bool false)]) w) (dr w fun a l=>Q6 a (fun c=> ∀w,l w→indexAddr P T.ad (.pointer (some ⟨G.a,0,none⟩)) o w (dk a c w)) fun c=>Q6 a (fun h=> ∀i w,l w→c i w→fieldAddr P T.ab i 1 w (dk a h w)) fun h=>Q6 a (fun f=> ∀w,l w→indexAddr P T.ad (.pointer (some ⟨G.a,0,none⟩)) o w (dk a f w)) fun f=>Q6 a (fun d=> ∀g w,l w→f g w→fieldAddr P T.ab g 2 w (dk a d w)) fun d=>Q6 a (fun j=> ∀e w,l w→h e w→Q2 P T.q e w (dk a j w)) fun j=>Q6 a (fun k=> ∀b w,l w→d b w→Q2 P T.q b w (dk a k w)) fun k=>∀i e g b n m w,l w→c i w→h e w→f g w→d b w→j n w→k m w→ K (.tuple #[n,m,(.bool true)]) w)
theorem Q4d {a:Value} {w:World} {K:Value→World→Prop} (h:Tj a w K):Q1 P F.c1 [a] w K:=Q8 (List.replicate 6 none) Tryz.func196 rfl (by decide) (by kernel_rfl) h
def Q0o (c:Value) (w:World) (K:Value→World→Prop):Prop:= Q1 P F.cc [c] w fun d w=>ext P d 0 w fun f w=>ext P d 1 w fun e w=>Q1 P F.w [c] w fun b w=>Z8 P .not b w fun a w=>X1 a (K (.int .i64 0) w) (K e w)
theorem Q4H {a:Value} {w:World} {K:Value→World→Prop} (h:Q0o a w K):Q1 P F.cb [a] w K:=Q8 (List.replicate 6 none) Tryz.func115 rfl (by decide) (by kernel_rfl) h
def Jb (a b:Value) (w:World) (K:Value→World→Prop):Prop:= Q1 P F.bH [a,b] w fun c w=>K c w
theorem Ha {a b:Value} {w:World} {K:Value→World→Prop} (h:Jb a b w K):Q1 P F.ap [a,b] w K:=Q8 (List.replicate 2 none) Tryz.func227 rfl (by decide) (by kernel_rfl) h
def Gv:V3:=[none,none,none,none,none,none,none,none,none,none,none,none,none,none,none,none,none,some ([8,10],[4,8,10,11,12,13,57,58,59,60,61,62,63,64,65,66,67,68,69,70,71,72,73,74,75,76,77,78,79,80,81,82,83,84,85,86,87,88,89,90,91,92,93,94,95,96,97,98,99,100,101,102,103,104,105,106,107,108,109,110,111,112,113,114,115,116,117,118,119,120,121,122,123,124,125,126,127,128,129,130,131,132,133,134,135,136,137,138,139,140,141,142]),none,none,some ([8],[4,8,11,60,61,62,63,64,65,66,67,68,69,70,71,72,73,74,75,76,77]),none,none,none,none,none,none,none,none,none,none,none,none,none,none,none,none,none,none,none,none,none,none,none]
def Mk (h k:Value) (w:World) (K:Value→World→Prop):Prop:= X6 P .len [T.b] T.d [false] [k] w fun e w=>Q3 P .eql T.d (.tmp 17) (.const (.int .i64 0)) e (.int .i64 0) w fun m w=>Q0 m false w (fun w J=>J k w) fun ai w=>Q0 m false w (fun w J=>J h w) fun ak w=>Q0 m false w (Q3 P .eql T.b (.tmp 20) (.tmp 21) ai ak) fun a8 w=>pick P m (.bool true) a8 w fun ag w=>X1 ag (K (.int .i64 0) w) (Q3 P .eql T.d (.tmp 25) (.const (.int .i64 1)) e (.int .i64 1) w fun a2 w=>X1 a2 (D7 P T.b k (.int .i64 0) w fun bb w=>Q1 P F.ap [h,bb] w fun aa w=>K aa w) (X6 P .len [T.b] T.d [false] [h] w fun ah w=>Q3 P .geq T.d (.tmp 32) (.tmp 34) e ah w fun ad w=>X1 ad (K (.int .i64 (-1)) w) (Q2 P T.d (.pointer (some ⟨G.c,0,none⟩)) w fun ao w=>Q3 P .leq T.d (.tmp 37) (.tmp 38) e ao w fun l w=>Q0 l true w (fun w J=>J h w) fun am w=>Q0 l true w (X6 P .len [T.b] T.d [false] [am]) fun ay w=>Q0 l true w (Q3 P .leq T.d (.tmp 42) (.const (.int .i64 64)) ay (.int .i64 64)) fun ba w=>pick P l ba (.bool false) w fun ab w=>X1 ab (Q1 P F.c9 [h,k] w fun a7 w=>K a7 w) (D7 P T.b k (.int .i64 0) w fun X w=>D7 P T.b k (.int .i64 1) w fun ap w=>X6 P .len [T.b] T.d [false] [h] w fun av w=>Q3 P .sub T.d (.tmp 53) (.tmp 54) av e w fun af w=>Q3 P .add T.d (.tmp 55) (.const (.int .i64 1)) af (.int .i64 1) w fun p w=>lp (α:=Value×Value) ((.int .i64 0),(.int .i64 0)) w fun j g d_ w=>Q3 P .lss T.d (.tmp 57) (.tmp 58) g.1 p w fun a6 w=>X1 a6 (jn (α:=Value) w (fun N w=>D7 P T.b h g.1 w fun aq w=>Q3 P .neq T.a0 (.tmp 62) (.tmp 63) aq X w fun be w=>X1 be (Q3 P .add T.d (.tmp 66) (.const (.int .i64 1)) g.1 (.int .i64 1) w fun ac w=>R6 P T.b h (some ac) (some p) none w fun ax w=>Q1 P F.ap [ax,X] w fun E w=>Q3 P .lss T.d (.tmp 72) (.const (.int .i64 0)) E (.int .i64 0) w fun a3 w=>X1 a3 (K (.int .i64 (-1)) w) (Q3 P .add T.d (.tmp 75) (.const (.int .i64 1)) E (.int .i64 1) w fun bc w=>Q3 P .add T.d (.tmp 74) (.tmp 76) g.1 bc w fun ar w=>N ar w)) (N g.1 w)) fun i d_ w=>Q3 P .add T.d (.tmp 79) (.const (.int .i64 1)) i (.int .i64 1) w fun az w=>D7 P T.b h az w fun a5 w=>Q3 P .eql T.a0 (.tmp 81) (.tmp 82) a5 ap w fun b w=>Q0 b true w (fun w J=>J h w) fun an w=>Q0 b true w (fun w J=>J i w) fun a9 w=>Q0 b true w (fun w J=>J i w) fun ae w=>Q0 b true w (fun w J=>J e w) fun aj w=>Q0 b true w (Q3 P .add T.d (.tmp 87) (.tmp 88) ae aj) fun aw w=>Q0 b true w (R6 P T.b an (some a9) (some aw) none) fun bf w=>Q0 b true w (fun w J=>J k w) fun al w=>Q0 b true w (Q3 P .eql T.b (.tmp 90) (.tmp 91) bf al) fun a4 w=>pick P b a4 (.bool false) w fun bd w=>X1 bd (K i w) (Q3 P .add T.d (.tmp 95) (.const (.int .i64 1)) i (.int .i64 1) w fun c w=>Q3 P .add T.d (.tmp 97) (.const (.int .i64 1)) g.2 (.int .i64 1) w fun q w=>Q2 P T.d (.pointer (some ⟨G.c,0,none⟩)) w fun R w=>Q3 P .leq T.d (.tmp 99) (.tmp 100) e R w fun d w=>Q0 d true w (fun w J=>J q w) fun V w=>Q0 d true w (fun w J=>J c w) fun u w=>Q0 d true w (Q1 P F.cA [u]) fun L w=>Q0 d true w (Q3 P .gtr T.d (.tmp 103) (.tmp 105) V L) fun U w=>pick P d U (.bool false) w fun O w=>X1 O (R6 P T.b h (some c) none none w fun D w=>Q1 P F.c9 [D,k] w fun n w=>Q3 P .geq T.d (.tmp 113) (.const (.int .i64 0)) n (.int .i64 0) w fun z w=>X1 z (Q3 P .add T.d (.tmp 115) (.tmp 116) n c w fun r w=>K r w) (K (.int .i64 (-1)) w)) (Q2 P T.d (.pointer (some ⟨G.c,0,none⟩)) w fun M w=>Q3 P .gtr T.d (.tmp 118) (.tmp 119) e M w fun a w=>Q0 a true w (fun w J=>J q w) fun C w=>Q0 a true w (fun w J=>J c w) fun t w=>Q0 a true w (Q3 P .shr T.d (.tmp 123) (.const (.int .u64 4)) t (.int .u64 4)) fun H w=>Q0 a true w (Q3 P .add T.d (.const (.int .i64 4)) (.tmp 124) (.int .i64 4) H) fun Z w=>Q0 a true w (Q3 P .geq T.d (.tmp 122) (.tmp 125) C Z) fun s w=>pick P a s (.bool false) w fun f w=>Q0 f true w (fun w J=>J c w) fun Y w=>Q0 f true w (fun w J=>J p w) fun A w=>Q0 f true w (Q3 P .lss T.d (.tmp 129) (.tmp 130) Y A) fun y w=>pick P f y (.bool false) w fun W w=>X1 W (R6 P T.b h (some c) none none w fun v w=>Q1 P F.cr [v,k] w fun o w=>Q3 P .lss T.d (.tmp 138) (.const (.int .i64 0)) o (.int .i64 0) w fun B w=>X1 B (K (.int .i64 (-1)) w) (Q3 P .add T.d (.tmp 140) (.tmp 141) c o w fun Q w=>K Q w)) (j (c,q) w)))) (K (.int .i64 (-1)) w)))))
theorem Iz {a b:Value} {w:World} {K:Value→World→Prop} (h:Mk a b w K):Q1 P F.bw [a,b] w K:=Q8 Gv Tryz.func228 rfl (by decide) (by kernel_rfl) h
def Of (l n:Value) (w:World) (K:Value→World→Prop):Prop:= Q1 P F.bw [l,n] w fun g w=>Q3 P .geq T.d (.tmp 11) (.const (.int .i64 0)) g (.int .i64 0) w fun m w=>X1 m (dr w fun e j=>Q6 e (fun h=> ∀w,j w→R6 P T.b l none (some g) none w (dk e h w)) fun h=>Q6 e (fun d=> ∀w,j w→X6 P .len [T.b] T.d [false] [n] w (dk e d w)) fun d=>Q6 e (fun b=> ∀a w,j w→d a w→Q3 P .add T.d (.tmp 17) (.tmp 19) g a w (dk e b w)) fun b=>Q6 e (fun f=> ∀c w,j w→b c w→R6 P T.b l (some c) none none w (dk e f w)) fun f=>∀i a c k w,j w→h i w→d a w→b c w→f k w→ K (.tuple #[i,k,(.bool true)]) w) (K (.tuple #[l,(.string ⟨#[]⟩),(.bool false)]) w)
theorem Q05 {a b:Value} {w:World} {K:Value→World→Prop} (h:Of a b w K):Q1 P F.cq [a,b] w K:=Q8 (List.replicate 6 none) Tryz.func229 rfl (by decide) (by kernel_rfl) h
def Gh (e f:Value) (w:World) (K:Value→World→Prop):Prop:= Q1 P F.cq [e,f] w fun b w=>ext P b 0 w fun c w=>ext P b 1 w fun d w=>ext P b 2 w fun a w=>K (.tuple #[c,d,a]) w
theorem Q36 {a b:Value} {w:World} {K:Value→World→Prop} (h:Gh a b w K):Q1 P F.cg [a,b] w K:=Q8 (List.replicate 2 none) Tryz.func224 rfl (by decide) (by kernel_rfl) h
end Go.Proofs.YtjdiakhipmggjaaGreatDoor

set_option maxRecDepth 100000
namespace Go.Proofs.YtjdiakhipmggjaaGreatDoor
open Go.Emb
def Te (t:Value) (w:World) (K:Value→World→Prop):Prop:= Q1 P F.cg [t,(.string ⟨#[46]⟩)] w fun e w=>ext P e 0 w fun f w=>ext P e 1 w fun d w=>ext P e 2 w fun j w=>Z8 P .not j w fun c w=>Q0 c false w (fun w J=>J f w) fun i w=>Q0 c false w (Q1 P F.ae [i]) fun n w=>Q0 c false w (Z8 P .not n) fun k w=>pick P c (.bool true) k w fun b w=>Q0 b false w (fun w J=>J d w) fun o w=>Q0 b false w (Q1 P F.bL [o]) fun m w=>Q0 b false w (Z8 P .not m) fun l w=>pick P b (.bool true) l w fun a w=>Q0 a false w (fun w J=>J d w) fun r w=>Q0 a false w (D7 P T.b r (.int .i64 0)) fun s w=>Q0 a false w (conv P T.a0 T.am s) fun p w=>Q0 a false w (Q1 P F.c0 [p]) fun g w=>Q0 a false w (Z8 P .not g) fun q w=>pick P a (.bool true) q w fun h w=>X1 h (K (.tuple #[(.string ⟨#[]⟩),(.string ⟨#[]⟩),(.int .i64 30)]) w) (K (.tuple #[f,d,(.int .i64 0)]) w)
theorem Q3s {a:Value} {w:World} {K:Value→World→Prop} (h:Te a w K):Q1 P F.cp [a] w K:=Q8 (List.replicate 6 none) Tryz.func211 rfl (by decide) (by kernel_rfl) h
def Q4J:V3:=[none,none,none,none,none,none,none,some ([27],[27,28,29]),none,none,none,none,none,none]
def Q0c (g b:Value) (w:World) (K:Value→World→Prop):Prop:= Q3 P .eql T.b (.tmp 8) (.const (.string ⟨#[119,111,114,100]⟩)) g (.string ⟨#[119,111,114,100]⟩) w fun A w=>X1 A (X6 P .len [T.b] T.d [false] [b] w fun q w=>Q3 P .leq T.d (.tmp 12) (.const (.int .i64 64)) q (.int .i64 64) w fun f w=>Q0 f true w (fun w J=>J b w) fun C w=>Q0 f true w (Q1 P F.aN [C]) fun l w=>pick P f l (.bool false) w fun a w=>Q0 a true w (fun w J=>J b w) fun o w=>Q0 a true w (Q1 P F.cl [o,(.string ⟨#[10]⟩)]) fun v w=>Q0 a true w (Z8 P .not v) fun D w=>pick P a D (.bool false) w fun u w=>K u w) (Q3 P .eql T.b (.tmp 8) (.const (.string ⟨#[110,101,119]⟩)) g (.string ⟨#[110,101,119]⟩) w fun r w=>X1 r (Q1 P F.ae [b] w fun p w=>K p w) (jn (α:=Value) w (fun L w=>Q3 P .eql T.b (.tmp 8) (.const (.string ⟨#[105,115]⟩)) g (.string ⟨#[105,115]⟩) w fun h w=>X1 h (L h w) (Q3 P .eql T.b (.tmp 8) (.const (.string ⟨#[99,97,115,116]⟩)) g (.string ⟨#[99,97,115,116]⟩) w fun y w=>L y w)) fun N Q w=>X1 N (Q1 P F.w [b] w fun c w=>Q0 c true w (fun w J=>J b w) fun B w=>Q0 c true w (Q1 P F.aC [B]) fun t w=>Q0 c true w (Z8 P .not t) fun n w=>pick P c n (.bool false) w fun m w=>K m w) (Q3 P .eql T.b (.tmp 8) (.const (.string ⟨#[97,114,114,97,121]⟩)) g (.string ⟨#[97,114,114,97,121]⟩) w fun E w=>X1 E (Q1 P F.w [b] w fun d w=>Q0 d true w (fun w J=>J b w) fun j w=>Q0 d true w (Q1 P F.cb [j]) fun z w=>Q0 d true w (Q3 P .lss T.d (.tmp 43) (.const (.int .i64 3)) z (.int .i64 3)) fun k w=>pick P d k (.bool false) w fun s w=>K s w) (Q1 P F.cp [b] w fun e w=>ext P e 0 w fun O w=>ext P e 1 w fun M w=>ext P e 2 w fun H w=>Q3 P .eql T.w (.tmp 52) (.const (.int .i64 0)) H (.int .i64 0) w fun i w=>K i w))))
theorem Q4R {a b:Value} {w:World} {K:Value→World→Prop} (h:Q0c a b w K):Q1 P F.cs [a,b] w K:=Q8 Q4J Tryz.func197 rfl (by decide) (by kernel_rfl) h
def Q4s:V3:=[none,none,none,none,none,some ([16],[16,17,18,19,20,21,22,23,24,25,26,27,28,29,30,31,32,33,34,35,36,37,38,39]),none,none,none,none]
def Kj (B:Value) (w:World) (K:Value→World→Prop):Prop:= box P T.s B w fun a w=>fieldAddr P T.s a 0 w fun D w=>Q2 P T.b D w fun C w=>Q1 P F.c1 [C] w fun j w=>ext P j 0 w fun q w=>ext P j 1 w fun b w=>ext P j 2 w fun i w=>Z8 P .not i w fun s w=>X1 s (K (.int .i64 40) w) (jn (α:=Value) w (fun p w=>Z8 P .not q w fun c w=>Q0 c true w (fieldAddr P T.s a 1) fun n w=>Q0 c true w (Q2 P T.ah n) fun t w=>Q0 c true w (Q3 P .neq T.ah (.tmp 21) (.const (.int .i64 0)) t (.int .i64 0)) fun l w=>pick P c l (.bool false) w fun f w=>X1 f (p f w) (Z8 P .not b w fun d w=>Q0 d true w (fieldAddr P T.s a 2) fun u w=>Q0 d true w (Q2 P T.b u) fun y w=>Q0 d true w (Q3 P .neq T.b (.tmp 28) (.const (.string ⟨#[]⟩)) y (.string ⟨#[]⟩)) fun o w=>pick P d o (.bool false) w fun e w=>X1 e (p e w) (Q0 b true w (fieldAddr P T.s a 0) fun r w=>Q0 b true w (Q2 P T.b r) fun k w=>Q0 b true w (fieldAddr P T.s a 2) fun h w=>Q0 b true w (Q2 P T.b h) fun g w=>Q0 b true w (Q1 P F.cs [k,g]) fun m w=>Q0 b true w (Z8 P .not m) fun v w=>pick P b v (.bool false) w fun z w=>p z w))) fun A E w=>X1 A (K (.int .i64 41) w) (K (.int .i64 0) w))
theorem Q4u {a:Value} {w:World} {K:Value→World→Prop} (h:Kj a w K):Q1 P F.co [a] w K:=Q8 Q4s Tryz.func174 rfl (by decide) (by kernel_rfl) h
def Dv (b:Value) (w:World) (K:Value→World→Prop):Prop:= box P T.s b w fun a w=>Q2 P T.s a w fun e w=>Q1 P F.co [e] w fun d w=>Q3 P .eql T.w (.tmp 4) (.const (.int .i64 0)) d (.int .i64 0) w fun c w=>K c w
theorem Q0E {a:Value} {w:World} {K:Value→World→Prop} (h:Dv a w K):Q1 P F.b3 [a] w K:=Q8 (List.replicate 2 none) Tryz.func173 rfl (by decide) (by kernel_rfl) h
def Ql:V3:=[none,none,none,some ([8],[4,5,8,9,10,11,12,13,14,15,16,17,18]),none,none,none,none,none,none,none]
def H7 (g i:Value) (w:World) (K:Value→World→Prop):Prop:= X6 P .len [T.o] T.d [false] [g] w fun j w=>lp (α:=Value) (.int .i64 0) w fun a b k w=>Q3 P .lss T.d (.tmp 8) (.tmp 7) b j w fun h w=>X1 h (indexAddr P T.o g b w fun c w=>Q2 P T.p c w fun d w=>Y6 P i [d] w fun e w=>X1 e (K b w) (Q3 P .add T.d (.tmp 8) (.const (.int .i64 1)) b (.int .i64 1) w fun f w=>a f w)) (K (.int .i64 (-1)) w)
theorem Qp {a b:Value} {w:World} {K:Value→World→Prop} (h:H7 a b w K):Q1 P F.a1 [a,b] w K:=Q8 Ql Tryz.func212 rfl (by decide) (by kernel_rfl) h
def E6 (a c:Value) (w:World) (K:Value→World→Prop):Prop:= Q1 P F.a1 [a,c] w fun d w=>Q3 P .geq T.d (.tmp 7) (.const (.int .i64 0)) d (.int .i64 0) w fun b w=>K b w
theorem P7 {a b:Value} {w:World} {K:Value→World→Prop} (h:E6 a b w K):Q1 P F.l [a,b] w K:=Q8 (List.replicate 2 none) Tryz.func198 rfl (by decide) (by kernel_rfl) h
def Xw (b f:Value) (w:World) (K:Value→World→Prop):Prop:= box P T.p b w fun a w=>Q2 P T.af f w fun e w=>Q2 P T.p a w fun c w=>Y6 P e [c] w fun d w=>Z8 P .not d w fun g w=>K g w
theorem Ox {a b:Value} {w:World} {K:Value→World→Prop} (h:Xw a b w K):Q1 P F.bG [a,b] w K:=Q8 (List.replicate 2 none) Tryz.func199 rfl (by decide) (by kernel_rfl) h
def Zy (b e:Value) (w:World) (K:Value→World→Prop):Prop:= box P T.af e w fun a w=>N0 P (.func F.bG) [] [a] w fun d w=>Q1 P F.l [b,d] w fun f w=>Z8 P .not f w fun c w=>K c w
theorem Hb {a b:Value} {w:World} {K:Value→World→Prop} (h:Zy a b w K):Q1 P F.ao [a,b] w K:=Q8 (List.replicate 2 none) Tryz.func175 rfl (by decide) (by kernel_rfl) h
def St (a0:Value) (w:World) (K:Value→World→Prop):Prop:= box P T.c a0 w fun c w=>fieldAddr P T.c c 0 w fun t5 w=>Q2 P T.b t5 w fun t6 w=>Q1 P F.bA [t6] w fun t7 w=>Z8 P .not t7 w fun i w=>Q0 i false w (fieldAddr P T.c c 1) fun Y w=>Q0 i false w (Q2 P T.e Y) fun al w=>Q0 i false w (Q1 P F.a5 [al,(.func (.func F.w) #[] #[])]) fun A w=>Q0 i false w (Z8 P .not A) fun u w=>pick P i (.bool true) u w fun b w=>Q0 b false w (fieldAddr P T.c c 2) fun t w=>Q0 b false w (Q2 P T.b t) fun s w=>Q0 b false w (Q3 P .neq T.b (.tmp 17) (.const (.string ⟨#[]⟩)) s (.string ⟨#[]⟩)) fun N w=>Q0 b false w (fun w J=>J N w) fun g w=>Q0 g true w (fieldAddr P T.c c 2) fun R w=>Q0 g true w (Q2 P T.b R) fun aa w=>Q0 g true w (Q1 P F.w [aa]) fun O w=>Q0 g true w (Z8 P .not O) fun H w=>Q0 b false w (pick P g H (.bool false)) fun B w=>pick P b (.bool true) B w fun am w=>X1 am (K (.bool false) w) (fieldAddr P T.c c 3 w fun z w=>Q2 P T.q z w fun ab w=>X1 ab (fieldAddr P T.c c 4 w fun ai w=>Q2 P T.d ai w fun U w=>Q3 P .eql T.d (.tmp 29) (.const (.int .i64 0)) U (.int .i64 0) w fun d w=>Q0 d true w (fieldAddr P T.c c 5) fun l w=>Q0 d true w (Q2 P T.m l) fun Z w=>Q0 d true w (X6 P .len [T.m] T.d [false] [Z]) fun L w=>Q0 d true w (Q3 P .eql T.d (.tmp 34) (.const (.int .i64 0)) L (.int .i64 0)) fun y w=>pick P d y (.bool false) w fun f w=>Q0 f true w (fieldAddr P T.c c 6) fun af w=>Q0 f true w (Q2 P T.o af) fun aj w=>Q0 f true w (X6 P .len [T.o] T.d [false] [aj]) fun X w=>Q0 f true w (Q3 P .eql T.d (.tmp 40) (.const (.int .i64 0)) X (.int .i64 0)) fun ae w=>pick P f ae (.bool false) w fun n w=>K n w) (fieldAddr P T.c c 5 w fun V w=>Q2 P T.m V w fun p w=>X6 P .len [T.m] T.d [false] [p] w fun C w=>W1 P T.d w fun t3 w=>Z6 P T.d t3 C w fun _u w=>N0 P (.func F.b2) [] [t3] w fun o w=>Q2 P T.d t3 w fun Q w=>Q3 P .gtr T.d (.tmp 47) (.const (.int .i64 0)) Q (.int .i64 0) w fun a w=>Q0 a true w (fieldAddr P T.c c 4) fun j w=>Q0 a true w (Q2 P T.d j) fun ak w=>Q0 a true w (fieldAddr P T.c c 1) fun W w=>Q0 a true w (Q2 P T.e W) fun k w=>Q0 a true w (X6 P .len [T.e] T.d [false] [k]) fun r w=>Q0 a true w (Q3 P .gtr T.d (.tmp 51) (.tmp 54) ak r) fun E w=>pick P a E (.bool false) w fun h w=>Q0 h true w (fieldAddr P T.c c 5) fun ac w=>Q0 h true w (Q2 P T.m ac) fun M w=>Q0 h true w (Q1 P F.an [M,(.func (.func F.b3) #[] #[])]) fun D w=>pick P h D (.bool false) w fun e w=>Q0 e true w (fieldAddr P T.c c 6) fun m w=>Q0 e true w (Q2 P T.o m) fun ad w=>Q0 e true w (fun w J=>J o w) fun ah w=>Q0 e true w (Q1 P F.ao [ad,ah]) fun q w=>pick P e q (.bool false) w fun v w=>K v w))
theorem Q1H {a:Value} {w:World} {K:Value→World→Prop} (h:St a w K):Q1 P F.aW [a] w K:=Q8 (List.replicate 10 none) Tryz.func135 rfl (by decide) (by kernel_rfl) h
def Gi (a0:Value) (w:World) (K:Value→World→Prop):Prop:= box P T.a a0 w fun b w=>fieldAddr P T.a b 0 w fun t7 w=>Q2 P T.b t7 w fun t8 w=>fieldAddr P T.a b 1 w fun t9 w=>Q2 P T.b t9 w fun W w=>buildSlice P T.e 2 [(0,t8),(1,W)] w fun bb w=>fieldAddr P T.a b 2 w fun E w=>Q2 P T.e E w fun B w=>X6 P .append [T.e,T.e] T.e [false,false] [bb,B] w fun r w=>dr w fun o u=>Q6 o (fun n=> ∀w,u w→R6 P T.e r (some (.int .i64 1)) none none w (dk o n w)) fun n=>Q6 o (fun h=> ∀w,u w→fieldAddr P T.a b 0 w (dk o h w)) fun h=>Q6 o (fun m=> ∀j w,u w→h j w→Q2 P T.b j w (dk o m w)) fun m=>∀p j s w,u w→n p w→h j w→m s w→ Q1 P F.ac [p,s] w fun am w=>fieldAddr P T.a b 7 w fun R w=>Q2 P T.f R w fun X w=>Q1 P F.a [X,(.func (.func F.c2) #[] #[])] w fun ay w=>fieldAddr P T.a b 7 w fun M w=>Q2 P T.f M w fun ao w=>Q1 P F.a [ao,(.func (.func F.c3) #[] #[])] w fun bd w=>Q1 P F.a5 [r,(.func (.func F.ae) #[] #[])] w fun ba w=>Z8 P .not ba w fun t w=>Q0 t false w (fun w J=>J am w) fun a3 w=>pick P t (.bool true) a3 w fun d w=>Q0 d false w (fieldAddr P T.a b 2) fun N w=>Q0 d false w (Q2 P T.e N) fun C w=>Q0 d false w (Q1 P F.aG [C,(.func (.func F.c4) #[] #[])]) fun ak w=>Q0 d false w (Z8 P .not ak) fun Q w=>pick P d (.bool true) Q w fun ab w=>X1 ab (K (.bool false) w) (fieldAddr P T.a b 3 w fun a6 w=>Q2 P T.q a6 w fun a w=>Q0 a true w (fieldAddr P T.a b 4) fun a4 w=>Q0 a true w (Q2 P T.q a4) fun y w=>Q0 a true w (Z8 P .not y) fun ap w=>Q0 a true w (fun w J=>J ap w) fun f w=>Q0 f false w (fieldAddr P T.a b 1) fun ax w=>Q0 f false w (Q2 P T.b ax) fun aj w=>Q0 f false w (Q3 P .neq T.b (.tmp 48) (.const (.string ⟨#[79,98,106,101,99,116]⟩)) aj (.string ⟨#[79,98,106,101,99,116]⟩)) fun a7 w=>Q0 a true w (pick P f (.bool true) a7) fun v w=>Q0 a true w (fun w J=>J v w) fun c w=>Q0 c false w (fieldAddr P T.a b 6) fun U w=>Q0 c false w (Q2 P T.h U) fun ae w=>Q0 c false w (X6 P .len [T.h] T.d [false] [ae]) fun ai w=>Q0 c false w (Q3 P .gtr T.d (.tmp 54) (.const (.int .i64 0)) ai (.int .i64 0)) fun L w=>Q0 a true w (pick P c (.bool true) L) fun ag w=>Q0 a true w (fun w J=>J ag w) fun q w=>Q0 q false w (fun w J=>J bd w) fun Y w=>Q0 a true w (pick P q (.bool true) Y) fun aw w=>pick P a aw (.bool false) w fun D w=>X1 D (K (.bool false) w) (fieldAddr P T.a b 4 w fun ac w=>Q2 P T.q ac w fun l w=>Q0 l true w (fieldAddr P T.a b 5) fun a9 w=>Q0 l true w (Q2 P T.q a9) fun z w=>pick P l z (.bool false) w fun g w=>Q0 g false w (fun w J=>J ay w) fun af w=>Q0 g false w (fun w J=>J af w) fun k w=>Q0 k true w (fieldAddr P T.a b 4) fun ah w=>Q0 k true w (Q2 P T.q ah) fun az w=>Q0 k true w (Z8 P .not az) fun ar w=>Q0 g false w (pick P k ar (.bool false)) fun O w=>pick P g (.bool true) O w fun bc w=>X1 bc (K (.bool false) w) (fieldAddr P T.a b 6 w fun ad w=>Q2 P T.h ad w fun a5 w=>Q1 P F.aw [a5,(.func (.func F.c5) #[] #[])] w fun al w=>Z8 P .not al w fun e w=>Q0 e false w (fieldAddr P T.a b 7) fun aq w=>Q0 e false w (Q2 P T.f aq) fun an w=>Q0 e false w (Q1 P F.ak [an,(.func (.func F.c6) #[] #[])]) fun a2 w=>Q0 e false w (Z8 P .not a2) fun aa w=>pick P e (.bool true) aa w fun a1 w=>X1 a1 (K (.bool false) w) (fieldAddr P T.a b 6 w fun H w=>Q2 P T.h H w fun V w=>Q1 P F.al [V,(.func (.func F.bl) #[] #[])] w fun i w=>Q0 i true w (fieldAddr P T.a b 7) fun Z w=>Q0 i true w (Q2 P T.f Z) fun av w=>Q0 i true w (Q1 P F.ah [av,(.func (.func F.aW) #[] #[])]) fun a8 w=>pick P i a8 (.bool false) w fun A w=>K A w))))
theorem Q33 {a:Value} {w:World} {K:Value→World→Prop} (h:Gi a w K):Q1 P F.cf [a] w K:=Q8 (List.replicate 15 none) Tryz.func78 rfl (by decide) (by kernel_rfl) h
def Gp (b:Value) (w:World) (K:Value→World→Prop):Prop:= box P T.a b w fun a w=>Q2 P T.a a w fun e w=>Q1 P F.cn [e] w fun c w=>X1 c (K (.int .i64 51) w) (Q2 P T.a a w fun g w=>Q1 P F.cf [g] w fun d w=>Z8 P .not d w fun f w=>X1 f (K (.int .i64 50) w) (K (.int .i64 0) w))
theorem Q2Y {a:Value} {w:World} {K:Value→World→Prop} (h:Gp a w K):Q1 P F.cd [a] w K:=Q8 (List.replicate 7 none) Tryz.func42 rfl (by decide) (by kernel_rfl) h
def I8 (a:Value) (w:World) (K:Value→World→Prop):Prop:= Q3 P .eql T.e (.tmp 3) (.const (.slice none 0 0)) a (.slice none 0 0) w fun c w=>X1 c (K (.slice none 0 0) w) (buildSlice P T.e 0 [] w fun b w=>X6 P .append [T.e,T.e] T.e [false,false] [b,a] w fun d w=>K d w)
theorem Vm {a:Value} {w:World} {K:Value→World→Prop} (h:I8 a w K):Q1 P F.a3 [a] w K:=Q8 (List.replicate 5 none) Tryz.func79 rfl (by decide) (by kernel_rfl) h
def C3 (a:Value) (w:World) (K:Value→World→Prop):Prop:= Q3 P .eql T.h (.tmp 3) (.const (.slice none 0 0)) a (.slice none 0 0) w fun c w=>X1 c (K (.slice none 0 0) w) (buildSlice P T.h 0 [] w fun b w=>X6 P .append [T.h,T.h] T.h [false,false] [b,a] w fun d w=>K d w)
theorem Zd {a:Value} {w:World} {K:Value→World→Prop} (h:C3 a w K):Q1 P F.a7 [a] w K:=Q8 (List.replicate 5 none) Tryz.func80 rfl (by decide) (by kernel_rfl) h
def C6 (a:Value) (w:World) (K:Value→World→Prop):Prop:= Q3 P .eql T.m (.tmp 3) (.const (.slice none 0 0)) a (.slice none 0 0) w fun c w=>X1 c (K (.slice none 0 0) w) (buildSlice P T.m 0 [] w fun b w=>X6 P .append [T.m,T.m] T.m [false,false] [b,a] w fun d w=>K d w)
theorem Yl {a:Value} {w:World} {K:Value→World→Prop} (h:C6 a w K):Q1 P F.a8 [a] w K:=Q8 (List.replicate 5 none) Tryz.func136 rfl (by decide) (by kernel_rfl) h
def C4 (a:Value) (w:World) (K:Value→World→Prop):Prop:= Q3 P .eql T.o (.tmp 3) (.const (.slice none 0 0)) a (.slice none 0 0) w fun c w=>X1 c (K (.slice none 0 0) w) (buildSlice P T.o 0 [] w fun b w=>X6 P .append [T.o,T.o] T.o [false,false] [b,a] w fun d w=>K d w)
theorem Zg {a:Value} {w:World} {K:Value→World→Prop} (h:C4 a w K):Q1 P F.a9 [a] w K:=Q8 (List.replicate 5 none) Tryz.func137 rfl (by decide) (by kernel_rfl) h
def Gm (E:Value) (w:World) (K:Value→World→Prop):Prop:= box P T.c E w fun a w=>W1 P T.c w fun B w=>dr w fun b c=>Q6 b (fun k=> ∀w,c w→fieldAddr P T.c a 1 w (dk b k w)) fun k=>Q6 b (fun n=> ∀w,c w→fieldAddr P T.c a 5 w (dk b n w)) fun n=>Q6 b (fun j=> ∀w,c w→fieldAddr P T.c a 6 w (dk b j w)) fun j=>Q6 b (fun p=> ∀s w,c w→k s w→Q2 P T.e s w (dk b p w)) fun p=>Q6 b (fun z=> ∀r w,c w→p r w→Q1 P F.a3 [r] w (dk b z w)) fun z=>Q6 b (fun l=> ∀o w,c w→n o w→Q2 P T.m o w (dk b l w)) fun l=>Q6 b (fun t=> ∀q w,c w→l q w→Q1 P F.a8 [q] w (dk b t w)) fun t=>Q6 b (fun d=> ∀m w,c w→j m w→Q2 P T.o m w (dk b d w)) fun d=>Q6 b (fun g=> ∀w,c w→fieldAddr P T.c a 1 w (dk b g w)) fun g=>Q6 b (fun f=> ∀e w,c w→d e w→Q1 P F.a9 [e] w (dk b f w)) fun f=>∀s o m r C q A e h i w,c w→k s w→n o w→j m w→p r w→z C w→l q w→t A w→d e w→g h w→f i w→ Z6 P T.e h C w fun _u w=>fieldAddr P T.c a 5 w fun u w=>Z6 P T.m u A w fun _u w=>fieldAddr P T.c a 6 w fun v w=>Z6 P T.o v i w fun _u w=>Q2 P T.c a w fun y w=>Z6 P T.c B y w fun _u w=>V4 P T.c B w fun D=>K D w
theorem Q2V {a:Value} {w:World} {K:Value→World→Prop} (h:Gm a w K):Q1 P F.bM [a] w K:=Q8 (List.replicate 3 none) Tryz.func81 rfl (by decide) (by kernel_rfl) h
def Q2U:V3:=[none,none,none,none,none,some ([3,17],[3,5,17,18,19,20,21,22,23,24,25,26]),none,none,none,none,none,none]
def Gn (R:Value) (w:World) (K:Value→World→Prop):Prop:= box P T.a R w fun a w=>W1 P T.a w fun O w=>dr w fun b g=>Q6 b (fun q=> ∀w,g w→fieldAddr P T.a a 2 w (dk b q w)) fun q=>Q6 b (fun n=> ∀w,g w→fieldAddr P T.a a 6 w (dk b n w)) fun n=>Q6 b (fun o=> ∀r w,g w→q r w→Q2 P T.e r w (dk b o w)) fun o=>Q6 b (fun u=> ∀s w,g w→o s w→Q1 P F.a3 [s] w (dk b u w)) fun u=>Q6 b (fun d=> ∀p w,g w→n p w→Q2 P T.h p w (dk b d w)) fun d=>Q6 b (fun i=> ∀w,g w→fieldAddr P T.a a 2 w (dk b i w)) fun i=>Q6 b (fun h=> ∀f w,g w→d f w→Q1 P F.a7 [f] w (dk b h w)) fun h=>∀r p s N f j m w,g w→q r w→n p w→o s w→u N w→d f w→i j w→h m w→ Z6 P T.e j N w fun _u w=>fieldAddr P T.a a 6 w fun v w=>Z6 P T.h v m w fun _u w=>fieldAddr P T.a a 7 w fun C w=>Q2 P T.f C w fun l w=>X6 P .len [T.f] T.d [false] [l] w fun t w=>lp (α:=Value×Value) ((.slice none 0 0),(.int .i64 0)) w fun e k U w=>Q3 P .lss T.d (.tmp 17) (.tmp 16) k.2 t w fun D w=>X1 D (indexAddr P T.f l k.2 w fun y w=>Q2 P T.c y w fun H w=>W1 P T.c w fun c w=>Z6 P T.c c H w fun _u w=>Q2 P T.c c w fun E w=>Q1 P F.bM [E] w fun B w=>buildSlice P T.f 1 [(0,B)] w fun A w=>X6 P .append [T.f,T.f] T.f [false,false] [k.1,A] w fun M w=>Q3 P .add T.d (.tmp 17) (.const (.int .i64 1)) k.2 (.int .i64 1) w fun z w=>e (M,z) w) (fieldAddr P T.a a 7 w fun L w=>Z6 P T.f L k.1 w fun _u w=>Q2 P T.a a w fun J w=>Z6 P T.a O J w fun _u w=>V4 P T.a O w fun Q=>K Q w)
theorem Q2Z {a:Value} {w:World} {K:Value→World→Prop} (h:Gn a w K):Q1 P F.ce [a] w K:=Q8 Q2U Tryz.func43 rfl (by decide) (by kernel_rfl) h
def Zf (e h:Value) (w:World) (K:Value→World→Prop):Prop:= nilCheck P e w fun f w=>fieldAddr P T.y f 1 w fun b w=>Q2 P T.z b w fun c w=>lookup P T.z c h true w fun a w=>ext P a 0 w fun g w=>ext P a 1 w fun d w=>K d w
theorem Ni {a b:Value} {w:World} {K:Value→World→Prop} (h:Zf a b w K):Q1 P F.j [a,b] w K:=Q8 (List.replicate 3 none) Tryz.func44 rfl (by decide) (by kernel_rfl) h
def Wa (r v:Value) (w:World) (K:Value→World→Prop):Prop:= W1 P T.a w fun t w=>dr w fun a h=>Q6 a (fun l=> ∀w,h w→nilCheck P r w (dk a l w)) fun l=>Q6 a (fun k=> ∀m w,h w→l m w→fieldAddr P T.y m 0 w (dk a k w)) fun k=>Q6 a (fun c=> ∀w,h w→nilCheck P r w (dk a c w)) fun c=>Q6 a (fun b=> ∀e w,h w→c e w→fieldAddr P T.y e 1 w (dk a b w)) fun b=>Q6 a (fun p=> ∀n w,h w→k n w→Q2 P T.g n w (dk a p w)) fun p=>Q6 a (fun f=> ∀g w,h w→b g w→Q2 P T.z g w (dk a f w)) fun f=>Q6 a (fun i=> ∀d w,h w→f d w→lookup P T.z d v false w (dk a i w)) fun i=>∀m n e g s d j w,h w→l m w→k n w→c e w→b g w→p s w→f d w→i j w→ indexAddr P T.g s j w fun q w=>Q2 P T.a q w fun o w=>Z6 P T.a t o w fun _u w=>V4 P T.a t w fun u=>K u w
theorem Co {a b:Value} {w:World} {K:Value→World→Prop} (h:Wa a b w K):Q1 P F.g [a,b] w K:=Q8 (List.replicate 2 none) Tryz.func82 rfl (by decide) (by kernel_rfl) h
def Sb:V3:=[none,none,none,none,none,none,some ([29],[4,6,29,30,31,32,33,34,35,36,37,38,39,40,41,42,43,44]),none,none,none,none,none,none,none]
def Vc (g O:Value) (w:World) (K:Value→World→Prop):Prop:= box P T.a O w fun a w=>fieldAddr P T.a a 1 w fun Q w=>Q2 P T.b Q w fun R w=>Q1 P F.j [g,R] w fun B w=>Z8 P .not B w fun d w=>Q0 d false w (fun w J=>J g w) fun n w=>Q0 d false w (fieldAddr P T.a a 1) fun s w=>Q0 d false w (Q2 P T.b s) fun C w=>Q0 d false w (Q1 P F.g [n,C]) fun m w=>Q0 d false w (Yy P T.a m 3) fun l w=>pick P d (.bool true) l w fun c w=>Q0 c false w (fun w J=>J g w) fun v w=>Q0 c false w (fieldAddr P T.a a 1) fun D w=>Q0 c false w (Q2 P T.b D) fun t w=>Q0 c false w (Q1 P F.g [v,t]) fun r w=>Q0 c false w (Yy P T.a r 5) fun q w=>pick P c (.bool true) q w fun N w=>X1 N (K (.int .i64 61) w) (fieldAddr P T.a a 2 w fun p w=>Q2 P T.e p w fun h w=>X6 P .len [T.e] T.d [false] [h] w fun L w=>lp (α:=Value) (.int .i64 0) w fun e u U w=>Q3 P .lss T.d (.tmp 29) (.tmp 28) u L w fun i w=>X1 i (indexAddr P T.e h u w fun y w=>Q2 P T.b y w fun f w=>Q1 P F.j [g,f] w fun o w=>Z8 P .not o w fun b w=>Q0 b false w (fun w J=>J g w) fun H w=>Q0 b false w (fun w J=>J f w) fun M w=>Q0 b false w (Q1 P F.g [H,M]) fun A w=>Q0 b false w (Yy P T.a A 3) fun E w=>Q0 b false w (Z8 P .not E) fun j w=>pick P b (.bool true) j w fun z w=>X1 z (K (.int .i64 62) w) (Q3 P .add T.d (.tmp 29) (.const (.int .i64 1)) u (.int .i64 1) w fun k w=>e k w)) (K (.int .i64 0) w))
theorem Sn {a b:Value} {w:World} {K:Value→World→Prop} (h:Vc a b w K):Q1 P F.aX [a,b] w K:=Q8 Sb Tryz.func45 rfl (by decide) (by kernel_rfl) h
def Qx:V3:=[none,none,none,some ([8],[4,5,8,9,10,11,12,13,14,15,16,17,18]),none,none,none,none,none,none,none]
def R0 (g i:Value) (w:World) (K:Value→World→Prop):Prop:= X6 P .len [T.g] T.d [false] [g] w fun j w=>lp (α:=Value) (.int .i64 0) w fun a b k w=>Q3 P .lss T.d (.tmp 8) (.tmp 7) b j w fun h w=>X1 h (indexAddr P T.g g b w fun c w=>Q2 P T.a c w fun d w=>Y6 P i [d] w fun e w=>X1 e (K b w) (Q3 P .add T.d (.tmp 8) (.const (.int .i64 1)) b (.int .i64 1) w fun f w=>a f w)) (K (.int .i64 (-1)) w)
theorem Qo {a b:Value} {w:World} {K:Value→World→Prop} (h:R0 a b w K):Q1 P F.n [a,b] w K:=Q8 Qx Tryz.func46 rfl (by decide) (by kernel_rfl) h
def Bc:V3:=[none,none,none,some ([7],[6,7,9,10,11,12,16,17,18,19,20,21,22,23,24,25,26,27,28,29,30,31,32,33,34,35,36,37,38,39,40,41,42,43,44,45,46,47,48,49,50,51,52]),none,none,none,none,none,none,none,none,none,none,none,none,none]
def Vq (R U V:Value) (w:World) (K:Value→World→Prop):Prop:= buildSlice P T.e 1 [(0,U)] w fun C w=>Cv P T.z none w fun r w=>lp (α:=Value) C w fun b O X w=>X6 P .len [T.e] T.d [false] [O] w fun z w=>Q3 P .gtr T.d (.tmp 17) (.const (.int .i64 0)) z (.int .i64 0) w fun E w=>X1 E (indexAddr P T.e O (.int .i64 0) w fun H w=>Q2 P T.b H w fun l w=>R6 P T.e O (some (.int .i64 1)) none none w fun q w=>lookup P T.z r l true w fun t w=>ext P t 0 w fun W w=>ext P t 1 w fun d w=>Q0 d false w (fun w J=>J R w) fun v w=>Q0 d false w (fun w J=>J l w) fun N w=>Q0 d false w (Q1 P F.j [v,N]) fun D w=>Q0 d false w (Z8 P .not D) fun B w=>pick P d (.bool true) B w fun A w=>X1 A (b q w) (mapUpdate P T.z r l (.int .i64 1) w fun _u w=>Q1 P F.g [R,l] w fun Q w=>W1 P T.a w fun a w=>Z6 P T.a a Q w fun _u w=>Q2 P T.a a w fun L w=>Y6 P V [L] w fun y w=>X1 y (K (.bool true) w) (dr w fun c o=>Q6 c (fun m=> ∀w,o w→fieldAddr P T.a a 1 w (dk c m w)) fun m=>Q6 c (fun j=> ∀w,o w→fieldAddr P T.a a 2 w (dk c j w)) fun j=>Q6 c (fun f=> ∀g w,o w→m g w→Q2 P T.b g w (dk c f w)) fun f=>Q6 c (fun i=> ∀k w,o w→f k w→buildSlice P T.e 1 [(0,k)] w (dk c i w)) fun i=>Q6 c (fun p=> ∀h w,o w→i h w→X6 P .append [T.e,T.e] T.e [false,false] [q,h] w (dk c p w)) fun p=>Q6 c (fun n=> ∀e w,o w→j e w→Q2 P T.e e w (dk c n w)) fun n=>∀g e k h s u w,o w→m g w→j e w→f k w→i h w→p s w→n u w→ X6 P .append [T.e,T.e] T.e [false,false] [s,u] w fun M w=>b M w))) (K (.bool false) w)
theorem Fm {a c b:Value} {w:World} {K:Value→World→Prop} (h:Vq a c b w K):Q1 P F.u [a,c,b] w K:=Q8 Bc Tryz.func84 rfl (by decide) (by kernel_rfl) h
def Yj (b g:Value) (w:World) (K:Value→World→Prop):Prop:= box P T.a b w fun a w=>fieldAddr P T.a a 0 w fun f w=>Q2 P T.b f w fun c w=>fieldAddr P T.a g 0 w fun e w=>Q2 P T.b e w fun h w=>Q3 P .eql T.b (.tmp 5) (.tmp 7) c h w fun d w=>K d w
theorem Dh {a b:Value} {w:World} {K:Value→World→Prop} (h:Yj a b w K):Q1 P F.bN [a,b] w K:=Q8 (List.replicate 2 none) Tryz.func85 rfl (by decide) (by kernel_rfl) h
def Jr (b e d:Value) (w:World) (K:Value→World→Prop):Prop:= Q2 P T.l e w fun a w=>N0 P (.func F.bN) [] [d] w fun f w=>Q1 P F.u [a,b,f] w fun c w=>K c w
theorem Rl {a c b:Value} {w:World} {K:Value→World→Prop} (h:Jr a c b w K):Q1 P F.aU [a,c,b] w K:=Q8 (List.replicate 2 none) Tryz.func83 rfl (by decide) (by kernel_rfl) h
def Wl (j m:Value) (w:World) (K:Value→World→Prop):Prop:= box P T.l j w fun c w=>box P T.a m w fun a w=>N0 P (.func F.aU) [] [c,a] w fun i w=>fieldAddr P T.a a 1 w fun k w=>Q2 P T.b k w fun l w=>Y6 P i [l] w fun b w=>Q0 b false w (fieldAddr P T.a a 2) fun e w=>Q0 b false w (Q2 P T.e e) fun d w=>Q0 b false w (fun w J=>J i w) fun f w=>Q0 b false w (Q1 P F.c [d,f]) fun g w=>pick P b (.bool true) g w fun h w=>K h w
theorem Fi {a b:Value} {w:World} {K:Value→World→Prop} (h:Wl a b w K):Q1 P F.b7 [a,b] w K:=Q8 (List.replicate 3 none) Tryz.func47 rfl (by decide) (by kernel_rfl) h
def Dk:V3:=[none,none,none,some ([8],[4,5,8,9,10,11,12,13,14,15,16,17,18]),none,none,none,none,none,none,none]
def Yw (g i:Value) (w:World) (K:Value→World→Prop):Prop:= X6 P .len [T.a3] T.d [false] [g] w fun j w=>lp (α:=Value) (.int .i64 0) w fun a b k w=>Q3 P .lss T.d (.tmp 8) (.tmp 7) b j w fun h w=>X1 h (indexAddr P T.a3 g b w fun c w=>Q2 P T.d c w fun d w=>Q3 P .eql T.d (.tmp 11) (.tmp 15) i d w fun e w=>X1 e (K b w) (Q3 P .add T.d (.tmp 8) (.const (.int .i64 1)) b (.int .i64 1) w fun f w=>a f w)) (K (.int .i64 (-1)) w)
theorem Dw {a b:Value} {w:World} {K:Value→World→Prop} (h:Yw a b w K):Q1 P F.bO [a,b] w K:=Q8 Dk Tryz.func139 rfl (by decide) (by kernel_rfl) h
def Qg (a c:Value) (w:World) (K:Value→World→Prop):Prop:= Q1 P F.bO [a,c] w fun d w=>Q3 P .geq T.d (.tmp 7) (.const (.int .i64 0)) d (.int .i64 0) w fun b w=>K b w
theorem Np {a b:Value} {w:World} {K:Value→World→Prop} (h:Qg a b w K):Q1 P F.ay [a,b] w K:=Q8 (List.replicate 2 none) Tryz.func88 rfl (by decide) (by kernel_rfl) h
def Rx:V3:=[none,none,none,none,some ([35],[7,35,36,37,38,39,40,41,42,43,44,45,46,47]),none,none,none,none]
def P1 (a0 a1 a2 a3 a4:Value) (w:World) (K:Value→World→Prop):Prop:= Q2 P T.d a1 w fun t9 w=>Q3 P .lss T.d (.tmp 8) (.tmp 9) a0 t9 w fun B w=>Q0 B false w (Q2 P T.a3 a2) fun al w=>Q0 B false w (fun w J=>J a0 w) fun ak w=>Q0 B false w (Q1 P F.ay [al,ak]) fun am w=>pick P B (.bool true) am w fun ar w=>X1 ar (K (.tuple #[]) w) (dr w fun a b=>Q6 a (fun k=> ∀w,b w→Q2 P T.l a3 w (dk a k w)) fun k=>Q6 a (fun y=> ∀g w,b w→k g w→nilCheck P g w (dk a y w)) fun y=>Q6 a (fun j=> ∀i w,b w→y i w→fieldAddr P T.y i 0 w (dk a j w)) fun j=>Q6 a (fun U=> ∀p w,b w→j p w→Q2 P T.g p w (dk a U w)) fun U=>Q6 a (fun M=> ∀l w,b w→U l w→indexAddr P T.g l a0 w (dk a M w)) fun M=>Q6 a (fun o=> ∀D w,b w→M D w→fieldAddr P T.a D 1 w (dk a o w)) fun o=>Q6 a (fun V=> ∀q w,b w→o q w→Q2 P T.b q w (dk a V w)) fun V=>Q6 a (fun W=> ∀n w,b w→V n w→buildSlice P T.e 1 [(0,n)] w (dk a W w)) fun W=>Q6 a (fun N=> ∀w,b w→Q2 P T.l a3 w (dk a N w)) fun N=>Q6 a (fun z=> ∀R w,b w→N R w→nilCheck P R w (dk a z w)) fun z=>Q6 a (fun h=> ∀m w,b w→z m w→fieldAddr P T.y m 0 w (dk a h w)) fun h=>Q6 a (fun t=> ∀E w,b w→h E w→Q2 P T.g E w (dk a t w)) fun t=>Q6 a (fun C=> ∀O w,b w→t O w→indexAddr P T.g O a0 w (dk a C w)) fun C=>Q6 a (fun L=> ∀c w,b w→C c w→fieldAddr P T.a c 2 w (dk a L w)) fun L=>Q6 a (fun X=> ∀u w,b w→L u w→Q2 P T.e u w (dk a X w)) fun X=>∀g i p l D q n ac R m E O c u aa w,b w→k g w→y i w→j p w→U l w→M D w→o q w→V n w→W ac w→N R w→z m w→h E w→t O w→C c w→L u w→X aa w→ X6 P .append [T.e,T.e] T.e [false,false] [ac,aa] w fun ae w=>X6 P .len [T.e] T.d [false] [ae] w fun an w=>lp (α:=Value) (.int .i64 0) w fun r x4 d_ w=>Q3 P .lss T.d (.tmp 35) (.tmp 34) x4 an w fun aj w=>X1 aj (indexAddr P T.e ae x4 w fun aq w=>Q2 P T.b aq w fun aw w=>dr w fun a b=>Q6 a (fun Z=> ∀w,b w→Q2 P T.aj a4 w (dk a Z w)) fun Z=>Q6 a (fun e=> ∀w,b w→Q2 P T.l a3 w (dk a e w)) fun e=>Q6 a (fun f=> ∀A w,b w→e A w→nilCheck P A w (dk a f w)) fun f=>Q6 a (fun s=> ∀H w,b w→f H w→fieldAddr P T.y H 1 w (dk a s w)) fun s=>Q6 a (fun Q=> ∀d w,b w→s d w→Q2 P T.z d w (dk a Q w)) fun Q=>Q6 a (fun Y=> ∀v w,b w→Q v w→lookup P T.z v aw false w (dk a Y w)) fun Y=>∀af A H d v ad w,b w→Z af w→e A w→f H w→s d w→Q v w→Y ad w→ Y6 P af [ad] w fun ay w=>Q3 P .add T.d (.tmp 35) (.const (.int .i64 1)) x4 (.int .i64 1) w fun ao w=>r ao w) (Q2 P T.a3 a2 w fun ai w=>buildSlice P T.a3 1 [(0,a0)] w fun ag w=>X6 P .append [T.a3,T.a3] T.a3 [false,false] [ai,ag] w fun ax w=>Z6 P T.a3 a2 ax w fun _u w=>K (.tuple #[]) w))
theorem Jq {b e d a c:Value} {w:World} {K:Value→World→Prop} (h:P1 b e d a c w K):Q1 P F.v [b,e,d,a,c] w K:=Q8 Rx Tryz.func87 rfl (by decide) (by kernel_rfl) h
def By:V3:=[none,none,none,none,none,none,some ([7],[7,10,11,12,13,14,15,16,17,18,19,20,21]),none,none,none,none]
def Vl (q p:Value) (w:World) (K:Value→World→Prop):Prop:= box P T.l q w fun d w=>box P T.d p w fun b w=>W1 P T.a3 w fun c w=>W1 P T.aj w fun a w=>N0 P (.func F.v) [] [b,c,d,a] w fun r w=>Z6 P T.aj a r w fun _u w=>Q2 P T.d b w fun s w=>lp (α:=Value) s w fun e m u w=>Q2 P T.l d w fun o w=>nilCheck P o w fun i w=>fieldAddr P T.y i 0 w fun g w=>Q2 P T.g g w fun j w=>X6 P .len [T.g] T.d [false] [j] w fun n w=>Q3 P .lss T.d (.tmp 10) (.tmp 15) m n w fun f w=>X1 f (Q2 P T.aj a w fun h w=>Y6 P h [m] w fun t w=>Q3 P .add T.d (.tmp 17) (.const (.int .i64 1)) m (.int .i64 1) w fun k w=>e k w) (Q2 P T.a3 c w fun l w=>K l w)
theorem Bt {a b:Value} {w:World} {K:Value→World→Prop} (h:Vl a b w K):Q1 P F.b8 [a,b] w K:=Q8 By Tryz.func48 rfl (by decide) (by kernel_rfl) h
def Xt:V3:=[none,some ([2,3],[2,3,7,8,9,10,11,12,13,14,15,16,17,18,19,20,21,22,23,24,25,26,27]),none,none,none]
def S3 (j:Value) (w:World) (K:Value→World→Prop):Prop:= X6 P .len [T.g] T.d [false] [j] w fun t w=>Q3 P .sub T.d (.tmp 5) (.const (.int .i64 1)) t (.int .i64 1) w fun s w=>lp (α:=Value×Value) ((.int .i64 0),s) w fun e f u w=>Q3 P .lss T.d (.tmp 7) (.tmp 8) f.1 f.2 w fun r w=>X1 r (dr w fun g k=>Q6 g (fun a=> ∀w,k w→indexAddr P T.g j f.2 w (dk g a w)) fun a=>Q6 g (fun b=> ∀w,k w→indexAddr P T.g j f.1 w (dk g b w)) fun b=>Q6 g (fun h=> ∀d w,k w→a d w→Q2 P T.a d w (dk g h w)) fun h=>Q6 g (fun i=> ∀c w,k w→b c w→Q2 P T.a c w (dk g i w)) fun i=>∀d c l m w,k w→a d w→b c w→h l w→i m w→ indexAddr P T.g j f.1 w fun o w=>Z6 P T.a o l w fun _u w=>indexAddr P T.g j f.2 w fun p w=>Z6 P T.a p m w fun _u w=>Q3 P .add T.d (.tmp 10) (.const (.int .i64 1)) f.1 (.int .i64 1) w fun q w=>Q3 P .sub T.d (.tmp 12) (.const (.int .i64 1)) f.2 (.int .i64 1) w fun n w=>e (q,n) w) (K (.tuple #[]) w)
theorem Xo {a:Value} {w:World} {K:Value→World→Prop} (h:S3 a w K):Q1 P F.o [a] w K:=Q8 Xt Tryz.func117 rfl (by decide) (by kernel_rfl) h
def Ix:V3:=[none,none,none,none,some ([5,6],[5,6,8,9,10,11,12,13,14,15,16,17,18,19,20]),none,none,none,none,none]
def Lq (d k:Value) (w:World) (K:Value→World→Prop):Prop:= lp (α:=Value×Value) ((.slice none 0 0),k) w fun a b l w=>Q1 P F.j [d,b.2] w fun g w=>X1 g (Q1 P F.g [d,b.2] w fun i w=>buildSlice P T.g 1 [(0,i)] w fun e w=>X6 P .append [T.g,T.g] T.g [false,false] [b.1,e] w fun f w=>Q1 P F.g [d,b.2] w fun c w=>Yy P T.a c 1 w fun h w=>a (f,h) w) (Q1 P F.o [b.1] w fun j w=>K b.1 w)
theorem Gw {a b:Value} {w:World} {K:Value→World→Prop} (h:Lq a b w K):Q1 P F.aF [a,b] w K:=Q8 Ix Tryz.func70 rfl (by decide) (by kernel_rfl) h
def Sv:V3:=[none,none,none,none,some ([5,12],[5,7,12,13,14,15,16,17,18,19,20]),none,none,none,none,none]
def Ve (m n:Value) (w:World) (K:Value→World→Prop):Prop:= Q1 P F.aF [m,n] w fun d w=>X6 P .len [T.g] T.d [false] [d] w fun i w=>lp (α:=Value×Value) ((.slice none 0 0),(.int .i64 0)) w fun b c o w=>Q3 P .lss T.d (.tmp 12) (.tmp 11) c.2 i w fun e w=>X1 e (indexAddr P T.g d c.2 w fun j w=>Q2 P T.a j w fun h w=>W1 P T.a w fun a w=>Z6 P T.a a h w fun _u w=>fieldAddr P T.a a 6 w fun k w=>Q2 P T.h k w fun l w=>X6 P .append [T.h,T.h] T.h [false,false] [c.1,l] w fun f w=>Q3 P .add T.d (.tmp 12) (.const (.int .i64 1)) c.2 (.int .i64 1) w fun g w=>b (f,g) w) (K c.1 w)
theorem Sg {a b:Value} {w:World} {K:Value→World→Prop} (h:Ve a b w K):Q1 P F.x [a,b] w K:=Q8 Sv Tryz.func36 rfl (by decide) (by kernel_rfl) h
def Jo (b f:Value) (w:World) (K:Value→World→Prop):Prop:= box P T.j b w fun a w=>fieldAddr P T.j a 0 w fun e w=>Q2 P T.b e w fun c w=>Q2 P T.b f w fun d w=>Q3 P .eql T.b (.tmp 5) (.tmp 6) c d w fun g w=>K g w
theorem Re {a b:Value} {w:World} {K:Value→World→Prop} (h:Jo a b w K):Q1 P F.bW [a,b] w K:=Q8 (List.replicate 2 none) Tryz.func141 rfl (by decide) (by kernel_rfl) h
def We (d g f:Value) (w:World) (K:Value→World→Prop):Prop:= box P T.b f w fun a w=>Q1 P F.x [d,g] w fun e w=>N0 P (.func F.bW) [] [a] w fun b w=>Q1 P F.i [e,b] w fun c w=>K c w
theorem Fw {a c b:Value} {w:World} {K:Value→World→Prop} (h:We a c b w K):Q1 P F.ba [a,c,b] w K:=Q8 (List.replicate 2 none) Tryz.func89 rfl (by decide) (by kernel_rfl) h
def P4 (a d:Value) (w:World) (K:Value→World→Prop):Prop:= nilCheck P a w fun e w=>indexAddr P T.a9 e d w fun b w=>Q2 P T.q b w fun c w=>K c w
theorem Ll {a b:Value} {w:World} {K:Value→World→Prop} (h:P4 a b w K):Q1 P F.aq [a,b] w K:=Q8 (List.replicate 2 none) Tryz.func187 rfl (by decide) (by kernel_rfl) h
def Dx:V3:=[none,some ([0],[0,5,6,7,8,9,10,11,12,13,14,15,16,17,18,19,20]),some ([0],[0,5,6,7,8,9,10,11,12,13,14,15,16,17,18,19,20]),none,none,none,none,none]
def Zk (m l:Value) (w:World) (K:Value→World→Prop):Prop:= jn (α:=Value) w (fun k w=>lp (α:=Value) m w fun a b n w=>X6 P .len [T.b] T.d [false] [b] w fun o w=>Q3 P .gtr T.d (.tmp 6) (.const (.int .i64 0)) o (.int .i64 0) w fun p w=>X1 p (X6 P .len [T.b] T.d [false] [b] w fun j w=>Q3 P .sub T.d (.tmp 11) (.const (.int .i64 1)) j (.int .i64 1) w fun e w=>D7 P T.b b e w fun c w=>Q1 P F.aq [l,c] w fun f w=>Z8 P .not f w fun i w=>X1 i (k b w) (X6 P .len [T.b] T.d [false] [b] w fun g w=>Q3 P .sub T.d (.tmp 18) (.const (.int .i64 1)) g (.int .i64 1) w fun d w=>R6 P T.b b none (some d) none w fun h w=>a h w)) (k b w)) fun q n w=>K q w
theorem Ea {a b:Value} {w:World} {K:Value→World→Prop} (h:Zk a b w K):Q1 P F.ai [a,b] w K:=Q8 Dx Tryz.func158 rfl (by decide) (by kernel_rfl) h
end Go.Proofs.YtjdiakhipmggjaaGreatDoor

set_option maxRecDepth 100000
namespace Go.Proofs.YtjdiakhipmggjaaGreatDoor
open Go.Emb
def Mj (d c:Value) (w:World) (K:Value→World→Prop):Prop:= Q3 P .eql T.b (.tmp 7) (.const (.string ⟨#[]⟩)) d (.string ⟨#[]⟩) w fun h w=>Q0 h false w (fun w J=>J c w) fun o w=>Q0 h false w (Q3 P .eql T.b (.tmp 10) (.const (.string ⟨#[]⟩)) o (.string ⟨#[]⟩)) fun s w=>pick P h (.bool true) s w fun j w=>X1 j (K d w) (X6 P .len [T.b] T.d [false] [c] w fun q w=>Q3 P .eql T.d (.tmp 15) (.const (.int .i64 1)) q (.int .i64 1) w fun b w=>Q0 b true w (fun w J=>J c w) fun l w=>Q0 b true w (D7 P T.b l (.int .i64 0)) fun i w=>Q0 b true w (Q3 P .lss T.a0 (.tmp 19) (.const (.int .u8 128)) i (.int .u8 128)) fun m w=>pick P b m (.bool false) w fun r w=>X1 r (D7 P T.b c (.int .i64 0) w fun k w=>Q1 P F.cy [d,k] w fun t w=>K t w) (Q1 P F.bX [c] w fun e w=>ext P e 0 w fun n w=>ext P e 1 w fun f w=>W1 P T.a9 w fun a w=>Z6 P T.a9 a n w fun _u w=>X1 f (Q1 P F.ai [d,a] w fun p w=>K p w) (Q1 P F.cv [d,c] w fun g w=>K g w)))
theorem Ii {a b:Value} {w:World} {K:Value→World→Prop} (h:Mj a b w K):Q1 P F.bs [a,b] w K:=Q8 (List.replicate 12 none) Tryz.func116 rfl (by decide) (by kernel_rfl) h
def Lu (l i:Value) (w:World) (K:Value→World→Prop):Prop:= Q3 P .eql T.b (.tmp 6) (.const (.string ⟨#[110,117,108,108]⟩)) i (.string ⟨#[110,117,108,108]⟩) w fun m w=>X1 m (K (.bool true) w) (Q1 P F.bs [i,(.string ⟨#[91,93]⟩)] w fun k w=>Q1 P F.w [i] w fun a w=>Q0 a true w (fun w J=>J k w) fun c w=>Q0 a true w (Q1 P F.aC [c]) fun g w=>Q0 a true w (fun w J=>J g w) fun b w=>Q0 b false w (fun w J=>J l w) fun h w=>Q0 b false w (fun w J=>J k w) fun f w=>Q0 b false w (Q1 P F.j [h,f]) fun j w=>Q0 a true w (pick P b (.bool true) j) fun d w=>pick P a d (.bool false) w fun e w=>K e w)
theorem Im {a b:Value} {w:World} {K:Value→World→Prop} (h:Lu a b w K):Q1 P F.q [a,b] w K:=Q8 (List.replicate 6 none) Tryz.func69 rfl (by decide) (by kernel_rfl) h
def Yn (c f:Value) (w:World) (K:Value→World→Prop):Prop:= Q3 P .neq T.b (.tmp 4) (.const (.string ⟨#[110,117,108,108]⟩)) c (.string ⟨#[110,117,108,108]⟩) w fun a w=>Q0 a true w (Q2 P T.l f) fun g w=>Q0 a true w (fun w J=>J c w) fun d w=>Q0 a true w (Q1 P F.q [g,d]) fun e w=>pick P a e (.bool false) w fun b w=>K b w
theorem El {a b:Value} {w:World} {K:Value→World→Prop} (h:Yn a b w K):Q1 P F.af [a,b] w K:=Q8 (List.replicate 2 none) Tryz.func90 rfl (by decide) (by kernel_rfl) h
def Zh (a d:Value) (w:World) (K:Value→World→Prop):Prop:= Q2 P T.a2 d w fun c w=>Y6 P c [a] w fun b w=>Z8 P .not b w fun e w=>K e w
theorem Er {a b:Value} {w:World} {K:Value→World→Prop} (h:Zh a b w K):Q1 P F.ag [a,b] w K:=Q8 (List.replicate 2 none) Tryz.func91 rfl (by decide) (by kernel_rfl) h
def Pj (s:Value) (w:World) (K:Value→World→Prop):Prop:= box P T.c s w fun b w=>dr w fun a c=>Q6 a (fun f=> ∀w,c w→fieldAddr P T.c b 1 w (dk a f w)) fun f=>Q6 a (fun d=> ∀w,c w→fieldAddr P T.c b 2 w (dk a d w)) fun d=>Q6 a (fun i=> ∀m w,c w→f m w→Q2 P T.e m w (dk a i w)) fun i=>Q6 a (fun j=> ∀l w,c w→i l w→Q1 P F.cu [l,(.string ⟨#[44]⟩)] w (dk a j w)) fun j=>Q6 a (fun g=> ∀k w,c w→j k w→Q3 P .add T.b (.const (.string ⟨#[40]⟩)) (.tmp 5) (.string ⟨#[40]⟩) k w (dk a g w)) fun g=>Q6 a (fun o=> ∀h w,c w→g h w→Q3 P .add T.b (.tmp 6) (.const (.string ⟨#[41]⟩)) h (.string ⟨#[41]⟩) w (dk a o w)) fun o=>Q6 a (fun n=> ∀e w,c w→d e w→Q2 P T.b e w (dk a n w)) fun n=>∀m e l k h r q w,c w→f m w→d e w→i l w→j k w→g h w→o r w→n q w→ Q3 P .add T.b (.tmp 7) (.tmp 9) r q w fun p w=>K p w
theorem Q3v {a:Value} {w:World} {K:Value→World→Prop} (h:Pj a w K):Q1 P F.bV [a] w K:=Q8 (List.replicate 2 none) Tryz.func95 rfl (by decide) (by kernel_rfl) h
def Xe (Z X a2 Y:Value) (w:World) (K:Value→World→Prop):Prop:= box P T.c Z w fun b w=>Q2 P T.v X w fun t9 w=>fieldAddr P T.c b 0 w fun U w=>Q2 P T.b U w fun W w=>lookup P T.v t9 W true w fun C w=>ext P C 0 w fun O w=>ext P C 1 w fun f w=>dr w fun a d=>Q6 a (fun j=> ∀w,d w→fieldAddr P T.c b 0 w (dk a j w)) fun j=>Q6 a (fun v=> ∀w,d w→fieldAddr P T.c b 0 w (dk a v w)) fun v=>Q6 a (fun y=> ∀w,d w→fieldAddr P T.a a2 0 w (dk a y w)) fun y=>Q6 a (fun g=> ∀w,d w→Q2 P T.v X w (dk a g w)) fun g=>Q6 a (fun p=> ∀i w,d w→j i w→Q2 P T.b i w (dk a p w)) fun p=>Q6 a (fun B=> ∀w,d w→Q2 P T.v Y w (dk a B w)) fun B=>Q6 a (fun z=> ∀k w,d w→v k w→Q2 P T.b k w (dk a z w)) fun z=>Q6 a (fun s=> ∀w,d w→Q2 P T.c b w (dk a s w)) fun s=>Q6 a (fun n=> ∀r w,d w→s r w→Q1 P F.bV [r] w (dk a n w)) fun n=>Q6 a (fun A=> ∀m w,d w→y m w→Q2 P T.b m w (dk a A w)) fun A=>Q6 a (fun t=> ∀c h w,d w→g c w→p h w→mapEntry P T.v c h w (dk a t w)) fun t=>Q6 a (fun q=> ∀u w,d w→t u w→ext P u 1 w (dk a q w)) fun q=>Q6 a (fun e=> ∀c l o w,d w→g c w→q l w→n o w→entryStore P T.v c l o w (dk a e w)) fun e=>∀i k m c h E H r o D u l N w,d w→j i w→v k w→y m w→g c w→p h w→B E w→z H w→s r w→n o w→A D w→t u w→q l w→e N w→ mapUpdate P T.v E H D w fun _u w=>Q0 f true w (fun w J=>J O w) fun R w=>Q0 f true w (Q2 P T.c b) fun L w=>Q0 f true w (Q1 P F.bV [L]) fun Q w=>Q0 f true w (Q3 P .neq T.b (.tmp 29) (.tmp 31) R Q) fun M w=>pick P f M (.bool false) w fun V w=>K V w
theorem Oc {b d c a:Value} {w:World} {K:Value→World→Prop} (h:Xe b d c a w K):Q1 P F.az [b,d,c,a] w K:=Q8 (List.replicate 4 none) Tryz.func94 rfl (by decide) (by kernel_rfl) h
def Yk (b g f:Value) (w:World) (K:Value→World→Prop):Prop:= box P T.a b w fun a w=>fieldAddr P T.a a 7 w fun c w=>Q2 P T.f c w fun e w=>N0 P (.func F.az) [] [g,a,f] w fun h w=>Q1 P F.a [e,h] w fun d w=>K d w
theorem Eg {a c b:Value} {w:World} {K:Value→World→Prop} (h:Yk a c b w K):Q1 P F.aL [a,c,b] w K:=Q8 (List.replicate 2 none) Tryz.func92 rfl (by decide) (by kernel_rfl) h
def Ps (b f:Value) (w:World) (K:Value→World→Prop):Prop:= box P T.c b w fun a w=>fieldAddr P T.c a 0 w fun e w=>Q2 P T.b e w fun c w=>Q2 P T.b f w fun d w=>Q3 P .eql T.b (.tmp 5) (.tmp 6) c d w fun g w=>K g w
theorem Q4r {a b:Value} {w:World} {K:Value→World→Prop} (h:Ps a b w K):Q1 P F.cz [a,b] w K:=Q8 (List.replicate 2 none) Tryz.func179 rfl (by decide) (by kernel_rfl) h
def Q19 (n m:Value) (w:World) (K:Value→World→Prop):Prop:= box P T.a n w fun b w=>box P T.b m w fun a w=>W1 P T.c w fun d w=>fieldAddr P T.a b 7 w fun q w=>Q2 P T.f q w fun o w=>N0 P (.func F.cz) [] [a] w fun p w=>Q1 P F.f [o,p] w fun c w=>Q3 P .lss T.d (.tmp 11) (.const (.int .i64 0)) c (.int .i64 0) w fun i w=>X1 i (N8 P T.c [] w fun g w=>Z6 P T.c d g w fun _u w=>V4 P T.c d w fun e=>K (.tuple #[e,(.bool false)]) w) (fieldAddr P T.a b 7 w fun j w=>Q2 P T.f j w fun l w=>indexAddr P T.f l c w fun f w=>Q2 P T.c f w fun k w=>Q1 P F.bM [k] w fun h w=>Z6 P T.c d h w fun _u w=>V4 P T.c d w fun e=>K (.tuple #[e,(.bool true)]) w)
theorem Q67 {a b:Value} {w:World} {K:Value→World→Prop} (h:Q19 a b w K):Q1 P F.cj [a,b] w K:=Q8 (List.replicate 6 none) Tryz.func144 rfl (by decide) (by kernel_rfl) h
def Ic:V3:=[none,none,none,some ([19],[6,8,10,11,12,13,14,15,19,20,21,22,23,24,25,26,27,28,29,30,31,32,33,34,35,36,37,38,39,40,41,42,43,44,45,46,47]),none,none,none,none,none,none,none,none,none,none,none,none]
def Mi (u M L:Value) (w:World) (K:Value→World→Prop):Prop:= box P T.a M w fun g w=>W1 P T.c w fun i w=>fieldAddr P T.a g 2 w fun s w=>Q2 P T.e s w fun k w=>X6 P .len [T.e] T.d [false] [k] w fun z w=>lp (α:=Value) (.int .i64 0) w fun c D N w=>Q3 P .lss T.d (.tmp 19) (.tmp 18) D z w fun A w=>X1 A (indexAddr P T.e k D w fun E w=>Q2 P T.b E w fun e w=>Q1 P F.g [u,e] w fun v w=>Q1 P F.cj [v,L] w fun o w=>ext P o 0 w fun B w=>ext P o 1 w fun q w=>W1 P T.c w fun b w=>Z6 P T.c b B w fun _u w=>X1 q (dr w fun p m=>Q6 p (fun d=> ∀w,m w→Q2 P T.c b w (dk p d w)) fun d=>∀l w,m w→d l w→ Z6 P T.c i l w fun _u w=>V4 P T.c i w fun n=>K (.tuple #[e,n,(.bool true)]) w) (Q1 P F.g [u,e] w fun J w=>Q1 P F.aH [u,J,L] w fun f w=>ext P f 0 w fun H w=>ext P f 1 w fun r w=>ext P f 2 w fun C w=>W1 P T.c w fun a w=>Z6 P T.c a r w fun _u w=>X1 C (dr w fun p m=>Q6 p (fun h=> ∀w,m w→Q2 P T.c a w (dk p h w)) fun h=>∀j w,m w→h j w→ Z6 P T.c i j w fun _u w=>V4 P T.c i w fun n=>K (.tuple #[H,n,(.bool true)]) w) (Q3 P .add T.d (.tmp 19) (.const (.int .i64 1)) D (.int .i64 1) w fun y w=>c y w))) (N8 P T.c [] w fun t w=>Z6 P T.c i t w fun _u w=>V4 P T.c i w fun n=>K (.tuple #[(.string ⟨#[]⟩),n,(.bool false)]) w)
theorem Iq {a c b:Value} {w:World} {K:Value→World→Prop} (h:Mi a c b w K):Q1 P F.aH [a,c,b] w K:=Q8 Ic Tryz.func145 rfl (by decide) (by kernel_rfl) h
def Sz:V3:=[none,none,none,none,none,some ([26],[6,8,11,12,13,26,27,28,29,30,31,32,33,34,35,36,37,38,39,40]),none,none,none,none,none,none,none,none,none,some ([43],[6,8,15,16,17,18,43,44,45,46,47,48,49,50,51,52,53,54,55,56,57,58]),none,none,none,none,none,none,none,none]
def Uu (Y a1 Z:Value) (w:World) (K:Value→World→Prop):Prop:= W1 P T.c w fun q w=>Q1 P F.aF [Y,a1] w fun e w=>Q1 P F.o [e] w fun ac w=>X6 P .len [T.g] T.d [false] [e] w fun X w=>lp (α:=Value) (.int .i64 0) w fun g O d_ w=>Q3 P .lss T.d (.tmp 26) (.tmp 25) O X w fun U w=>X1 U (indexAddr P T.g e O w fun W w=>Q2 P T.a W w fun M w=>W1 P T.a w fun a w=>Z6 P T.a a M w fun _u w=>Q2 P T.a a w fun L w=>Q1 P F.cj [L,Z] w fun s w=>ext P s 0 w fun H w=>ext P s 1 w fun D w=>W1 P T.c w fun d w=>Z6 P T.c d H w fun _u w=>X1 D (dr w fun j n=>Q6 j (fun h=> ∀w,n w→fieldAddr P T.a a 0 w (dk j h w)) fun h=>Q6 j (fun k=> ∀i w,n w→h i w→Q2 P T.b i w (dk j k w)) fun k=>Q6 j (fun m=> ∀w,n w→Q2 P T.c d w (dk j m w)) fun m=>∀i t u w,n w→h i w→k t w→m u w→ Z6 P T.c q u w fun _u w=>V4 P T.c q w fun v=>K (.tuple #[t,v,(.bool true)]) w) (Q3 P .add T.d (.tmp 26) (.const (.int .i64 1)) O (.int .i64 1) w fun Q w=>g Q w)) (X6 P .len [T.g] T.d [false] [e] w fun z w=>lp (α:=Value) (.int .i64 0) w fun f p d_ w=>Q3 P .lss T.d (.tmp 43) (.tmp 42) p z w fun B w=>X1 B (indexAddr P T.g e p w fun E w=>Q2 P T.a E w fun A w=>W1 P T.a w fun b w=>Z6 P T.a b A w fun _u w=>Q2 P T.a b w fun R w=>Q1 P F.aH [Y,R,Z] w fun o w=>ext P o 0 w fun N w=>ext P o 1 w fun y w=>ext P o 2 w fun C w=>W1 P T.c w fun c w=>Z6 P T.c c y w fun _u w=>X1 C (dr w fun j n=>Q6 j (fun l=> ∀w,n w→Q2 P T.c c w (dk j l w)) fun l=>∀r w,n w→l r w→ Z6 P T.c q r w fun _u w=>V4 P T.c q w fun v=>K (.tuple #[N,v,(.bool true)]) w) (Q3 P .add T.d (.tmp 43) (.const (.int .i64 1)) p (.int .i64 1) w fun V w=>f V w)) (N8 P T.c [] w fun J w=>Z6 P T.c q J w fun _u w=>V4 P T.c q w fun v=>K (.tuple #[(.string ⟨#[]⟩),v,(.bool false)]) w))
theorem Ci {a c b:Value} {w:World} {K:Value→World→Prop} (h:Uu a c b w K):Q1 P F.aY [a,c,b] w K:=Q8 Sz Tryz.func96 rfl (by decide) (by kernel_rfl) h
def Rw:V3:=[none,none,none,some ([21],[4,6,21,22,23,24,25,26,27,28,29,30,31,32]),none,none,none,none,none,none,none,none,none,some ([37],[4,9,37,38,39,40,41,42,43,44,45,46]),none,none,none,none,none,none,none,none,some ([50],[4,11,50,51,52,53,54,55,56,57,58,59,60,61,62,63,64,65,66,67,68,69,70]),none,none,none,none,none,none,none,none,none,none,none,none,none,none,none,some ([],[4,14,15,16,17,82,83,84,85,86,87,88,89,90,91,92,93,94,95,96,97,98,99,100]),none,none,none,none,none,none,none]
def Jn (a0 a1:Value) (w:World) (K:Value→World→Prop):Prop:= box P T.l a0 w fun u w=>box P T.a a1 w fun l w=>fieldAddr P T.a l 6 w fun a5 w=>Q2 P T.h a5 w fun r w=>X6 P .len [T.h] T.d [false] [r] w fun R w=>lp (α:=Value) (.int .i64 0) w fun f X d_ w=>Q3 P .lss T.d (.tmp 21) (.tmp 20) X R w fun a6 w=>X1 a6 (indexAddr P T.h r X w fun N w=>Q2 P T.j N w fun aw w=>W1 P T.j w fun t6 w=>Z6 P T.j t6 aw w fun _u w=>Q2 P T.l u w fun bn w=>fieldAddr P T.a l 1 w fun ar w=>Q2 P T.b ar w fun bj w=>fieldAddr P T.j t6 0 w fun bl w=>Q2 P T.b bl w fun ba w=>Q1 P F.ba [bn,bj,ba] w fun y w=>Q3 P .geq T.d (.tmp 30) (.const (.int .i64 0)) y (.int .i64 0) w fun a9 w=>X1 a9 (K (.int .i64 64) w) (Q3 P .add T.d (.tmp 21) (.const (.int .i64 1)) X (.int .i64 1) w fun ah w=>f ah w)) (N0 P (.func F.af) [] [u] w fun W w=>W1 P T.a2 w fun v w=>Z6 P T.a2 v W w fun _u w=>fieldAddr P T.a l 6 w fun O w=>Q2 P T.h O w fun o w=>X6 P .len [T.h] T.d [false] [o] w fun ap w=>lp (α:=Value) (.int .i64 0) w fun d k d_ w=>Q3 P .lss T.d (.tmp 37) (.tmp 36) k ap w fun ab w=>X1 ab (indexAddr P T.h o k w fun ac w=>Q2 P T.j ac w fun be w=>W1 P T.j w fun t9 w=>Z6 P T.j t9 be w fun _u w=>Q2 P T.a2 v w fun Z w=>fieldAddr P T.j t9 1 w fun ak w=>Q2 P T.b ak w fun bb w=>Y6 P Z [bb] w fun B w=>Z8 P .not B w fun ax w=>X1 ax (K (.int .i64 65) w) (Q3 P .add T.d (.tmp 37) (.const (.int .i64 1)) k (.int .i64 1) w fun A w=>d A w)) (fieldAddr P T.a l 7 w fun a4 w=>Q2 P T.f a4 w fun q w=>X6 P .len [T.f] T.d [false] [q] w fun bg w=>lp (α:=Value) (.int .i64 0) w fun c m d_ w=>Q3 P .lss T.d (.tmp 50) (.tmp 49) m bg w fun ad w=>X1 ad (indexAddr P T.f q m w fun U w=>Q2 P T.c U w fun ag w=>W1 P T.c w fun g w=>Z6 P T.c g ag w fun _u w=>Q2 P T.a2 v w fun ao w=>fieldAddr P T.c g 2 w fun M w=>Q2 P T.b M w fun am w=>Y6 P ao [am] w fun D w=>Z8 P .not D w fun e w=>Q0 e true w (fieldAddr P T.c g 2) fun J w=>Q0 e true w (Q2 P T.b J) fun z w=>Q0 e true w (Q3 P .neq T.b (.tmp 61) (.const (.string ⟨#[]⟩)) z (.string ⟨#[]⟩)) fun ae w=>pick P e ae (.bool false) w fun a w=>Q0 a false w (fieldAddr P T.c g 1) fun bk w=>Q0 a false w (Q2 P T.e bk) fun C w=>Q0 a false w (N0 P (.func F.ag) [] [v]) fun H w=>Q0 a false w (Q1 P F.c [C,H]) fun bd w=>pick P a (.bool true) bd w fun aj w=>X1 aj (K (.int .i64 65) w) (Q3 P .add T.d (.tmp 50) (.const (.int .i64 1)) m (.int .i64 1) w fun a3 w=>c a3 w)) (Cv P T.v none w fun an w=>Cv P T.v none w fun a7 w=>W1 P T.v w fun p w=>W1 P T.v w fun h w=>Z6 P T.v p an w fun _u w=>Z6 P T.v h a7 w fun _u w=>Q2 P T.l u w fun az w=>fieldAddr P T.a l 0 w fun Q w=>Q2 P T.b Q w fun bm w=>N0 P (.func F.aL) [] [p,h] w fun bf w=>Q1 P F.u [az,bm,bf] w fun af w=>X1 af (K (.int .i64 66) w) (fieldAddr P T.a l 4 w fun bc w=>Q2 P T.q bc w fun aq w=>X1 aq (K (.int .i64 0) w) (Q2 P T.v h w fun al w=>rng P T.v al w fun s w=>lp (α:=Unit) () w fun b br d_ w=>V0 P s false T.x w fun a2 w=>ext P a2 0 w fun av w=>X1 av (Q6F P s w fun a8 w=>ext P a8 0 w fun aa w=>Q2 P T.l u w fun L w=>fieldAddr P T.a l 0 w fun V w=>Q2 P T.b V w fun ai w=>Q1 P F.aY [L,ai,aa] w fun i w=>ext P i 0 w fun bu w=>ext P i 1 w fun bi w=>ext P i 2 w fun E w=>W1 P T.c w fun n w=>Z6 P T.c n bi w fun _u w=>Z8 P .not E w fun j w=>Q0 j false w (fieldAddr P T.c n 3) fun bh w=>Q0 j false w (Q2 P T.q bh) fun Y w=>pick P j (.bool true) Y w fun t w=>X1 t (K (.int .i64 67) w) (b () w)) (K (.int .i64 0) w))))))
theorem Rn {a b:Value} {w:World} {K:Value→World→Prop} (h:Jn a b w K):Q1 P F.aS [a,b] w K:=Q8 Rw Tryz.func49 rfl (by decide) (by kernel_rfl) h
def Q6o:V3:=[none,none,none,none,none,some ([30],[2,3,4,7,8,9,30,31,32,33,34,35,36,37,38,39,40,41,42,43,44,45,46,47,48,49,50,51,52]),none,none,none,none,none,none,none,none,none,none,some ([58],[2,3,4,10,11,58,59,60,61,62,63,64,65,66,67,68,69,70,71,72,73,74,75,76,77]),none,none,none,none,none,none,none,none,none,some ([85],[2,3,4,12,13,14,85,86,87,88,89,90,91,92,93,94,95,96,97]),none,none,none,none,none,none,none,none,none,none,none,none,none,some ([114],[2,3,4,17,18,114,115,116,117,118,119,120,121,122,123,124,125,126,127,128,129,130,131,132,133]),none,none,none,none,none,none,none,none]
def Q1z (a0:Value) (w:World) (K:Value→World→Prop):Prop:= Q1 P F.cm [] w fun bm w=>Cv P T.z none w fun a3 w=>N8 P T.y [(0,bm),(1,a3)] w fun a8 w=>box P T.y a8 w fun a w=>nilCheck P a w fun bn w=>fieldAddr P T.y bn 0 w fun bw w=>Q2 P T.g bw w fun bl w=>X6 P .len [T.g] T.d [false] [bl] w fun g w=>X6 P .len [T.g] T.d [false] [a0] w fun bv w=>lp (α:=Value) (.int .i64 0) w fun t x5 d_ w=>Q3 P .lss T.d (.tmp 30) (.tmp 29) x5 bv w fun bu w=>X1 bu (indexAddr P T.g a0 x5 w fun a7 w=>Q2 P T.a a7 w fun a2 w=>W1 P T.a w fun t8 w=>Z6 P T.a t8 a2 w fun _u w=>Q2 P T.a t8 w fun az w=>Q1 P F.cd [az] w fun ac w=>Q3 P .neq T.w (.tmp 37) (.const (.int .i64 0)) ac (.int .i64 0) w fun bb w=>X1 bb (K (.tuple #[(.pointer none),x5,ac]) w) (dr w fun b c=>Q6 b (fun p=> ∀w,c w→nilCheck P a w (dk b p w)) fun p=>Q6 b (fun l=> ∀y w,c w→p y w→fieldAddr P T.y y 0 w (dk b l w)) fun l=>Q6 b (fun M=> ∀j w,c w→l j w→Q2 P T.g j w (dk b M w)) fun M=>Q6 b (fun z=> ∀w,c w→Q2 P T.a t8 w (dk b z w)) fun z=>Q6 b (fun r=> ∀k w,c w→z k w→Q1 P F.ce [k] w (dk b r w)) fun r=>Q6 b (fun E=> ∀u w,c w→r u w→buildSlice P T.g 1 [(0,u)] w (dk b E w)) fun E=>∀y j ag k u ab w,c w→p y w→l j w→M ag w→z k w→r u w→E ab w→ X6 P .append [T.g,T.g] T.g [false,false] [ag,ab] w fun bx w=>nilCheck P a w fun ar w=>fieldAddr P T.y ar 0 w fun bc w=>Z6 P T.g bc bx w fun _u w=>Q3 P .add T.d (.tmp 30) (.const (.int .i64 1)) x5 (.int .i64 1) w fun a4 w=>t a4 w)) (nilCheck P a w fun bi w=>fieldAddr P T.y bi 0 w fun a1 w=>Q2 P T.g a1 w fun Y w=>X6 P .len [T.g] T.d [false] [Y] w fun ax w=>lp (α:=Value) (.int .i64 0) w fun f d d_ w=>Q3 P .lss T.d (.tmp 58) (.tmp 57) d ax w fun bp w=>X1 bp (indexAddr P T.g Y d w fun av w=>Q2 P T.a av w fun bd w=>W1 P T.a w fun N w=>Z6 P T.a N bd w fun _u w=>fieldAddr P T.a N 0 w fun bz w=>Q2 P T.b bz w fun b0 w=>Q1 P F.j [a,b0] w fun aw w=>X1 aw (Q3 P .sub T.d (.tmp 67) (.tmp 68) d g w fun bg w=>K (.tuple #[(.pointer none),bg,(.int .i64 60)]) w) (dr w fun b c=>Q6 b (fun q=> ∀w,c w→nilCheck P a w (dk b q w)) fun q=>Q6 b (fun o=> ∀s w,c w→q s w→fieldAddr P T.y s 1 w (dk b o w)) fun o=>Q6 b (fun n=> ∀w,c w→fieldAddr P T.a N 0 w (dk b n w)) fun n=>Q6 b (fun J=> ∀v w,c w→o v w→Q2 P T.z v w (dk b J w)) fun J=>Q6 b (fun L=> ∀m w,c w→n m w→Q2 P T.b m w (dk b L w)) fun L=>∀s v m ah ap w,c w→q s w→o v w→n m w→J ah w→L ap w→ mapUpdate P T.z ah ap d w fun _u w=>Q3 P .add T.d (.tmp 58) (.const (.int .i64 1)) d (.int .i64 1) w fun be w=>f be w)) (nilCheck P a w fun bj w=>fieldAddr P T.y bj 0 w fun bh w=>Q2 P T.g bh w fun bq w=>R6 P T.g bq (some g) none none w fun af w=>X6 P .len [T.g] T.d [false] [af] w fun bs w=>lp (α:=Value) (.int .i64 0) w fun e i d_ w=>Q3 P .lss T.d (.tmp 85) (.tmp 84) i bs w fun br w=>X1 br (indexAddr P T.g af i w fun a6 w=>Q2 P T.a a6 w fun bf w=>W1 P T.a w fun Q w=>Z6 P T.a Q bf w fun _u w=>Q2 P T.a Q w fun ba w=>Q1 P F.aX [a,ba] w fun ai w=>Q3 P .neq T.w (.tmp 93) (.const (.int .i64 0)) ai (.int .i64 0) w fun ay w=>X1 ay (K (.tuple #[(.pointer none),i,ai]) w) (Q3 P .add T.d (.tmp 85) (.const (.int .i64 1)) i (.int .i64 1) w fun a5 w=>e a5 w)) (nilCheck P a w fun a9 w=>fieldAddr P T.y a9 0 w fun ak w=>Q2 P T.g ak w fun aj w=>R6 P T.g aj (some g) none none w fun am w=>N0 P (.func F.b7) [a] [] w fun ae w=>Q1 P F.n [am,ae] w fun D w=>Q3 P .geq T.d (.tmp 107) (.const (.int .i64 0)) D (.int .i64 0) w fun ad w=>X1 ad (K (.tuple #[(.pointer none),D,(.int .i64 63)]) w) (Q1 P F.b8 [a,g] w fun C w=>X6 P .len [T.a3] T.d [false] [C] w fun V w=>lp (α:=Value) (.int .i64 0) w fun h H d_ w=>Q3 P .lss T.d (.tmp 114) (.tmp 113) H V w fun R w=>X1 R (indexAddr P T.a3 C H w fun al w=>Q2 P T.d al w fun A w=>nilCheck P a w fun an w=>fieldAddr P T.y an 0 w fun W w=>Q2 P T.g W w fun X w=>indexAddr P T.g X A w fun Z w=>Q2 P T.a Z w fun ao w=>Q1 P F.aS [a,ao] w fun B w=>Q3 P .neq T.w (.tmp 127) (.const (.int .i64 0)) B (.int .i64 0) w fun O w=>X1 O (Q3 P .sub T.d (.tmp 129) (.tmp 130) A g w fun U w=>K (.tuple #[(.pointer none),U,B]) w) (Q3 P .add T.d (.tmp 114) (.const (.int .i64 1)) H (.int .i64 1) w fun aa w=>h aa w)) (K (.tuple #[a,(.int .i64 0),(.int .i64 0)]) w)))))
theorem Q6S {a:Value} {w:World} {K:Value→World→Prop} (h:Q1z a w K):Q1 P F.ch [a] w K:=Q8 Q6o Tryz.func12 rfl (by decide) (by kernel_rfl) h
def Jw (w:World) (K:Value→World→Prop):Prop:= N8 P T.s [(0,(.string ⟨#[105,110,116]⟩)),(1,(.int .i64 1))] w fun o w=>N8 P T.s [(0,(.string ⟨#[114,101,116,117,114,110]⟩))] w fun t w=>buildSlice P T.m 2 [(0,o),(1,t)] w fun s w=>N8 P T.j [(0,(.string ⟨#[120]⟩)),(1,(.string ⟨#[105,110,116]⟩))] w fun r w=>N8 P T.j [(0,(.string ⟨#[110,101,120,116]⟩)),(1,(.string ⟨#[65]⟩))] w fun p w=>buildSlice P T.h 2 [(0,r),(1,p)] w fun q w=>buildSlice P T.e 2 [(0,(.string ⟨#[105,110,116]⟩)),(1,(.string ⟨#[65]⟩))] w fun n w=>N8 P T.c [(0,(.string ⟨#[102]⟩)),(1,n),(2,(.string ⟨#[105,110,116]⟩)),(4,(.int .i64 3)),(5,s)] w fun j w=>N8 P T.s [(0,(.string ⟨#[114,101,116,117,114,110]⟩))] w fun m w=>buildSlice P T.m 1 [(0,m)] w fun e w=>N8 P T.c [(0,(.string ⟨#[103]⟩)),(4,(.int .i64 1)),(5,e)] w fun c w=>buildSlice P T.f 2 [(0,j),(1,c)] w fun f w=>N8 P T.a [(0,(.string ⟨#[65]⟩)),(1,(.string ⟨#[79,98,106,101,99,116]⟩)),(6,q),(7,f)] w fun k w=>buildSlice P T.e 1 [(0,(.string ⟨#[73]⟩))] w fun b w=>N8 P T.j [(0,(.string ⟨#[108]⟩)),(1,(.string ⟨#[65,91,93]⟩))] w fun a w=>buildSlice P T.h 1 [(0,a)] w fun g w=>N8 P T.a [(0,(.string ⟨#[66]⟩)),(1,(.string ⟨#[65]⟩)),(2,b),(6,g)] w fun d w=>N8 P T.a [(0,(.string ⟨#[73]⟩)),(1,(.string ⟨#[79,98,106,101,99,116]⟩)),(3,(.bool true)),(4,(.bool true))] w fun i w=>N8 P T.a [(0,(.string ⟨#[68]⟩)),(1,(.string ⟨#[79,98,106,101,99,116]⟩)),(4,(.bool true))] w fun l w=>buildSlice P T.g 4 [(0,k),(1,d),(2,i),(3,l)] w fun h w=>K h w
theorem Rj {w:World} {K:Value→World→Prop} (h:Jw w K):Q1 P F.aa [] w K:=Q8 (List.replicate 3 none) Tryz.func13 rfl (by decide) (by kernel_rfl) h
def Ol (a:Value) (w:World) (K:Value→World→Prop):Prop:= nilCheck P a w fun d w=>fieldAddr P T.r d 3 w fun b w=>Q2 P T.k b w fun c w=>X6 P .len [T.k] T.d [false] [c] w fun e w=>K e w
theorem Q04 {a:Value} {w:World} {K:Value→World→Prop} (h:Ol a w K):Q1 P F.aR [a] w K:=Q8 (List.replicate 2 none) Tryz.func17 rfl (by decide) (by kernel_rfl) h
def Ns (o:Value) (w:World) (K:Value→World→Prop):Prop:= dr w fun a b=>Q6 a (fun j=> ∀w,b w→nilCheck P o w (dk a j w)) fun j=>Q6 a (fun e=> ∀h w,b w→j h w→fieldAddr P T.r h 1 w (dk a e w)) fun e=>Q6 a (fun l=> ∀w,b w→nilCheck P o w (dk a l w)) fun l=>Q6 a (fun i=> ∀g w,b w→l g w→fieldAddr P T.r g 2 w (dk a i w)) fun i=>Q6 a (fun m=> ∀f w,b w→e f w→Q2 P T.d f w (dk a m w)) fun m=>Q6 a (fun c=> ∀k w,b w→i k w→Q2 P T.d k w (dk a c w)) fun c=>∀h f g k p d w,b w→j h w→e f w→l g w→i k w→m p w→c d w→ Q3 P .sub T.d (.tmp 6) (.tmp 10) p d w fun n w=>K n w
theorem Ks {a:Value} {w:World} {K:Value→World→Prop} (h:Ns a w K):Q1 P F.a2 [a] w K:=Q8 (List.replicate 2 none) Tryz.func18 rfl (by decide) (by kernel_rfl) h
def Oh (i h:Value) (w:World) (K:Value→World→Prop):Prop:= Q3 P .geq T.d (.tmp 5) (.const (.int .i64 0)) h (.int .i64 0) w fun a w=>Q0 a true w (fun w J=>J h w) fun j w=>Q0 a true w (fun w J=>J i w) fun k w=>Q0 a true w (nilCheck P k) fun d w=>Q0 a true w (fieldAddr P T.r d 3) fun e w=>Q0 a true w (Q2 P T.k e) fun c w=>Q0 a true w (X6 P .len [T.k] T.d [false] [c]) fun b w=>Q0 a true w (Q3 P .lss T.d (.tmp 8) (.tmp 13) j b) fun f w=>pick P a f (.bool false) w fun g w=>K g w
theorem Aw {a b:Value} {w:World} {K:Value→World→Prop} (h:Oh a b w K):Q1 P F.ax [a,b] w K:=Q8 (List.replicate 2 none) Tryz.func51 rfl (by decide) (by kernel_rfl) h
def Nd (g h:Value) (w:World) (K:Value→World→Prop):Prop:= Q1 P F.ax [g,h] w fun j w=>Z8 P .not j w fun i w=>X1 i (K (.string ⟨#[]⟩) w) (nilCheck P g w fun b w=>fieldAddr P T.r b 3 w fun c w=>Q2 P T.k c w fun a w=>indexAddr P T.k a h w fun d w=>fieldAddr P T.u d 0 w fun f w=>Q2 P T.b f w fun e w=>K e w)
theorem Pn {a b:Value} {w:World} {K:Value→World→Prop} (h:Nd a b w K):Q1 P F.ab [a,b] w K:=Q8 (List.replicate 5 none) Tryz.func20 rfl (by decide) (by kernel_rfl) h
def Nx (h i:Value) (w:World) (K:Value→World→Prop):Prop:= Q1 P F.ax [h,i] w fun k w=>Z8 P .not k w fun j w=>X1 j (K (.int .i64 0) w) (nilCheck P h w fun b w=>fieldAddr P T.r b 3 w fun c w=>Q2 P T.k c w fun a w=>indexAddr P T.k a i w fun d w=>fieldAddr P T.u d 1 w fun g w=>Q2 P T.n g w fun e w=>X6 P .len [T.n] T.d [false] [e] w fun f w=>K f w)
theorem Td {a b:Value} {w:World} {K:Value→World→Prop} (h:Nx a b w K):Q1 P F.aM [a,b] w K:=Q8 (List.replicate 5 none) Tryz.func21 rfl (by decide) (by kernel_rfl) h
def Xs:V3:=[none,none,none,some ([8],[4,5,8,9,10,11,12,13,14,15,16,17,18]),none,none,none,none,none,none,none]
def R9 (g i:Value) (w:World) (K:Value→World→Prop):Prop:= X6 P .len [T.k] T.d [false] [g] w fun j w=>lp (α:=Value) (.int .i64 0) w fun a b k w=>Q3 P .lss T.d (.tmp 8) (.tmp 7) b j w fun h w=>X1 h (indexAddr P T.k g b w fun c w=>Q2 P T.u c w fun d w=>Y6 P i [d] w fun e w=>X1 e (K b w) (Q3 P .add T.d (.tmp 8) (.const (.int .i64 1)) b (.int .i64 1) w fun f w=>a f w)) (K (.int .i64 (-1)) w)
theorem Xp {a b:Value} {w:World} {K:Value→World→Prop} (h:R9 a b w K):Q1 P F.a4 [a,b] w K:=Q8 Xs Tryz.func98 rfl (by decide) (by kernel_rfl) h
def H5 (a c:Value) (w:World) (K:Value→World→Prop):Prop:= Q1 P F.a4 [a,c] w fun d w=>Q3 P .geq T.d (.tmp 7) (.const (.int .i64 0)) d (.int .i64 0) w fun b w=>K b w
theorem Qd {a b:Value} {w:World} {K:Value→World→Prop} (h:H5 a b w K):Q1 P F.m [a,b] w K:=Q8 (List.replicate 2 none) Tryz.func53 rfl (by decide) (by kernel_rfl) h
def Em (Q O:Value) (w:World) (K:Value→World→Prop):Prop:= box P T.i O w fun a w=>Q2 P T.i a w fun U w=>N8 P T.i [] w fun V w=>Q3 P .eql T.i (.tmp 6) (.tmp 7) U V w fun R w=>X1 R (K (.string ⟨#[110,117,108,108]⟩) w) (Q2 P T.i a w fun E w=>fieldAddr P T.i a 1 w fun M w=>Q2 P T.ah M w fun q w=>N8 P T.i [(0,(.int .i64 1)),(1,q)] w fun m w=>Q3 P .eql T.i (.tmp 10) (.tmp 13) E m w fun t w=>X1 t (K (.string ⟨#[105,110,116]⟩) w) (Q2 P T.i a w fun j w=>fieldAddr P T.i a 1 w fun i w=>Q2 P T.ah i w fun u w=>Q3 P .and T.ah (.tmp 18) (.const (.int .i64 1)) u (.int .i64 1) w fun o w=>N8 P T.i [(0,(.int .i64 2)),(1,o)] w fun z w=>Q3 P .eql T.i (.tmp 16) (.tmp 20) j z w fun H w=>X1 H (K (.string ⟨#[98,111,111,108]⟩) w) (Q2 P T.i a w fun s w=>fieldAddr P T.i a 2 w fun r w=>Q2 P T.b r w fun N w=>N8 P T.i [(0,(.int .i64 3)),(2,N)] w fun p w=>Q3 P .eql T.i (.tmp 23) (.tmp 26) s p w fun b w=>Q0 b true w (fieldAddr P T.i a 2) fun A w=>Q0 b true w (Q2 P T.b A) fun d w=>Q0 b true w (X6 P .len [T.b] T.d [false] [d]) fun B w=>Q0 b true w (Q3 P .leq T.d (.tmp 31) (.const (.int .i64 4096)) B (.int .i64 4096)) fun e w=>pick P b e (.bool false) w fun c w=>Q0 c true w (fieldAddr P T.i a 2) fun n w=>Q0 c true w (Q2 P T.b n) fun l w=>Q0 c true w (Q1 P F.aN [l]) fun y w=>pick P c y (.bool false) w fun L w=>X1 L (K (.string ⟨#[116,101,120,116]⟩) w) (Q2 P T.i a w fun D w=>fieldAddr P T.i a 3 w fun J w=>Q2 P T.d J w fun f w=>N8 P T.i [(0,(.int .i64 4)),(3,f)] w fun C w=>Q3 P .eql T.i (.tmp 40) (.tmp 43) D C w fun h w=>X1 h (fieldAddr P T.i a 3 w fun g w=>Q2 P T.d g w fun v w=>Q1 P F.ab [Q,v] w fun k w=>K k w) (K (.string ⟨#[]⟩) w)))))
theorem Q0A {a b:Value} {w:World} {K:Value→World→Prop} (h:Em a b w K):Q1 P F.bS [a,b] w K:=Q8 (List.replicate 13 none) Tryz.func31 rfl (by decide) (by kernel_rfl) h
def Zz (a f:Value) (w:World) (K:Value→World→Prop):Prop:= Q1 P F.a6 [a,f] w fun g w=>Z8 P .not g w fun h w=>X1 h (K (.tuple #[a,(.bool false)]) w) (X6 P .len [T.b] T.d [false] [a] w fun b w=>X6 P .len [T.b] T.d [false] [f] w fun e w=>Q3 P .sub T.d (.tmp 13) (.tmp 15) b e w fun d w=>R6 P T.b a none (some d) none w fun c w=>K (.tuple #[c,(.bool true)]) w)
theorem Hc {a b:Value} {w:World} {K:Value→World→Prop} (h:Zz a b w K):Q1 P F.bT [a,b] w K:=Q8 (List.replicate 5 none) Tryz.func180 rfl (by decide) (by kernel_rfl) h
def Mf (c e:Value) (w:World) (K:Value→World→Prop):Prop:= Q1 P F.bT [c,e] w fun b w=>ext P b 0 w fun d w=>ext P b 1 w fun a w=>K (.tuple #[d,a]) w
theorem Kf {a b:Value} {w:World} {K:Value→World→Prop} (h:Mf a b w K):Q1 P F.bt [a,b] w K:=Q8 (List.replicate 2 none) Tryz.func146 rfl (by decide) (by kernel_rfl) h
def Q0k (f:Value) (w:World) (K:Value→World→Prop):Prop:= Q1 P F.bt [f,(.string ⟨#[91,93]⟩)] w fun g w=>ext P g 0 w fun h w=>ext P g 1 w fun i w=>Z8 P .not i w fun a w=>Q0 a false w (fun w J=>J f w) fun b w=>Q0 a false w (Q1 P F.w [b]) fun c w=>Q0 a false w (Z8 P .not c) fun e w=>pick P a (.bool true) e w fun d w=>X1 d (K (.string ⟨#[]⟩) w) (K h w)
theorem Q4Q {a:Value} {w:World} {K:Value→World→Prop} (h:Q0k a w K):Q1 P F.bK [a] w K:=Q8 (List.replicate 6 none) Tryz.func97 rfl (by decide) (by kernel_rfl) h
def Ww (b f:Value) (w:World) (K:Value→World→Prop):Prop:= box P T.a b w fun a w=>fieldAddr P T.a a 0 w fun e w=>Q2 P T.b e w fun c w=>Q2 P T.b f w fun d w=>Q3 P .eql T.b (.tmp 5) (.tmp 6) c d w fun g w=>K g w
theorem Bl {a b:Value} {w:World} {K:Value→World→Prop} (h:Ww a b w K):Q1 P F.bd [a,b] w K:=Q8 (List.replicate 2 none) Tryz.func110 rfl (by decide) (by kernel_rfl) h
def Nu (j d z:Value) (w:World) (K:Value→World→Prop):Prop:= box P T.b z w fun a w=>Q1 P F.q [j,d] w fun r w=>Z8 P .not r w fun b w=>Q0 b false w (fun w J=>J j w) fun h w=>Q0 b false w (Q2 P T.b a) fun l w=>Q0 b false w (Q1 P F.q [h,l]) fun s w=>Q0 b false w (Z8 P .not s) fun f w=>pick P b (.bool true) f w fun e w=>X1 e (K (.bool false) w) (Q2 P T.b a w fun o w=>Q3 P .eql T.b (.tmp 19) (.tmp 20) d o w fun t w=>X1 t (K (.bool true) w) (Q1 P F.aC [d] w fun c w=>Q0 c false w (Q2 P T.b a) fun k w=>Q0 c false w (Q1 P F.aC [k]) fun u w=>pick P c (.bool true) u w fun y w=>X1 y (K (.bool false) w) (Q3 P .eql T.b (.tmp 30) (.const (.string ⟨#[110,117,108,108]⟩)) d (.string ⟨#[110,117,108,108]⟩) w fun p w=>X1 p (K (.bool true) w) (Q1 P F.bK [d] w fun m w=>Q3 P .neq T.b (.tmp 34) (.const (.string ⟨#[]⟩)) m (.string ⟨#[]⟩) w fun i w=>X1 i (Q2 P T.b a w fun g w=>Q3 P .eql T.b (.tmp 36) (.const (.string ⟨#[79,98,106,101,99,116]⟩)) g (.string ⟨#[79,98,106,101,99,116]⟩) w fun n w=>K n w) (N0 P (.func F.bd) [] [a] w fun q w=>Q1 P F.u [j,d,q] w fun v w=>K v w)))))
theorem Tc {a c b:Value} {w:World} {K:Value→World→Prop} (h:Nu a c b w K):Q1 P F.bz [a,c,b] w K:=Q8 (List.replicate 13 none) Tryz.func62 rfl (by decide) (by kernel_rfl) h
def Nh (l n o:Value) (w:World) (K:Value→World→Prop):Prop:= box P T.i n w fun b w=>Q2 P T.i b w fun m w=>Q1 P F.bS [l,m] w fun c w=>Q3 P .neq T.b (.tmp 11) (.const (.string ⟨#[]⟩)) c (.string ⟨#[]⟩) w fun a w=>Q0 a true w (fun w J=>J l w) fun f w=>Q0 a true w (nilCheck P f) fun i w=>Q0 a true w (fieldAddr P T.r i 0) fun g w=>Q0 a true w (Q2 P T.l g) fun h w=>Q0 a true w (fun w J=>J c w) fun k w=>Q0 a true w (fun w J=>J o w) fun d w=>Q0 a true w (Q1 P F.bz [h,k,d]) fun e w=>pick P a e (.bool false) w fun j w=>K j w
theorem Ph {a c b:Value} {w:World} {K:Value→World→Prop} (h:Nh a c b w K):Q1 P F.ar [a,c,b] w K:=Q8 (List.replicate 3 none) Tryz.func27 rfl (by decide) (by kernel_rfl) h
def Nn (u t z:Value) (w:World) (K:Value→World→Prop):Prop:= box P T.u t w fun a w=>fieldAddr P T.u a 0 w fun v w=>Q2 P T.b v w fun y w=>Q1 P F.bK [y] w fun n w=>Q3 P .neq T.b (.tmp 11) (.const (.string ⟨#[]⟩)) n (.string ⟨#[]⟩) w fun o w=>X1 o (K n w) (dr w fun b k=>Q6 b (fun g=> ∀w,k w→nilCheck P u w (dk b g w)) fun g=>Q6 b (fun e=> ∀h w,k w→g h w→fieldAddr P T.r h 0 w (dk b e w)) fun e=>Q6 b (fun d=> ∀w,k w→fieldAddr P T.u a 0 w (dk b d w)) fun d=>Q6 b (fun i=> ∀c w,k w→e c w→Q2 P T.l c w (dk b i w)) fun i=>Q6 b (fun j=> ∀f w,k w→d f w→Q2 P T.b f w (dk b j w)) fun j=>∀h c f l m w,k w→g h w→e c w→d f w→i l w→j m w→ Q1 P F.x [l,m] w fun s w=>indexAddr P T.h s z w fun r w=>fieldAddr P T.j r 1 w fun q w=>Q2 P T.b q w fun p w=>K p w)
theorem Po {a c b:Value} {w:World} {K:Value→World→Prop} (h:Nn a c b w K):Q1 P F.au [a,c,b] w K:=Q8 (List.replicate 6 none) Tryz.func52 rfl (by decide) (by kernel_rfl) h
def Jv (g h:Value) (w:World) (K:Value→World→Prop):Prop:= Q1 P F.j [g,h] w fun a w=>Q0 a true w (fun w J=>J g w) fun i w=>Q0 a true w (fun w J=>J h w) fun d w=>Q0 a true w (Q1 P F.g [i,d]) fun e w=>Q0 a true w (Yy P T.a e 4) fun c w=>Q0 a true w (Z8 P .not c) fun b w=>pick P a b (.bool false) w fun f w=>K f w
theorem Rq {a b:Value} {w:World} {K:Value→World→Prop} (h:Jv a b w K):Q1 P F.av [a,b] w K:=Q8 (List.replicate 2 none) Tryz.func66 rfl (by decide) (by kernel_rfl) h
end Go.Proofs.YtjdiakhipmggjaaGreatDoor
