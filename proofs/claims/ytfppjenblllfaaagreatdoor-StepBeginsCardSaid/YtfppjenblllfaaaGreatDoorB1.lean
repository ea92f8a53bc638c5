/- Parts of a proof about the given program: its functions as texts of their own, what each computes, plain laws of that. The conditions of each stand in its statement. -/
import Derived.WalkKit
import Derived.Test.YtfppjenblllfaaaGreatDoorProg
import Derived.KernelRfl
set_option linter.unnecessarySimpa false
set_option linter.defProp false
set_option linter.unusedSectionVars false
set_option linter.unusedVariables false
set_option linter.unusedSimpArgs false
namespace Go.Emb
def I2 (P:Program) (s:Sem Next) (w:World) (K:Value→World→Prop):Prop:=
 match s.run P w with
 | .ok (.value v) w'=>K v w'
 | .ok .skip w'=>K undef w'
 | .ok (.enter f a) w'=>Calls P f a w' fun e b=>match e with | .returned v=>K v b | _=>False
 | .ok (.row row a) w'=>Rows P row a w' K
 | _=>False
theorem X03: ∃f:Program→Sem Next→World→(Value→World→Prop)→Prop,f=I2:=⟨_,rfl⟩
noncomputable def op:Program→Sem Next→World→(Value→World→Prop)→Prop:=Classical.choose X03
theorem K9:op=I2:=Classical.choose_spec X03
theorem X2x {P:Program} {o:Oper} {a:Act} {w:World} {next:Act→World→Prop} {Q:Exit→Act→World→Prop}
 (h:op P (execOp a.eval o) w (fun v w=>next (a.put o.dst v) w)):o.wp P a w next Q:=by
 unfold Oper.wp
 rw[K9] at h
 unfold I2 at h
 cases b:(execOp a.eval o).run P w with
 | halt x w'=>rw[b] at h;exact h.elim
 | ok n w'=>
  rw[b] at h
  cases n<;>simp only at h<;>try exact h.elim
  ·exact h
  ·exact h
  ·refine Calls.mono h fun e d c=>?_
   cases e<;>first | exact c | exact c.elim
  ·exact h
theorem Dn {P:Program} {s:Sem Next} {K b:Value→World→Prop} {w:World} (a: ∀v w,K v w→b v w) (h:op P s w K):op P s w b:=by
 rw[K9] at*
 unfold I2 at*
 cases c:s.run P w with
 | halt x w'=>rw[c] at h;exact h.elim
 | ok n w'=>
  rw[c] at h
  cases n<;>simp only at h⊢ <;>try exact h.elim
  ·exact a _ _ h
  ·exact a _ _ h
  ·refine Calls.mono h fun e f d=>?_
   cases e<;>first | exact a _ _ d | exact d.elim
  ·exact h.mono a
def sv (s:Sem Value):Sem Next:=do Pure.pure (.value (←s))
def su (s:Sem Unit):Sem Next:=do s;Pure.pure .skip
section
variable (P : Program)
noncomputable def pick (c a b:Value) (w:World) (K:Value→World→Prop):Prop:=op P (do Pure.pure (.value (if←asBool c then a else b))) w K
noncomputable def W6 (e:TypeId) (w:World) (K:Value→World→Prop):Prop:=op P (sv (Instr.alloc e true (.tuple #[]))) w K
noncomputable def box (e:TypeId) (x:Value) (w:World) (K:Value→World→Prop):Prop:=op P (sv (Instr.box e x)) w K
noncomputable def N3 (t:TypeId) (a:List (Nat×Value)) (w:World) (K:Value→World→Prop):Prop:=op P (sv (Instr.build t a.toArray)) w K
noncomputable def buildSlice (t:TypeId) (n:Nat) (a:List (Nat×Value)) (w:World) (K:Value→World→Prop):Prop:=op P (sv (Instr.buildSlice t n a.toArray)) w K
noncomputable def Q2 (t:TypeId) (a:Value) (w:World) (K:Value→World→Prop):Prop:=op P (sv (Instr.loadAt t a)) w K
noncomputable def Z2 (t:TypeId) (a x:Value) (w:World) (K:Value→World→Prop):Prop:=op P (su (Instr.storeAt t a x)) w K
noncomputable def nilCheck (x:Value) (w:World) (K:Value→World→Prop):Prop:=op P (execOp (fun _=>x) {dst:=none,op:= .nilCheck (.const x),type:=0,pos:= "",after:= #[],guard:=none}) w K
noncomputable def Q3 (o:BinOp) (t:TypeId) (a b:Operand) (x y:Value) (w:World) (K:Value→World→Prop):Prop:=op P (sv (do eqGuard o t a b x y;Go.binOp o t x y)) w K
noncomputable def J7 (o:UnOp) (x:Value) (w:World) (K:Value→World→Prop):Prop:=op P (sv (Op.unary o x)) w K
noncomputable def conv (s d:TypeId) (x:Value) (w:World) (K:Value→World→Prop):Prop:=op P (sv (Go.convert s d x)) w K
noncomputable def X0r (t:TypeId) (x:Value) (w:World) (K:Value→World→Prop):Prop:=op P (sv (Instr.makeInterface t x)) w K
noncomputable def M5 (f:Fn) (first caps:List Value) (w:World) (K:Value→World→Prop):Prop:=op P (sv (Instr.makeFunc f first.toArray caps.toArray)) w K
noncomputable def Rr (t:TypeId) (r:Option Value) (w:World) (K:Value→World→Prop):Prop:=op P (sv (Instr.makeMap t r)) w K
noncomputable def Na (t:TypeId) (n c:Value) (w:World) (K:Value→World→Prop):Prop:=op P (sv (Instr.makeSlice t n c)) w K
noncomputable def E6 (t:TypeId) (x:Value) (a b c:Option Value) (w:World) (K:Value→World→Prop):Prop:=op P (sv (Instr.sliceAt t x a b c)) w K
noncomputable def fieldAddr (t:TypeId) (x:Value) (f:Nat) (w:World) (K:Value→World→Prop):Prop:=op P (sv (Instr.fieldAt t x f)) w K
noncomputable def Lq (t:TypeId) (x:Value) (f:Nat) (w:World) (K:Value→World→Prop):Prop:=op P (sv (Instr.field t x f)) w K
noncomputable def indexAddr (t:TypeId) (x i:Value) (w:World) (K:Value→World→Prop):Prop:=op P (sv (Instr.indexAt t x i)) w K
noncomputable def E2 (t:TypeId) (x i:Value) (w:World) (K:Value→World→Prop):Prop:=op P (sv (Instr.index t x i)) w K
noncomputable def lookup (t:TypeId) (x i:Value) (ok:Bool) (w:World) (K:Value→World→Prop):Prop:=op P (sv (Instr.lookup t x i ok)) w K
noncomputable def mapUpdate (t:TypeId) (m k x:Value) (w:World) (K:Value→World→Prop):Prop:=op P (su (Instr.mapUpdate t m k x)) w K
noncomputable def mapEntry (t:TypeId) (m k:Value) (w:World) (K:Value→World→Prop):Prop:=op P (sv (Instr.mapEntry t m k)) w K
noncomputable def entryStore (t:TypeId) (m s x:Value) (w:World) (K:Value→World→Prop):Prop:=op P (su (Instr.entryStore t m s x)) w K
noncomputable def rng (t:TypeId) (x:Value) (w:World) (K:Value→World→Prop):Prop:=op P (sv (Instr.range t x)) w K
noncomputable def J1 (b:Value) (a:Bool) (t:TypeId) (w:World) (K:Value→World→Prop):Prop:=op P (sv (Instr.next b a t)) w K
noncomputable def Q6P (a:Value) (w:World) (K:Value→World→Prop):Prop:=op P (sv (Instr.entry a)) w K
noncomputable def pnc (x:Value) (w:World) (K:Value→World→Prop):Prop:=op P (sv (Instr.panic x)) w K
noncomputable def ext (x:Value) (i:Nat) (w:World) (K:Value→World→Prop):Prop:=op P (sv (Instr.extract x i)) w K
noncomputable def X5 (b:Builtin) (a:List TypeId) (t:TypeId) (cs:List Bool) (xs:List Value) (w:World) (K:Value→World→Prop):Prop:=op P (Go.builtin b a.toArray t cs.toArray xs.toArray) w K
noncomputable def Q0 (f:FuncId) (xs:List Value) (w:World) (K:Value→World→Prop):Prop:=op P (callFunc f xs.toArray) w K
noncomputable def Y9 (f:Value) (xs:List Value) (w:World) (K:Value→World→Prop):Prop:=op P (do let d←Deferred.ofValue f xs.toArray;invoke d.target d.args) w K
end
def get (l:List Value) (t:Nat):Value:=l.getD t undef
def ev (l:List Value):Operand→Value
 | .tmp t=>get l t
 | .const v=>v
 | .global g=> .pointer (some ⟨g,0,none⟩)
 | .func f=> .func (.func f) #[] #[]
def put (l:List Value) (d:Option Tmp) (v:Value):List Value:=
 match d with
 | some d=>l.set d v
 | none=>l
def Pi (l:List Value) (xs:Array Operand):List Value:=xs.toList.map (ev l)
def evp (l:List Value) (xs:Array (Nat×Operand)):List (Nat×Value):=xs.toList.map fun p=>(p.1,ev l p.2)
def evo (l:List Value) (x:Option Operand):Option Value:=match x with | some x=>some (ev l x) | none=>none
def isC:Operand→Bool | .const _=>true | _=>false
noncomputable def Ni (P:Program) (l:List Value) (o:Oper) (c:Call) (w:World) (K:Value→World→Prop):Prop:=
 match c.callee with
 | .builtin b=>X5 P b c.argTypes.toList o.type (c.args.toList.map isC) (Pi l c.args) w K
 | .value (.func f)=>Q0 P f (Pi l c.args) w K
 | .value f=>Y9 P (ev l f) (Pi l c.args) w K
 | _=>op P (execOp (ev l) o) w K
noncomputable def U7 (P:Program) (l:List Value) (o:Oper) (w:World) (K:Value→World→Prop):Prop:=
 match o.op with
 | .move x=>K (ev l x) w
 | .assign x=>K (ev l x) w
 | .pick c a b=>pick P (ev l c) (ev l a) (ev l b) w K
 | .alloc e=>W6 P e w K
 | .box e x=>box P e (ev l x) w K
 | .build t g=>N3 P t (evp l g) w K
 | .buildSlice t n g=>buildSlice P t n (evp l g) w K
 | .load t a=>Q2 P t (ev l a) w K
 | .store t a x=>Z2 P t (ev l a) (ev l x) w K
 | .nilCheck x=>nilCheck P (ev l x) w K
 | .binOp op t x y _=>Q3 P op t x y (ev l x) (ev l y) w K
 | .unOp op _ x=>J7 P op (ev l x) w K
 | .convert s d x=>conv P s d (ev l x) w K
 | .makeInterface t x=>X0r P t (ev l x) w K
 | .makeFunc f first caps=>M5 P f (Pi l first) (Pi l caps) w K
 | .makeMap t r=>Rr P t (evo l r) w K
 | .makeSlice t n c=>Na P t (ev l n) (ev l c) w K
 | .slice t x q p u=>E6 P t (ev l x) (evo l q) (evo l p) (evo l u) w K
 | .fieldAddr t x f=>fieldAddr P t (ev l x) f w K
 | .field t x f=>Lq P t (ev l x) f w K
 | .indexAddr t x i=>indexAddr P t (ev l x) (ev l i) w K
 | .index t x i=>E2 P t (ev l x) (ev l i) w K
 | .lookup t x i ok=>lookup P t (ev l x) (ev l i) ok w K
 | .mapUpdate t m k x=>mapUpdate P t (ev l m) (ev l k) (ev l x) w K
 | .insert t m k x=>mapUpdate P t (ev l m) (ev l k) (ev l x) w K
 | .mapEntry t m k=>mapEntry P t (ev l m) (ev l k) w K
 | .entryStore t m s x=>entryStore P t (ev l m) (ev l s) (ev l x) w K
 | .range t x=>rng P t (ev l x) w K
 | .next h j=>J1 P (ev l h) j o.type w K
 | .extract x i=>ext P (ev l x) i w K
 | .entry h=>Q6P P (ev l h) w K
 | .panic x=>pnc P (ev l x) w K
 | .call c=>Ni P l o c w K
 | _=>op P (execOp (ev l) o) w K
theorem Q7d {α β:Type} (f:α→β) (a:Array α):a.map f=(a.toList.map f).toArray:=by rw[←Array.toList_map,Array.toArray_toList]
theorem X1g (l:List Value) (x:Option Operand):x.map (ev l)=evo l x:=by cases x<;>rfl
theorem Q53 {P:Program} {l:List Value} {o:Oper} {c:Call} {K e:Value→World→Prop} {w:World} (d: ∀v w,K v w→e v w) (h:Ni P l o c w K):Ni P l o c w e:=by
 obtain ⟨a,g,i⟩:=c
 cases a with
 | builtin b=>exact Dn d h
 | invoke r m=>exact Dn d h
 | value f=>cases f<;>(simp only[Ni,Y9,Q0] at h⊢;exact Dn d h)
theorem B2 {P:Program} {l:List Value} {o:Oper} {K b:Value→World→Prop} {w:World} (a: ∀v w,K v w→b v w) (h:U7 P l o w K):U7 P l o w b:=by
 obtain ⟨d,p,c,pos,e,g⟩:=o
 cases p<;>first | exact a _ _ h | exact Q53 a h | exact Dn a h | (simp only[U7] at h⊢;exact Dn a h)
theorem Q5z {P:Program} {l:List Value} {o:Oper} {K:Value→World→Prop} {w:World} (h:U7 P l o w K):op P (execOp (ev l) o) w K:=by
 unfold U7 at h
 split at h<;>rename_i a
 all_goals first
  | exact h
  | (unfold execOp;rw[a];exact h)
  | (unfold execOp;rw[a];simp only[Q7d,X1g];exact h)
  | (unfold execOp;rw[a,K9];exact h)
  | skip
 rename_i c
 unfold Ni at h
 split at h<;>rename_i b
 ·unfold execOp;rw[a];simp only[resolve,b,Q7d]
  simp only[pure_bind,invoke]
  unfold X5 at h
  simp only[Array.toArray_toList] at h
  refine (congrArg (fun z=>op P (builtin _ c.argTypes o.type (List.toArray z) _) w K) (List.map_congr_left (fun x _=>?_))).mp h
  cases x<;>rfl
 ·unfold execOp;rw[a];simp only[resolve,b,Q7d]
  simp only[ev,Deferred.ofValue,pure_bind,invoke]
  simpa [Q0,Pi] using h
 ·unfold execOp;rw[a];simp only[resolve,b,Q7d]
  exact h
 ·exact h
def Wo (v:Value) (b:Bool) (w:World) (a:World→(Value→World→Prop)→Prop) (J:Value→World→Prop):Prop:=
 match v with
 | .bool c=>if c=b then a w J else J undef w
 | _=>J undef w
theorem Q8g: ∃f:Value→Bool→World→(World→(Value→World→Prop)→Prop)→(Value→World→Prop)→Prop,f=Wo:=⟨_,rfl⟩
noncomputable def Q1:Value→Bool→World→(World→(Value→World→Prop)→Prop)→(Value→World→Prop)→Prop:=Classical.choose Q8g
theorem Nr:Q1=Wo:=Classical.choose_spec Q8g
def Q1U (v:Value) (t e:Prop):Prop:=
 match v with
 | .bool true=>t
 | .bool false=>e
 | _=>False
theorem Q7N: ∃f:Value→Prop→Prop→Prop,f=Q1U:=⟨_,rfl⟩
noncomputable def X1:Value→Prop→Prop→Prop:=Classical.choose Q7N
theorem Q4x:X1=Q1U:=Classical.choose_spec Q7N
noncomputable def Y2 (P:Program) (ops:List Oper) (next:List Value→World→Prop):List Oper→List Value→World→Prop
 | [],l,w=>next l w
 | o::a,l,w=>
  match o.guard with
  | none=>U7 P l o w (fun v w=>Y2 P ops next a (put l o.dst v) w)
  | some (j,b)=>match (ops[j]?).bind (·.dst) with
   | some d=>Q1 (get l d) b w (U7 P l o) (fun v w=>Y2 P ops next a (put l o.dst v) w)
   | none=>Y2 P ops next a (put l o.dst undef) w
def Ie:Nat→Type
 | 0=>Unit
 | 1=>Value
 | n+2=>Value×Ie (n+1)
def Lu (l:List Value):(a:List Nat)→Ie a.length
 | []=>()
 | [s]=>get l s
 | s::t::r=>(get l s,Lu l (t::r))
def Ow (i:Nat) (e:Value):(a:List Nat)→Ie a.length→Value
 | [],_=>e
 | [s],x=>if s=i then x else e
 | s::t::r,x=>if s=i then x.1 else Ow i e (t::r) x.2
def N4 (a b:List Nat) (x:Ie a.length) (d:Nat→Value):Nat→List Value→List Value
 | _,[]=>[]
 | i,v::l=>Ow i (if b.contains i then d i else v) a x::N4 a b x d (i+1) l
def X0h (α:Type) (c:α) (w:World) (a:(α→World→Prop)→α→(Nat→Value)→World→Prop):Prop:=
 ∃(I:α→World→Prop) (μ:α→World→Nat),I c w∧ ∀x d w,I x w→a (fun b w'=>I b w'∧μ b w'<μ x w) x d w
theorem X0k: ∃f:(α:Type)→α→World→((α→World→Prop)→α→(Nat→Value)→World→Prop)→Prop,f=X0h:=⟨_,rfl⟩
noncomputable def lp {α:Type}:α→World→((α→World→Prop)→α→(Nat→Value)→World→Prop)→Prop:=Classical.choose X0k α
theorem Q9X {α:Type} (b:α) (w:World) (a:(α→World→Prop)→α→(Nat→Value)→World→Prop):lp b w a=X0h α b w a:=
 congrFun (congrFun (congrFun (congrFun (Classical.choose_spec X0k) α) b) w) a
def Q9U (α:Type) (w:World) (A:(α→World→Prop)→World→Prop) (B:α→(Nat→Value)→World→Prop):Prop:=
 ∃I:α→World→Prop,A I w∧ ∀x d w,I x w→B x d w
theorem X0i: ∃f:(α:Type)→World→((α→World→Prop)→World→Prop)→(α→(Nat→Value)→World→Prop)→Prop,f=Q9U:=⟨_,rfl⟩
noncomputable def jn {α:Type}:World→((α→World→Prop)→World→Prop)→(α→(Nat→Value)→World→Prop)→Prop:=Classical.choose X0i α
theorem Q9Z {α:Type} (w:World) (A:(α→World→Prop)→World→Prop) (B:α→(Nat→Value)→World→Prop):jn w A B=Q9U α w A B:=
 congrFun (congrFun (congrFun (congrFun (Classical.choose_spec X0i) α) w) A) B
theorem Xy {α:Type} {w:World} {A:(α→World→Prop)→World→Prop} {B:α→(Nat→Value)→World→Prop} (I:α→World→Prop) (h:A I w) (a: ∀x d w,I x w→B x d w):jn w A B:=by
 rw[Q9Z];exact ⟨I,h,a⟩
theorem Q3T {α:Type} {w:World} {A:(α→World→Prop)→World→Prop} {B:α→(Nat→Value)→World→Prop} (h:jn w A B): ∃I:α→World→Prop,A I w∧ ∀x d w,I x w→B x d w:=by
 rw[Q9Z] at h;exact h
theorem Ym {α:Type} {c:α} {w:World} {a:(α→World→Prop)→α→(Nat→Value)→World→Prop} (I:α→World→Prop) (μ:α→World→Nat) (f:I c w)
 (e: ∀x d w,I x w→a (fun b w'=>I b w'∧μ b w'<μ x w) x d w):lp c w a:=by
 rw[Q9X];exact ⟨I,μ,f,e⟩
theorem Q8b {α:Type} {c:α} {w:World} {a:(α→World→Prop)→α→(Nat→Value)→World→Prop} (h:lp c w a):
 ∃(I:α→World→Prop) (μ:α→World→Nat),I c w∧ ∀x d w,I x w→a (fun b w'=>I b w'∧μ b w'<μ x w) x d w:=by
 rw[Q9X] at h;exact h
def O3 (ops:List Oper):List Nat:=ops.filterMap (·.dst)
def P0:Code→Nat
 | .seq a b=>P0 a+P0 b+1
 | .cond _ a b=>P0 a+P0 b
 | .block _ c=>P0 c
 | .loop c=>P0 c+1
 | .scope c=>P0 c
 | _=>0
def W9 (d:List (Option (List Nat))):Nat→Code→List Nat
 | _, .region _ ops _=>O3 ops.toList
 | k, .seq a b=>(d.getD k none).getD []++(W9 d (k+1) a++W9 d (k+1+P0 a) b)
 | k, .cond _ a b=>W9 d k a++W9 d (k+P0 a) b
 | k, .block _ c=>W9 d k c
 | k, .loop c=>(d.getD k none).getD []++W9 d (k+1) c
 | k, .scope c=>W9 d k c
 | _,_=>[]
abbrev Ol:=Exit→List Value→World→Prop
def thn (next:List Value→World→Prop) (Q:Ol):Ol
 | .normal,a,w=>next a w
 | e,a,w=>Q e a w
def Q1H (id:Nat) (Q:Ol):Ol
 | .exit b,a,w=>if b=id then Q .normal a w else Q (.exit b) a w
 | e,a,w=>Q e a w
noncomputable def Mg (P:Program) (a:List (Option (List Nat))):Nat→Code→Ol→List Value→World→Prop
 | _, .skip,Q,l,w=>Q .normal l w
 | _, .label _,Q,l,w=>Q .normal l w
 | _, .exit id,Q,l,w=>Q (.exit id) l w
 | _, .ret,Q,l,w=>Q .ret l w
 | _, .region _ ops false,Q,l,w=>Y2 P ops.toList (fun l w=>Q .normal l w) ops.toList l w
 | _, .region _ ops true,Q,l,w=> ∀t,Y2 P ops.toList (fun l w=>Q .normal l w) ((Region.schedule (P.follows .mixedOrders) ops t).filterMap (ops[·]?)) l w.drew
 | k, .seq x y,Q,l,w=>match a.getD k none with
  | none=>Mg P a (k+1) x (thn (fun l w=>Mg P a (k+1+P0 x) y Q l w) Q) l w
  | some e=>jn w (fun J w=>Mg P a (k+1) x (thn (fun l' w'=>J (Lu l' e) w') Q) l w)
   (fun z d w=>Mg P a (k+1+P0 x) y Q (N4 e (W9 a (k+1) x) z d 0 l) w)
 | k, .cond c x y,Q,l,w=>X1 (ev l c) (Mg P a k x Q l w) (Mg P a (k+P0 x) y Q l w)
 | k, .block id c,Q,l,w=>Mg P a k c (Q1H id Q) l w
 | k, .loop c,Q,l,w=>
  lp (Lu l ((a.getD k none).getD [])) w (fun b x d w=>Mg P a (k+1) c (thn (fun l' w'=>b (Lu l' ((a.getD k none).getD [])) w') Q) (N4 ((a.getD k none).getD []) (W9 a (k+1) c) x d 0 l) w)
 | _,_,_,_,_=>False
theorem Q7w {ops:List Oper} {l:List Value} {o:Oper} {j:Nat} {b:Bool} (a:o.guard=some (j,b)) {d:Nat} (e:(ops[j]?).bind (·.dst)=some d):
 Region.wanted o (yielded ops.toArray l.toArray)=true↔get l d= .bool b:=by
 unfold Region.wanted yielded
 rw[a]
 simp only[List.getElem?_toArray]
 rw[e]
 simp only[Option.bind_some,get,List.getD_eq_getElem?_getD]
 have key: ∀x:Option Value,((match x with | some (.bool c)=>some c | _=>none)==some b)=true↔x.getD undef= .bool b:=by
  intro x
  cases x with
  | none=>simp[undef]
  | some v=>cases v<;>simp
 exact key _
theorem Q5s {ops:List Oper} {l:List Value} {o:Oper} {j:Nat} {b:Bool} (c:o.guard=some (j,b)) (a:(ops[j]?).bind (·.dst)=none):
 Region.wanted o (yielded ops.toArray l.toArray)=false:=by
 unfold Region.wanted yielded
 rw[c]
 simp only[List.getElem?_toArray]
 rw[a]
 rfl
theorem Us {v:Value} {b:Bool} {a:World→(Value→World→Prop)→Prop} {J:Value→World→Prop} {w:World} (h:Q1 v b w a J):
 (v= .bool b∧a w J)∨(v≠ .bool b∧J undef w):=by
 rw[Nr] at h
 unfold Wo at h
 split at h
 ·split at h
  ·rename_i c;subst c;exact .inl ⟨rfl,h⟩
  ·rename_i c;exact .inr ⟨by simp[c],h⟩
 ·rename_i d;exact .inr ⟨d b,h⟩
theorem Tt {v:Value} {b:Bool} {a:World→(Value→World→Prop)→Prop} {J:Value→World→Prop} {w:World}
 (h:(v= .bool b∧a w J)∨(v≠ .bool b∧J undef w)):Q1 v b w a J:=by
 rw[Nr]
 unfold Wo
 split
 ·split
  ·rename_i c;subst c
   rcases h with h | h
   ·exact h.2
   ·exact absurd rfl h.1
  ·rename_i c
   rcases h with h | h
   ·exact absurd (Value.bool.inj h.1) c
   ·exact h.2
 ·rename_i d
  rcases h with h | h
  ·exact absurd h.1 (d b)
  ·exact h.2
theorem Q2B (a:Act):a.eval=ev a.tmps.toList:=by
 funext x
 cases x<;>simp[Act.eval,ev,get,List.getD_eq_getElem?_getD]
theorem Q77 (a:Act) (d:Option Tmp) (v:Value):(a.put d v).tmps.toList=put a.tmps.toList d v:=by
 cases d<;>simp[Act.put,put]
theorem Q6C (a:Act) (d:Option Tmp) (v:Value):(a.put d v).defers=a.defers:=by
 cases d<;>simp[Act.put]
def lift (Q:Ol):Exit→Act→World→Prop:=fun e a w=>a.defers=[]∧Q e a.tmps.toList w
theorem Ty (P:Program) (ops:Array Oper) (Q:Exit→Act→World→Prop) (next:List Value→World→Prop)
 (y: ∀a w,a.defers=[]→next a.tmps.toList w→Q .normal a w) (is:List Nat) (r: ∀i∈is,i<ops.size):
 ∀(a:Act) (w:World),a.defers=[]→Y2 P ops.toList next (is.filterMap (ops[·]?)) a.tmps.toList w→wpOps P ops Q is a w:=by
 induction is with
 | nil=>intro a w p h;exact y a w p h
 | cons i is u=>
  intro a w p h
  have o:=r i (by simp)
  have k:ops[i]? =some ops[i]:=by simp[o]
  rw[List.filterMap_cons,k] at h
  simp only[Y2] at h
  simp only[wpOps,k]
  have q:ops.toList.toArray=ops:=by simp
  have s:a.tmps.toList.toArray=a.tmps:=by simp
  have e: ∀{v w},Y2 P ops.toList next (is.filterMap (ops[·]?)) (put a.tmps.toList ops[i].dst v) w→wpOps P ops Q is (a.put ops[i].dst v) w:=by
   intro v w f
   refine u (fun j t=>r j (by simp[t])) _ _ (by rw[Q6C];exact p) ?_
   rw[Q77];exact f
  have m:U7 P a.tmps.toList ops[i] w (fun v w=>Y2 P ops.toList next (is.filterMap (ops[·]?)) (put a.tmps.toList ops[i].dst v) w)→
   ops[i].wp P a w (wpOps P ops Q is) Q:=by
   intro h
   refine X2x ?_
   rw[Q2B]
   exact Dn (fun v w f=>e f) (Q5z h)
  split at h
  ·rename_i n
   rw[if_pos (by simp[Region.wanted,n])]
   exact .inl (m h)
  ·rename_i j b n
   split at h
   ·rename_i d c
    have g:=Q7w (ops:=ops.toList) (l:=a.tmps.toList) n c
    rw[q,s] at g
    rcases Us h with ⟨f,h⟩ | ⟨f,h⟩
    ·rw[if_pos (g.2 f)];exact .inl (m h)
    ·rw[if_neg (fun h=>f (g.1 h))];exact e h
   ·rename_i c
    have g:=Q5s (ops:=ops.toList) (l:=a.tmps.toList) n c
    rw[q,s] at g
    rw[if_neg (by rw[g];simp)];exact e h
theorem Il (ops:Array Oper):(List.range ops.size).filterMap (ops[·]?)=ops.toList:=by
 apply List.ext_getElem?
 intro i
 rw[←Array.length_toList]
 have: ∀l:List Oper,(List.range l.length).filterMap (l[·]?)=l:=by
  intro l
  induction l with
  | nil=>rfl
  | cons x l a=>
   rw[List.length_cons,List.range_succ_eq_map,List.filterMap_cons]
   simp only[List.getElem?_cons_zero,List.filterMap_map]
   congr 1
 have h:=this ops.toList
 simp only[Array.getElem?_toList] at h
 rw[h]
theorem Q0C (b:Bool) (ops:Array Oper) (t:Nat): ∀i∈Region.schedule b ops t,i<ops.size:=by
 have key: ∀m c t a e,(∀i∈e,i<ops.size)→ ∀i∈Region.linearise.go m ops c t a e,i<ops.size:=by
  intro m c
  induction c with
  | zero=>intro t a e h i d;simp[Region.linearise.go] at d;exact h i d
  | succ c g=>
   intro t a e h i d
   simp only[Region.linearise.go] at d
   split at d
   ·rename_i j f
    refine g _ _ _ ?_ i d
    intro k hk
    rcases List.mem_cons.1 hk with rfl | hk
    ·have:=List.mem_of_getElem? f
     simp only[List.mem_filter,List.mem_range] at this
     exact this.1
    ·exact h k hk
   ·simp at d;exact h i d
 intro i d
 unfold Region.schedule at d
 split at d
 ·exact key _ _ _ _ _ (by simp) i d
 ·exact key _ _ _ _ _ (by simp) i d
def I5 (W:List Nat) (l l':List Value):Prop:=l'.length=l.length∧ ∀i,W.contains i=false→l'[i]? =l[i]?
theorem I5.refl (W:List Nat) (l:List Value):I5 W l l:=⟨rfl,fun _ _=>rfl⟩
theorem I5.trans {W:List Nat} {a b c:List Value} (h:I5 W a b) (k:I5 W b c):I5 W a c:=
 ⟨k.1.trans h.1,fun i d=>(k.2 i d).trans (h.2 i d)⟩
theorem Ev (a b:List Nat) (x:Ie a.length) (d:Nat→Value) (l:List Value): ∀i,(N4 a b x d i l).length=l.length:=by
 induction l with
 | nil=>intro i;rfl
 | cons v l c=>intro i;simp[N4,c]
theorem Rl (a b:List Nat) (x:Ie a.length) (d:Nat→Value) (l:List Value): ∀i j,(N4 a b x d i l)[j]? =(l[j]?).map fun v=>Ow (i+j) (if b.contains (i+j) then d (i+j) else v) a x:=by
 induction l with
 | nil=>intro i j;simp[N4]
 | cons v l c=>
  intro i j
  cases j with
  | zero=>simp[N4]
  | succ j=>simp only[N4,List.getElem?_cons_succ,c];rw[show i+1+j=i+(j+1) from by omega]
theorem Jy (i:Nat) (e:Value): ∀(b:List Nat) (x:Ie b.length),b.contains i=false→Ow i e b x=e
 | [],_,_=>rfl
 | [s],x,h=>by
  have a: ¬s=i:=by intro a;subst a;simp at h
  exact if_neg a
 | s::t::r,x,h=>by
  simp only[Ow]
  split
  ·rename_i a;subst a;simp at h
  ·refine Jy i e (t::r) x.2 ?_
   simp only[List.contains_cons,Bool.or_eq_false_iff] at h⊢
   exact h.2
theorem Q5d (l:List Value) (i:Nat) (e c:Value): ∀(b:List Nat),b.contains i=true→Ow i e b (Lu l b)=get l i
 | [],h=>by simp at h
 | [s],h=>by
  simp only[List.contains_cons,List.contains_nil,Bool.or_false,beq_iff_eq] at h
  subst h;simp[Ow,Lu]
 | s::t::r,h=>by
  simp only[Ow,Lu]
  split
  ·rename_i a;subst a;rfl
  ·rename_i a
   refine Q5d l i e c (t::r) ?_
   simp only[List.contains_cons,Bool.or_eq_true,beq_iff_eq] at h⊢
   rcases h with h | h
   ·exact absurd h.symm a
   ·exact h
theorem Fg (a c:List Nat) (l l':List Value) (g:l'.length=l.length)
 (h: ∀i,a.contains i=false→c.contains i=false→l'[i]? =l[i]?):l'=N4 a c (Lu l' a) (get l') 0 l:=by
 apply List.ext_getElem?
 intro i
 rw[Rl]
 simp only[Nat.zero_add]
 cases d:l[i]? with
 | none=>
  have:=List.getElem?_eq_none_iff.1 d
  simp only[Option.map_none]
  exact List.getElem?_eq_none (by omega)
 | some v=>
  have m:i<l.length:=(List.getElem?_eq_some_iff.1 d).1
  have j:l'[i]? =some (get l' i):=by
   simp only[get,List.getD_eq_getElem?_getD]
   rw[List.getElem?_eq_getElem (by omega)];rfl
  rw[j]
  simp only[Option.map_some,Option.some.injEq]
  by_cases k:a.contains i=true
  ·rw[Q5d l' i _ undef a k]
  ·have b:a.contains i=false:=by simpa using k
   rw[Jy _ _ _ _ b]
   by_cases f:c.contains i=true
   ·rw[if_pos f]
   ·have e:c.contains i=false:=by simpa using f
    rw[if_neg f]
    have:=h i b e
    rw[j,d] at this
    exact Option.some.inj this
theorem Q3i {v:Value} {t e a b:Prop} (c:t→a) (d:e→b) (h:X1 v t e):X1 v a b:=by
 rw[Q4x] at*
 unfold Q1U at*
 split at h
 ·exact c h
 ·exact d h
 ·exact h.elim
theorem Yo (P:Program) (c:List Oper) (next a:List Value→World→Prop) (W:List Nat) (j:List Value): ∀(ops:List Oper) (l:List Value) (w:World),
 (∀o∈ops,∀d,o.dst=some d→W.contains d=true)→I5 W j l→(∀l w,next l w→I5 W j l→a l w)→Y2 P c next ops l w→Y2 P c a ops l w
 | [],l,w,_,k,p,h=>p l w h k
 | o::f,l,w,q,k,p,h=>by
  have g: ∀v,I5 W j (put l o.dst v):=by
   intro v
   cases u:o.dst with
   | none=>exact k
   | some d=>
    have s:=q o (by simp) d u
    refine k.trans ⟨by simp[put],fun i r=>?_⟩
    have:d≠i:=by intro e;subst e;rw[s] at r;cases r
    simp[put,this]
  have b: ∀v w,Y2 P c next f (put l o.dst v) w→Y2 P c a f (put l o.dst v) w:=fun v w y=>
   Yo P c next a W j f _ w (fun o t=>q o (by simp[t])) (g v) p y
  simp only[Y2] at h⊢
  split at h
  ·exact B2 b h
  ·split at h
   ·refine Tt ((Us h).imp (fun ⟨m,n⟩=>⟨m,B2 b n⟩) (fun ⟨m,n⟩=>⟨m,b _ _ n⟩))
   ·exact b _ _ h
theorem Q2E {α:Type} {e:α} {c a:(α→World→Prop)→α→(Nat→Value)→World→Prop} {w:World}
 (i: ∀b x d w,c b x d w→a b x d w) (h:lp e w c):lp e w a:=by
 obtain ⟨I,μ,j,g⟩:=Q8b h
 exact Ym I μ j fun x d w f=>i _ _ _ _ (g x d w f)
theorem G0 {a b:List Nat} {i:Nat} (h:a.contains i=true):(a++b).contains i=true:=by simp at h⊢;exact .inl h
theorem O4 {a b:List Nat} {i:Nat} (h:b.contains i=true):(a++b).contains i=true:=by simp at h⊢;exact .inr h
theorem Q2S (P:Program) (q:List (Option (List Nat))) (c:Code): ∀(k:Nat) (Q A:Ol) (W:List Nat) (m l:List Value) (w:World),
 (∀i,(W9 q k c).contains i=true→W.contains i=true)→I5 W m l→
 (∀e l w,Q e l w→I5 W m l→A e l w)→Mg P q k c Q l w→Mg P q k c A l w:=by
 induction c with
 | skip=>intro k Q A W m l w _ g j h;exact j _ _ _ h g
 | label n=>intro k Q A W m l w _ g j h;exact j _ _ _ h g
 | exit id=>intro k Q A W m l w _ g j h;exact j _ _ _ h g
 | ret=>intro k Q A W m l w _ g j h;exact j _ _ _ h g
 | goto n=>intro k Q A W m l w _ g j h;exact h.elim
 | refuse s=>intro k Q A W m l w _ g j h;exact h.elim
 | scope c=>intro k Q A W m l w _ g j h;exact h.elim
 | rangeFunc f p a b=>intro k Q A W m l w _ g j h;exact h.elim
 | region id ops O=>
  intro k Q A W m l w B g j h
  have M: ∀o∈ops.toList,∀d,o.dst=some d→W.contains d=true:=by
   intro o R d hd
   refine B d ?_
   simp only[W9,O3,List.contains_eq_mem,List.mem_filterMap,decide_eq_true_eq]
   exact ⟨o,R,hd⟩
  cases O with
  | false=>exact Yo P _ _ _ W m _ _ _ M g (fun l w hn g=>j _ _ _ hn g) h
  | true=>
   intro t
   refine Yo P _ _ _ W m _ _ _ ?_ g (fun l w hn g=>j _ _ _ hn g) (h t)
   intro o R
   simp only[List.mem_filterMap] at R
   obtain ⟨i,_,r⟩:=R
   exact M o (by simpa using Array.mem_of_getElem? r)
 | seq x y E D=>
  intro k Q A W m l w B g j h
  have V: ∀i,(W9 q (k+1) x).contains i=true→W.contains i=true:=fun i r=>B i (O4 (G0 r))
  have hy: ∀i,(W9 q (k+1+P0 x) y).contains i=true→W.contains i=true:=fun i r=>B i (O4 (O4 r))
  simp only[Mg] at h⊢
  split at h
  ·refine E _ _ _ W m l w V g ?_ h
   intro e l' w' C u
   cases e with
   | normal=>exact D _ _ _ W m l' w' hy u j C
   | _=>exact j _ _ _ C u
  ·rename_i sl Z
   obtain ⟨J,L,N⟩:=Q3T h
   refine Xy J (E _ _ _ W m l w V g ?_ L) fun z d w hz=>?_
   ·intro e l' w' C u
    cases e with
    | normal=>exact C
    | _=>exact j _ _ _ C u
   ·refine D _ _ _ W m _ w hy (g.trans ⟨Ev _ _ _ _ _ _,fun i r=>?_⟩) j (N z d w hz)
    rw[Rl]
    have L:sl.contains i=false:=by
     cases H:sl.contains i with
     | false=>rfl
     | true=>rw[B i (G0 (by rw[Z];exact H))] at r;cases r
    have N:(W9 q (k+1) x).contains i=false:=by
     cases H:(W9 q (k+1) x).contains i with
     | false=>rfl
     | true=>rw[V i H] at r;cases r
    simp only[Nat.zero_add]
    cases hl:l[i]? with
    | none=>rfl
    | some v=>simp only[Option.map_some,Jy _ _ _ _ L,N,Bool.false_eq_true,if_false]
 | cond c x y E D=>
  intro k Q A W m l w B g j h
  exact Q3i (E k _ _ W m l w (fun i r=>B i (G0 r)) g j) (D _ _ _ W m l w (fun i r=>B i (O4 r)) g j) h
 | block id c Y=>
  intro k Q A W m l w B g j h
  refine Y k _ _ W m l w B g ?_ h
  intro e l' w' C u
  cases e with
  | exit ae=>simp only[Q1H] at C⊢;split<;>rename_i X<;>simp only[X,if_true,if_false] at C<;>exact j _ _ _ C u
  | _=>exact j _ _ _ C u
 | loop c Y=>
  intro k Q A W m l w B g j h
  refine Q2E (fun U x d w hb=>?_) h
  refine Y _ _ _ W m _ _ (fun i r=>B i (O4 r)) ?_ ?_ hb
  ·refine g.trans ⟨Ev _ _ _ _ _ _,fun i r=>?_⟩
   rw[Rl]
   have L:((q.getD k none).getD []).contains i=false:=by
    cases H:((q.getD k none).getD []).contains i with
    | false=>rfl
    | true=>rw[B i (G0 H)] at r;cases r
   have N:(W9 q (k+1) c).contains i=false:=by
    cases H:(W9 q (k+1) c).contains i with
    | false=>rfl
    | true=>rw[B i (O4 H)] at r;cases r
   simp only[Nat.zero_add]
   cases hl:l[i]? with
   | none=>rfl
   | some v=>simp only[Option.map_some,Jy _ _ _ _ L,N,Bool.false_eq_true,if_false]
  ·intro e l' w' C u
   cases e with
   | normal=>exact C
   | _=>exact j _ _ _ C u
theorem Q8e (P:Program) (g:List (Option (List Nat))) (c:Code): ∀(k:Nat) (Q:Ol) (a:Act) (w:World),
 a.defers=[]→Mg P g k c Q a.tmps.toList w→c.wp P (lift Q) a w:=by
 induction c with
 | skip=>intro k Q a w j h;exact wp_skip ⟨j,h⟩
 | label n=>intro k Q a w j h;exact wp_label ⟨j,h⟩
 | exit id=>intro k Q a w j h;exact wp_exit ⟨j,h⟩
 | ret=>intro k Q a w j h;exact wp_ret ⟨j,h⟩
 | goto n=>intro k Q a w j h;exact h.elim
 | refuse s=>intro k Q a w j h;exact h.elim
 | scope c=>intro k Q a w j h;exact h.elim
 | rangeFunc f p a b=>intro k Q a w j h;exact h.elim
 | region id ops D=>
  intro k Q a w j h
  cases D with
  | false=>
   refine wp_region (Ty P ops _ _ (fun a w j h=>⟨j,h⟩) _ (by simp) a w j ?_)
   rw[Il];exact h
  | true=>
   refine wp_region_draw fun t=>?_
   exact Ty P ops _ _ (fun a w j h=>⟨j,h⟩) _ (Q0C _ _ _) a _ j (h t)
 | seq x y u r=>
  intro k Q a w j h
  simp only[Mg] at h
  split at h
  ·refine wp_seq (wp_mono (u _ _ a w j h) ?_)
   intro e o w' ⟨m,q⟩
   cases e with
   | normal=>exact r _ _ o w' m q
   | _=>exact ⟨m,q⟩
  ·rename_i Y aa
   obtain ⟨J,L,B⟩:=Q3T h
   have H:=Q2S P g x (k+1) _ (fun e l' w'=>thn (fun l' w'=>J (Lu l' Y) w') Q e l' w'∧I5 (W9 g (k+1) x) a.tmps.toList l') (W9 g (k+1) x) a.tmps.toList a.tmps.toList w (fun _ h=>h) (I5.refl _ _) (fun e l w h U=>⟨h,U⟩) L
   refine wp_seq (wp_mono (u (k+1) _ a w j H) ?_)
   intro e o w' ⟨m,q,A⟩
   cases e with
   | normal=>
    refine r (k+1+P0 x) _ o w' m ?_
    rw[Fg Y (W9 g (k+1) x) a.tmps.toList o.tmps.toList A.1 (fun i _ h=>A.2 i h)]
    exact B _ _ _ q
   | _=>exact ⟨m,q⟩
 | cond c x y u r=>
  intro k Q a w j h
  simp only[Mg,Q4x,Q1U] at h
  split at h
  ·rename_i X
   exact wp_cond_true (by rw[Q2B];exact X) (u _ _ _ _ j h)
  ·rename_i X
   exact wp_cond_false (by rw[Q2B];exact X) (r _ _ _ _ j h)
  ·exact h.elim
 | block id c R=>
  intro k Q a w j h
  refine wp_block (wp_mono (R k _ a w j h) ?_)
  intro e o w' ⟨m,q⟩
  cases e with
  | exit ab=>
   simp only[Q1H,Exit.inBlock] at q⊢
   split<;>rename_i M<;>simp only[M,if_true,if_false] at q<;>exact ⟨m,q⟩
  | _=>exact ⟨m,q⟩
 | loop c R=>
  intro k Q a w j h
  obtain ⟨I,μ,h0,Z⟩:=Q8b h
  refine wp_loop (fun o w'=>o.defers=[]∧(∃d,o.tmps.toList=N4 ((g.getD k none).getD []) (W9 g (k+1) c) (Lu o.tmps.toList ((g.getD k none).getD [])) d 0 a.tmps.toList)∧I (Lu o.tmps.toList ((g.getD k none).getD [])) w') (fun o w'=>μ (Lu o.tmps.toList ((g.getD k none).getD [])) w') ⟨j,⟨get a.tmps.toList,Fg _ _ _ _ rfl (fun _ _ _=>rfl)⟩,h0⟩ ?_
  intro E w1 ⟨V,⟨d1,v⟩,O⟩
  have W:=Z _ d1 w1 O
  dsimp only at W
  rw[←v] at W
  have N:=Q2S P g c (k+1) _ (fun e l' w'=>thn (fun l' w'=>I (Lu l' ((g.getD k none).getD [])) w'∧μ (Lu l' ((g.getD k none).getD [])) w'<μ (Lu E.tmps.toList ((g.getD k none).getD [])) w1) Q e l' w'∧I5 (W9 g (k+1) c) E.tmps.toList l') (W9 g (k+1) c) E.tmps.toList E.tmps.toList w1 (fun _ h=>h) (I5.refl _ _) (fun e l w h U=>⟨h,U⟩) W
  refine wp_mono (R _ _ E w1 V N) ?_
  intro e a2 w2 ⟨C,B,z⟩
  cases e with
  | normal=>
   refine ⟨⟨C,⟨get a2.tmps.toList,Fg _ _ _ _ ?_ ?_⟩,B.1⟩,B.2⟩
   ·rw[z.1,v,Ev]
   ·intro i L H
    rw[z.2 i H,v,Rl]
    simp only[Nat.zero_add,Jy _ _ _ _ L,H,Bool.false_eq_true,if_false,Option.map_id']
  | _=>exact ⟨C,B⟩
def Q7x:List Value→Nat→Value→(List Value→Prop)→Prop
 | [],_,_,k=>k []
 | _::l,0,v,k=>k (v::l)
 | x::l,n+1,v,k=>Q7x l n v (fun l'=>k (x::l'))
def Q29 (l:List Value) (d:Option Tmp) (v:Value) (k:List Value→Prop):Prop:=
 match d with
 | some d=>Q7x l d v k
 | none=>k l
def Q7k:List Value→Nat→(Value→Prop)→Prop
 | [],_,k=>k undef
 | x::_,0,k=>k x
 | _::l,n+1,k=>Q7k l n k
def evK (l:List Value) (o:Operand) (k:Value→Prop):Prop:=
 match o with
 | .tmp t=>Q7k l t k
 | .const v=>k v
 | .global g=>k (.pointer (some ⟨g,0,none⟩))
 | .func f=>k (.func (.func f) #[] #[])
def Q1Y (i:Nat) (e:Value):(a:List Nat)→Ie a.length→(Value→Prop)→Prop
 | [],_,k=>k e
 | [s],x,k=>if s=i then k x else k e
 | s::t::r,x,k=>if s=i then k x.1 else Q1Y i e (t::r) x.2 k
def Ba (a b:List Nat) (x:Ie a.length) (d:Nat→Value):Nat→List Value→(List Value→Prop)→Prop
 | _,[],k=>k []
 | i,v::l,k=>match b.contains i with
  | true=>Q1Y i (d i) a x (fun u=>Ba a b x d (i+1) l (fun l'=>k (u::l')))
  | false=>Q1Y i v a x (fun u=>Ba a b x d (i+1) l (fun l'=>k (u::l')))
theorem X15 (l:List Value): ∀(n:Nat) (v:Value) (k:List Value→Prop),Q7x l n v k=k (l.set n v):=by
 induction l with
 | nil=>intro n v k;rfl
 | cons x l a=>intro n v k;cases n with
  | zero=>rfl
  | succ n=>simp only[Q7x,a,List.set_cons_succ]
theorem Q6c (l:List Value) (d:Option Tmp) (v:Value) (k:List Value→Prop):Q29 l d v k=k (put l d v):=by
 cases d with
 | none=>rfl
 | some d=>exact X15 l d v k
theorem X0J (l:List Value): ∀(n:Nat) (k:Value→Prop),Q7k l n k=k (get l n):=by
 induction l with
 | nil=>intro n k;rfl
 | cons x l a=>intro n k;cases n with
  | zero=>rfl
  | succ n=>simp only[Q7k,a];rfl
theorem X1O (l:List Value) (o:Operand) (k:Value→Prop):evK l o k=k (ev l o):=by
 cases o with
 | tmp t=>exact X0J l t k
 | _=>rfl
theorem Tv (i:Nat) (e:Value) (k:Value→Prop): ∀(a:List Nat) (x:Ie a.length),Q1Y i e a x k=k (Ow i e a x)
 | [],_=>rfl
 | [s],x=>by
  by_cases h:s=i
  ·exact (if_pos h).trans (congrArg k (if_pos h).symm)
  ·exact (if_neg h).trans (congrArg k (if_neg h).symm)
 | s::t::r,x=>by
  by_cases h:s=i
  ·exact (if_pos h).trans (congrArg k (if_pos h).symm)
  ·exact ((if_neg h).trans (Tv i e k (t::r) x.2)).trans (congrArg k (if_neg h).symm)
theorem Q2V (a b:List Nat) (x:Ie a.length) (d:Nat→Value) (l:List Value): ∀(i:Nat) (k:List Value→Prop),Ba a b x d i l k=k (N4 a b x d i l):=by
 induction l with
 | nil=>intro i k;rfl
 | cons v l c=>
  intro i k
  simp only[Ba,N4]
  split
  ·rename_i h;rw[Tv,c,if_pos h]
  ·rename_i h;rw[Tv,c,if_neg (by rw[h];simp)]
theorem Rf (b c a:List Nat) (h: ∀i,c.contains i=a.contains i) (x:Ie b.length) (d:Nat→Value) (l:List Value): ∀i,N4 b c x d i l=N4 b a x d i l:=by
 induction l with
 | nil=>intro i;rfl
 | cons v l e=>intro i;simp only[N4,e,h]
noncomputable def B9 (P:Program) (ops:List Oper) (next:List Value→World→Prop):List Oper→List Value→World→Prop
 | [],l,w=>next l w
 | o::a,l,w=>
  match o.guard with
  | none=>match o.op with
   | .move x=>evK l x fun v=>Q29 l o.dst v fun l=>B9 P ops next a l w
   | .assign x=>evK l x fun v=>Q29 l o.dst v fun l=>B9 P ops next a l w
   | _=>U7 P l o w (fun v w=>Q29 l o.dst v fun l=>B9 P ops next a l w)
  | some (j,b)=>match (ops[j]?).bind (·.dst) with
   | some d=>Q1 (get l d) b w (U7 P l o) (fun v w=>Q29 l o.dst v fun l=>B9 P ops next a l w)
   | none=>Q29 l o.dst undef fun l=>B9 P ops next a l w
theorem De (P:Program) (ops:List Oper) (next:List Value→World→Prop) (os:List Oper): ∀(l:List Value) (w:World),B9 P ops next os l w=Y2 P ops next os l w:=by
 induction os with
 | nil=>intro l w;rfl
 | cons o a c=>
  intro l w
  obtain ⟨dst,p,d,pos,e,g⟩:=o
  cases g with
  | none=>cases p<;>simp only[B9,Y2,Q6c,X1O,c,U7]
  | some q=>obtain ⟨j,b⟩:=q;simp only[B9,Y2,Q6c,c]
def I0 (T:World→World→Prop) (φ:Value→World→Prop):Prop:= ∀v w w',φ v w→T w w'→φ v w'
def dk (T:World→World→Prop) (φ:Value→World→Prop) (w:World):Value→World→Prop:=fun v w'=>T w w'∧φ v w'
def Q5b (T:World→World→Prop) (A:(Value→World→Prop)→Prop) (a:(Value→World→Prop)→Prop):Prop:=
 ∃φ,I0 T φ∧A φ∧a φ
theorem Q7Y: ∃f:(World→World→Prop)→((Value→World→Prop)→Prop)→((Value→World→Prop)→Prop)→Prop,f=Q5b:=⟨_,rfl⟩
noncomputable def Q6:(World→World→Prop)→((Value→World→Prop)→Prop)→((Value→World→Prop)→Prop)→Prop:=Classical.choose Q7Y
theorem Q8M:Q6=Q5b:=Classical.choose_spec Q7Y
def Q6y (w:World) (A:(World→World→Prop)→(World→Prop)→Prop):Prop:= ∃T B,B w.drew∧(∀w w',B w→T w w'→B w')∧A T B
theorem Q9P: ∃f:World→((World→World→Prop)→(World→Prop)→Prop)→Prop,f=Q6y:=⟨_,rfl⟩
noncomputable def dr:World→((World→World→Prop)→(World→Prop)→Prop)→Prop:=Classical.choose Q9P
theorem Q9R:dr=Q6y:=Classical.choose_spec Q9P
theorem Q00 {w:World} {A:(World→World→Prop)→(World→Prop)→Prop} (T:World→World→Prop) (B:World→Prop) (h:B w.drew) (b: ∀w w',B w→T w w'→B w') (a:A T B):dr w A:=by
 rw[Q9R];exact ⟨T,B,h,b,a⟩
theorem W5 {T:World→World→Prop} {A a:(Value→World→Prop)→Prop} (φ:Value→World→Prop) (c:I0 T φ) (h:A φ) (b:a φ):Q6 T A a:=by
 rw[Q8M];exact ⟨φ,c,h,b⟩
def Q23 (T:World→World→Prop) (A a:(List Value→Value→World→Prop)→Prop):Prop:=
 ∃φ,(∀xs,I0 T (φ xs))∧A φ∧a φ
theorem Q5Z: ∃f:(World→World→Prop)→((List Value→Value→World→Prop)→Prop)→((List Value→Value→World→Prop)→Prop)→Prop,f=Q23:=⟨_,rfl⟩
noncomputable def Q1c:(World→World→Prop)→((List Value→Value→World→Prop)→Prop)→((List Value→Value→World→Prop)→Prop)→Prop:=Classical.choose Q5Z
theorem Q6d:Q1c=Q23:=Classical.choose_spec Q5Z
theorem Q6t {T:World→World→Prop} {A a:(List Value→Value→World→Prop)→Prop} (φ:List Value→Value→World→Prop) (c: ∀xs,I0 T (φ xs)) (h:A φ) (b:a φ):Q1c T A a:=by
 rw[Q6d];exact ⟨φ,c,h,b⟩
abbrev Iv:=Nat×Nat
def Ap (a:Nat→Iv):Prop:= ∀i j,i≠j→(a i).2≤(a j).1∨(a j).2≤(a i).1
def dkR (T:World→World→Prop) (φ:Iv→Value→World→Prop) (w:World):Value→World→Prop:=fun v w'=>T w w'∧φ (w.heap.size,w'.heap.size) v w'
def Q22 (T:World→World→Prop) (A a:(Iv→Value→World→Prop)→Prop):Prop:=
 ∃φ,(∀p,I0 T (φ p))∧A φ∧a φ
theorem Q68: ∃f:(World→World→Prop)→((Iv→Value→World→Prop)→Prop)→((Iv→Value→World→Prop)→Prop)→Prop,f=Q22:=⟨_,rfl⟩
noncomputable def Q26:(World→World→Prop)→((Iv→Value→World→Prop)→Prop)→((Iv→Value→World→Prop)→Prop)→Prop:=Classical.choose Q68
theorem Q62:Q26=Q22:=Classical.choose_spec Q68
theorem Q6g {T:World→World→Prop} {A a:(Iv→Value→World→Prop)→Prop} (φ:Iv→Value→World→Prop) (c: ∀p,I0 T (φ p)) (h:A φ) (b:a φ):Q26 T A a:=by
 rw[Q62];exact ⟨φ,c,h,b⟩
def Q4t (w:World) (A:(World→World→Prop)→(World→Prop)→Prop):Prop:= ∃T B,B w.drew∧(∀w w',B w→T w w'→B w')∧(∀w w',T w w'→w.heap.size≤w'.heap.size)∧A T B
theorem Q7T: ∃f:World→((World→World→Prop)→(World→Prop)→Prop)→Prop,f=Q4t:=⟨_,rfl⟩
noncomputable def drR:World→((World→World→Prop)→(World→Prop)→Prop)→Prop:=Classical.choose Q7T
theorem Q8n:drR=Q4t:=Classical.choose_spec Q7T
theorem X1v {w:World} {A:(World→World→Prop)→(World→Prop)→Prop} (T:World→World→Prop) (B:World→Prop) (h:B w.drew) (c: ∀w w',B w→T w w'→B w') (b: ∀w w',T w w'→w.heap.size≤w'.heap.size) (a:A T B):drR w A:=by
 rw[Q8n];exact ⟨T,B,h,c,b,a⟩
def Sh:Bool→((Nat→Iv)→Prop)→Prop
 | false,k=>k fun _=>(0,0)
 | true,k=> ∀a:Nat→Iv,Ap a→k a
def OkI:Bool→(Nat→Iv)→Prop
 | false,a=>a=fun _=>(0,0)
 | true,a=>Ap a
def Lx:Bool→World→Nat
 | false,_=>0
 | true,w=>w.heap.size
theorem Q5e {r:Bool} {k:(Nat→Iv)→Prop} (h:Sh r k) {a:Nat→Iv} (b:OkI r a):k a:=by
 cases r with
 | false=>have b:a=_:=b;subst b;exact h
 | true=>exact h a b
def Rc (r:Bool) (a:Nat→Iv) (w:World):Prop:=OkI r a∧ ∀q,(a q).2≤Lx r w
theorem Rc.init {r:Bool} {w:World}:Rc r (fun _=>(0,0)) w:=⟨by cases r<;>first | rfl | exact fun _ _ _=> .inl (Nat.le_refl _),fun _=>Nat.zero_le _⟩
theorem Rc.step {r:Bool} {c:Nat→Iv} {w w':World} (h:Rc r c w) (g:Lx r w≤Lx r w') (q:Nat):Rc r (fun n=>if n=q then (Lx r w,Lx r w') else c n) w':=by
 obtain ⟨a,d⟩:=h
 refine ⟨?_,fun n=>?_⟩
 ·cases r with
  | false=>
   have a:c=_:=a
   subst a
   funext n
   simp[Lx]
  | true=>
   intro i j b
   have a:Ap c:=a
   simp only
   by_cases e:i=q
   ·subst e
    rw[if_pos rfl,if_neg (Ne.symm b)]
    exact .inr (d j)
   ·rw[if_neg e]
    by_cases f:j=q
    ·subst f
     rw[if_pos rfl]
     exact .inl (d i)
    ·rw[if_neg f]
     exact a i j b
 ·simp only
  split
  ·exact Nat.le_refl _
  ·exact Nat.le_trans (d n) g
noncomputable def runOp (P:Program) (ops:List Oper) (l:List Value) (o:Oper) (w:World) (K:Value→World→Prop):Prop:=
 match o.guard with
 | none=>U7 P l o w K
 | some (j,b)=>match (ops[j]?).bind (·.dst) with
  | some d=>Q1 (get l d) b w (U7 P l o) K
  | none=>False
inductive Ent where
  | val (v : Value)
  | ref (j : Nat)
def Ent.at (u:Nat→Value):Ent→Value
 | .val v=>v
 | .ref j=>u j
def F9 (u:Nat→Value) (S:List Ent):List Value:=S.map (Ent.at u)
def getE:List Ent→Nat→Ent
 | [],_=> .val undef
 | x::_,0=>x
 | _::l,n+1=>getE l n
def entOf (S:List Ent):Operand→Ent
 | .tmp t=>getE S t
 | .const v=> .val v
 | .global g=> .val (.pointer (some ⟨g,0,none⟩))
 | .func f=> .val (.func (.func f) #[] #[])
def mv (o:Oper):Option Operand:=
 match o.guard with
 | some _=>none
 | none=>match o.op with
  | .move x=>some x
  | .assign x=>some x
  | _=>none
def Q1b:List Ent→Nat→Ent→List Ent
 | [],_,_=>[]
 | _::l,0,e=>e::l
 | x::l,n+1,e=>x::Q1b l n e
def putE (S:List Ent) (d:Option Nat) (e:Ent):List Ent:=
 match d with
 | some d=>Q1b S d e
 | none=>S
def E4 (o:Oper):List Nat:=o.op.operands.toList.filterMap fun | .tmp t=>some t | _=>none
def N7 (ops:List Oper) (o:Oper):List Nat:=
 match o.guard with
 | none=>[]
 | some (j,_)=>match (ops[j]?).bind (·.dst) with | some d=>[d] | none=>[]
def Q08:List Nat→List Nat
 | []=>[]
 | x::l=>x::(Q08 l).filter (fun y=> !(y==x))
def Q3A:Ent→List Nat
 | .ref j=>[j]
 | .val _=>[]
def Q01 (S:List Ent):List Nat→List Nat
 | []=>[]
 | s::l=>Q3A (getE S s)++Q01 S l
def refs (ops:List Oper) (S:List Ent) (o:Oper):List Nat:=Q08 (Q01 S (N7 ops o++E4 o))
def Ed:List Nat→(Nat→Value)→((Nat→Value)→Prop)→Prop
 | [],u,k=>k u
 | j::a,u,k=> ∀t:Value,Ed a (fun n=>if n=j then t else u n) k
abbrev En:=List (Nat×List Nat×(List Value→Iv→Value→World→Prop))
def Jl:En→Nat→Option (List Nat×(List Value→Iv→Value→World→Prop))
 | [],_=>none
 | (i,φ)::l,j=>if i=j then some φ else Jl l j
def Ea (c:En) (u:Nat→Value) (b:Nat→Iv) (w:World) (a:Prop):List Nat→Prop
 | []=>a
 | j::d=>match Jl c j with
  | some ([],φ)=>φ [] (b j) (u j) w→Ea c u b w a d
  | _=>Ea c u b w a d
def Aw (c:En) (u:Nat→Value) (b:Nat→Iv) (w:World) (a:Prop):List Nat→Prop
 | []=>a
 | j::d=>match Jl c j with
  | some (R,φ)=>φ (R.map u) (b j) (u j) w→Aw c u b w a d
  | none=>Aw c u b w a d
def Q4h (o:Oper):Bool:=match o.op with | .store .. =>true | _=>false
def Pt (o:Oper):Bool:=match o.op with | .call c=>(match c.callee with | .value (.func _)=>true | _=>false) | _=>false
def Q6N (r:Bool) (o:Oper):Bool:=match r with | true=>Pt o | false=>false
noncomputable def chain (P:Program) (r:Bool) (ops:List Oper) (T:World→World→Prop) (B:World→Prop) (J1:List Value→World→Prop) (tail:List Oper):Nat→List Oper→List Ent→En→List Nat→Prop
 | _,[],S,b,done=>Ed done (fun _=>undef) fun u=>Sh r fun c=> ∀w,B w→Aw b u c w (B9 P ops J1 tail (F9 u S) w) done
 | i,o::a,S,b,done=>
  match mv o with
  | some x=>chain P r ops T B J1 tail (i+1) a (putE S o.dst (entOf S x)) b done
  | none=>match Q4h o with
   | true=>Q1c T (fun φ=>Ed (refs ops S o) (fun _=>undef) fun u=>Sh r fun c=> ∀w,B w→Ea b u c w (runOp P ops (F9 u S) o w (dk T (φ ((refs ops S o).map u)) w)) (refs ops S o))
    (fun φ=>chain P r ops T B J1 tail (i+1) a (putE S o.dst (.ref i)) (b++[(i,refs ops S o,fun xs (_:Iv)=>φ xs)]) (done++[i]))
   | false=>match Q6N r o with
    | true=>Q26 T (fun φ=>Ed (refs ops S o) (fun _=>undef) fun u=>Sh r fun c=> ∀w,B w→Ea b u c w (runOp P ops (F9 u S) o w (dkR T φ w)) (refs ops S o))
     (fun φ=>chain P r ops T B J1 tail (i+1) a (putE S o.dst (.ref i)) (b++[(i,[],fun (_:List Value)=>φ)]) (done++[i]))
    | false=>Q6 T (fun φ=>Ed (refs ops S o) (fun _=>undef) fun u=>Sh r fun c=> ∀w,B w→Ea b u c w (runOp P ops (F9 u S) o w (dk T φ w)) (refs ops S o))
     (fun φ=>chain P r ops T B J1 tail (i+1) a (putE S o.dst (.ref i)) (b++[(i,[],fun (_:List Value) (_:Iv)=>φ)]) (done++[i]))
def A0:Op→Bool
 | .ready _ | .waits _ | .sliceToArrayPointer .. | .makeChan .. | .typeAssert .. | .go _ | .defer _ | .send .. | .recv .. | .select .. =>false
 | .call c=>match c.callee with | .invoke .. =>false | _=>true
 | _=>true
theorem Rd {l l':List Value} {x:Option Operand} (h: ∀y∈x.toArray,ev l y=ev l' y):evo l x=evo l' x:=by
 cases x with
 | none=>rfl
 | some y=>simp only[evo];rw[h y (by simp)]
theorem Pf {l l':List Value} {xs:Array Operand} (h: ∀y∈xs,ev l y=ev l' y):Pi l xs=Pi l' xs:=by
 unfold Pi;exact List.map_congr_left fun y a=>h y (by simpa using a)
theorem Q2C {l l':List Value} {xs:Array (Nat×Operand)} (h: ∀y∈(xs.toList.map (·.2)).toArray,ev l y=ev l' y):evp l xs=evp l' xs:=by
 unfold evp
 refine List.map_congr_left fun y a=>?_
 rw[h y.2 (by simp;exact ⟨y.1,by simpa using a⟩)]
theorem Nl {P:Program} {l l':List Value} {o:Oper} (k:A0 o.op=true) (h: ∀x∈o.op.operands,ev l x=ev l' x):U7 P l o=U7 P l' o:=by
 obtain ⟨d,p,B,pos,D,g⟩:=o
 funext w K
 cases p with
 | call c=>
  obtain ⟨j,i,C⟩:=c
  have q:Pi l i=Pi l' i:=Pf fun y e=>h y (by simp[Op.operands,Call.operands];exact .inr e)
  cases j with
  | invoke r m=>simp[A0] at k
  | builtin b=>simp only[U7,Ni,q]
  | value f=>
   have v:ev l f=ev l' f:=h f (by simp[Op.operands,Call.operands])
   cases f<;>simp only[U7,Ni,q,v]
 | build t z=>simp only[U7];rw[Q2C h]
 | buildSlice t n z=>simp only[U7];rw[Q2C h]
 | makeFunc f a b=>
  simp only[U7]
  rw[Pf (xs:=a) fun y e=>h y (by simp[Op.operands];exact .inl e),Pf (xs:=b) fun y e=>h y (by simp[Op.operands];exact .inr e)]
 | makeMap t r=>simp only[U7];rw[Rd h]
 | slice t x u s A=>
  simp only[U7]
  rw[h x (by simp[Op.operands]),Rd (x:=u) fun y e=>h y (by simp[Op.operands] at e⊢;simp[e]),Rd (x:=s) fun y e=>h y (by simp[Op.operands] at e⊢;simp[e]),Rd (x:=A) fun y e=>h y (by simp[Op.operands] at e⊢;simp[e])]
 | _=>first
  | (simp[A0] at k;done)
  | (simp only[Op.operands,List.mem_toArray,List.mem_cons,List.not_mem_nil,or_false,forall_eq_or_imp,forall_eq] at h;simp only[U7,h];done)
  | rfl
def Fi:List Oper→List Nat→List Nat
 | [],acc=>acc
 | o::a,acc=>Fi a (acc++[(o.after.toList.filter (Region.binds .any)).foldl (fun s e=>s ||| 2 ^ e.on ||| acc.getD e.on 0) 0])
def P1 (a b:Oper):Bool:=
 match a.dst with
 | some d=>(E4 b).contains d||b.dst==some d
 | none=>false
def Q2y (a:List Nat) (ops:List Oper):Bool:=
 ops.zipIdx.all fun (o,j)=>ops.zipIdx.all fun (q,i)=> !(decide (i<j))|| !(P1 q o||P1 o q)||(a.getD j 0).testBit i
def Zt (ops:List Oper):Bool:=
 ops.zipIdx.all fun (o,i)=>A0 o.op&&(o.after.toList.filter (Region.binds .any)).all (fun e=>decide (e.on<i))&&
  match o.guard with | none=>true | some (j,_)=>(o.after.toList.filter (Region.binds .any)).any (fun e=>e.on==j)
def Q3H (m:Region.Mode) (ops:List Oper):List Nat→List Nat→Bool
 | [],_=>true
 | j::L,seen=>((ops[j]?.map fun o=>o.after.toList).getD []).all (fun e=> !Region.binds m e||seen.contains e.on)&&Q3H m ops L (j::seen)
def G4 (m:Region.Mode) (ops:List Oper) (L:List Nat):Bool:=
 Q3H m ops L []&&(List.range ops.length).all (L.contains ·)&&ops.all (fun o=>o.after.toList.all fun e=> !Region.binds m e||decide (e.on<ops.length))
def Q9o (m:Region.Mode) (ops:List Oper):Nat→List Nat→List Nat→List Nat
 | 0,_,seen=>seen.reverse
 | n+1,a,seen=>
  match a.find? (fun j=>((ops[j]?.map fun o=>o.after.toList).getD []).all (fun e=> !Region.binds m e||seen.contains e.on)) with
  | some j=>Q9o m ops n (a.erase j) (j::seen)
  | none=>seen.reverse
def Qh:List Nat→Bool
 | []=>true
 | x::l=> !l.contains x&&Qh l
def G9 (ops:List Oper) (j:Nat):List Nat:=(ops[j]?.map fun o=>(o.after.toList.filter (Region.binds .any)).map (·.on)).getD []
def Ee (ops:List Oper) (L:List Nat):Prop:= ∀b j a,L=b++j::a→ ∀i∈G9 ops j,i∈b
theorem Q4M (f:Edge→Nat) (l:List Edge): ∀(s i:Nat),(l.foldl (fun s e=>s ||| 2 ^ e.on ||| f e) s).testBit i=true→
 s.testBit i=true∨ ∃e∈l,e.on=i∨(f e).testBit i=true:=by
 induction l with
 | nil=>intro s i h;exact .inl h
 | cons e l a=>
  intro s i h
  rcases a _ _ h with h | ⟨c,b,h⟩
  ·simp only[Nat.testBit_or,Bool.or_eq_true] at h
   rcases h with (h | h) | h
   ·exact .inl h
   ·rw[Nat.testBit_two_pow] at h
    exact .inr ⟨e,by simp, .inl (by simpa using h)⟩
   ·exact .inr ⟨e,by simp, .inr h⟩
  ·exact .inr ⟨c,by simp[b],h⟩
theorem Q31 (a:List Oper): ∀(b:List Oper) (acc:List Nat),acc.length+b.length=a.length→(∀k,acc.length≤k→a[k]? =b[k-acc.length]?)→
 (∀j i,j<acc.length→(acc.getD j 0).testBit i=true→ ∃k∈G9 a j,k=i∨(k<j∧(acc.getD k 0).testBit i=true))→
 (∀j,j<a.length→ ∀k∈G9 a j,k<j)→
 ∀j i,j<a.length→((Fi b acc).getD j 0).testBit i=true→ ∃k∈G9 a j,k=i∨(k<j∧((Fi b acc).getD k 0).testBit i=true)
 | [],acc,q,_,c,_=>by
  intro j i t h
  exact c j i (by simp at q;omega) h
 | o::b,acc,q,g,c,p=>by
  have y:a[acc.length]? =some o:=by rw[g _ (Nat.le_refl _)];simp
  refine Q31 a b _ (by simp at q⊢;omega) ?_ ?_ p
  ·intro k l
   simp only[List.length_append,List.length_cons,List.length_nil] at l⊢
   rw[g k (by omega)]
   obtain ⟨m,w⟩: ∃m,k-acc.length=m+1:=⟨k-acc.length-1,by omega⟩
   rw[w,List.getElem?_cons_succ]
   congr 1;omega
  ·intro j i t h
   simp only[List.length_append,List.length_cons,List.length_nil] at t
   have d: ∀k,k<acc.length→(acc++[(o.after.toList.filter (Region.binds .any)).foldl (fun s e=>s ||| 2 ^ e.on ||| acc.getD e.on 0) 0]).getD k 0=acc.getD k 0:=by
    intro k l
    simp only[List.getD_eq_getElem?_getD]
    rw[List.getElem?_append_left l]
   by_cases n:j<acc.length
   ·rw[d j n] at h
    obtain ⟨k,l,h⟩:=c j i n h
    exact ⟨k,l,h.imp id fun ⟨u,v⟩=>⟨u,by rw[d k (by omega)];exact v⟩⟩
   ·have r:j=acc.length:=by omega
    subst r
    simp only[List.getD_eq_getElem?_getD,List.getElem?_append_right (Nat.le_refl _),Nat.sub_self,List.getElem?_cons_zero,Option.getD_some] at h
    rcases Q4M (fun e=>acc.getD e.on 0) _ _ _ (by simpa only[List.getD_eq_getElem?_getD] using h) with h | ⟨e,z,h⟩
    ·simp at h
    ·have f:e.on∈G9 a acc.length:=by
      unfold G9;rw[y];simp only[Option.map_some,Option.getD_some,List.mem_map];exact ⟨e,z,rfl⟩
     refine ⟨e.on,f,h.imp id fun h=>?_⟩
     have l:=p acc.length (by simp at q;omega) _ f
     exact ⟨l,by rw[d _ l];exact h⟩
theorem Ga {ops:List Oper} (h:Zt ops=true): ∀j,j<ops.length→ ∀k∈G9 ops j,k<j:=by
 intro j b k a
 simp only[Zt,List.all_eq_true,Bool.and_eq_true] at h
 unfold G9 at a
 rw[List.getElem?_eq_getElem b] at a
 simp only[Option.map_some,Option.getD_some,List.mem_map] at a
 obtain ⟨e,c,rfl⟩:=a
 have:=(h (ops[j],j) (by rw[List.mem_zipIdx_iff_getElem?];simp[b])).1.2 e c
 simpa using this
theorem Q4D {ops:List Oper} (q:Zt ops=true) {L:List Nat} (g:Ee ops L): ∀(j:Nat),j<ops.length→ ∀i b a,L=b++j::a→((Fi ops []).getD j 0).testBit i=true→i∈b:=by
 intro j
 induction j using Nat.strongRecOn with
 | _ j n=>
  intro d i b a f p
  obtain ⟨k,l,h⟩:=Q31 ops ops [] (by simp) (by simp) (by intro j i d;simp at d) (Ga q) j i d p
  have c:=g b j a f k l
  rcases h with rfl | ⟨e,h⟩
  ·exact c
  ·obtain ⟨m,o,rfl⟩:=List.append_of_mem c
   have:=n k e (by omega) i m (o++j::a) (by rw[f];simp) h
   exact List.mem_append_left _ this
theorem Um: ∀(n:Nat) (a:List Nat),(∀k,k<n→k∈a)→n≤a.length
 | 0,_,_=>Nat.zero_le _
 | n+1,a,h=>by
  have d:=Um n (a.erase n) fun k e=>(List.mem_erase_of_ne (by omega)).2 (h k (by omega))
  have c:=List.length_erase_of_mem (h n (by omega))
  have b:=List.length_pos_of_mem (h n (by omega))
  omega
theorem R8: ∀(n:Nat) (l:List Nat),l.Nodup→(∀k∈l,k<n)→l.length≤n
 | 0,l,_,h=>by
  cases l with
  | nil=>simp
  | cons x l=>exact absurd (h x (by simp)) (by omega)
 | n+1,l,c,h=>by
  by_cases b:n∈l
  ·have g:=R8 n (l.erase n) (c.erase n) fun k a=>by
    have f:=h k (List.mem_of_mem_erase a)
    have d:k≠n:=fun e=>by subst e;exact (List.Nodup.not_mem_erase c) a
    omega
   have f:=List.length_erase_of_mem b
   have d:=List.length_pos_of_mem b
   omega
  ·have:=R8 n l c fun k a=>by
    have f:=h k a
    have d:k≠n:=fun e=>by subst e;exact b a
    omega
   omega
theorem Q8i {m:Region.Mode} {e:Edge} (h:Region.binds .any e=true):Region.binds m e=true:=by
 unfold Region.binds at h⊢
 cases a:e.ground<;>rw[a] at h<;>first | rfl | (exact absurd h (by simp<;>rfl)) | (simp at h;cases h)
theorem Q7u {m:Region.Mode} {ops:List Oper} {L:List Nat} (h:G4 m ops L=true) (k:Nat) (b:k<ops.length): ∀e∈(ops[k]?.map fun o=>o.after.toList).getD [],Region.binds m e=true→e.on<ops.length:=by
 intro e a c
 simp only[G4,Bool.and_eq_true,List.all_eq_true] at h
 rw[List.getElem?_eq_getElem b] at a
 have:=h.2 ops[k] (List.getElem_mem b) e (by simpa using a)
 rw[c] at this
 simpa using this
theorem Q3W {m:Region.Mode} {ops:List Oper} {L:List Nat} (h:G4 m ops L=true): ∀k,k<ops.length→k∈L:=by
 intro k a
 simp only[G4,Bool.and_eq_true,List.all_eq_true] at h
 simpa using h.1.2 k (by simpa using a)
theorem Q6h (m:Region.Mode) (ops:Array Oper) (R:Zt ops.toList=true) (L0:List Nat) (O:G4 m ops.toList L0=true): ∀(fuel t:Nat) (listed:Array Bool) (a:List Nat),
 fuel+a.length=ops.size→listed.size=ops.size→(∀i,i<ops.size→(listed.getD i true=true↔i∈a))→a.Nodup→(∀i∈a,i<ops.size)→Ee ops.toList a.reverse→
 (Region.linearise.go m ops fuel t listed a).Nodup∧(Region.linearise.go m ops fuel t listed a).length=ops.size∧Ee ops.toList (Region.linearise.go m ops fuel t listed a)
 | 0,t,listed,a,hf,_,_,hn,_,X=>by
  simp only[Region.linearise.go]
  exact ⟨List.pairwise_reverse.2 (hn.imp fun h=>Ne.symm h),by simp;omega,X⟩
 | fuel+1,t,listed,a,hf,v,E,hn,C,X=>by
  -- one that isn't listed may come
  have ad: ∃k,k<ops.size∧k∉a:=by
   refine Classical.byContradiction fun V=>?_
   have H: ∀k,k<ops.size→k∈a:=fun k hk=>Classical.byContradiction fun h=>V ⟨k,hk,h⟩
   have:=Um ops.size a H
   omega
  simp only[Region.linearise.go]
  split
  ·rename_i i hi
   have l:=List.mem_of_getElem? hi
   simp only[List.mem_filter,List.mem_range,Bool.and_eq_true,Bool.not_eq_true'] at l
   obtain ⟨c,u,n⟩:=l
   have J:i∉a:=fun h=>by rw[(E i c).2 h] at u;cases u
   refine Q6h m ops R L0 O fuel _ _ _ (by simp;omega) (by simp[v]) ?_ (List.nodup_cons.2 ⟨J,hn⟩) ?_ ?_
   ·intro j hj
    by_cases r:i=j
    ·subst r;simp[Array.getD,v,c]
    ·have:(listed.setIfInBounds i true).getD j true=listed.getD j true:=by
      simp only[Array.getD_eq_getD_getElem?]
      rw[Array.getElem?_setIfInBounds_ne r]
     rw[this,E j hj]
     simp[Ne.symm r]
   ·intro j hj
    rcases List.mem_cons.1 hj with rfl | hj
    ·exact c
    ·exact C j hj
   ·rw[List.reverse_cons]
    intro Y j D Z k hk
    rcases List.eq_nil_or_concat D with rfl | ⟨q,x,rfl⟩
    ·have hh:=List.append_inj' Z rfl
     obtain ⟨h1,h2⟩:=hh
     simp only[List.cons.injEq,and_true] at h2
     subst h2;subst h1
     have W:=hk
     unfold G9 at hk
     rw[show ops.toList[i]? =some ops[i] by simp[c]] at hk
     simp only[Option.map_some,Option.getD_some,List.mem_map,List.mem_filter] at hk
     obtain ⟨e,⟨g,ab⟩,rfl⟩:=hk
     rw[show ops[i]? =some ops[i] by simp[c]] at n
     simp only[Option.map_some,Option.getD_some,Array.all_eq_true'] at n
     have h4:=n e (by simpa using g)
     simp only[Bool.or_eq_true,Bool.not_eq_true'] at h4
     rcases h4 with h4 | h4
     ·rw[Q8i ab] at h4;cases h4
     ·have an:=Ga R i (by simpa using c) e.on W
      have:listed.getD e.on true=true:=by
       simp only[Array.getD_eq_getD_getElem?] at h4⊢
       rw[Array.getElem?_eq_getElem (by omega)] at h4⊢
       simpa using h4
      simpa using (E e.on (by omega)).1 this
    ·rw[List.concat_eq_append,←List.cons_append,←List.append_assoc] at Z
     have hh:=List.append_inj' Z rfl
     exact X Y j q hh.1 k hk
  ·rename_i p
   exfalso
   obtain ⟨k0,B,s⟩:=ad
   have N:=O
   simp only[G4,Bool.and_eq_true] at N
   -- every number of L0 that is none of an operation's has no edges: it may stand there, but isn't looked at
   have f: ∃k,k<ops.size∧k∉a∧ ∀e∈(ops.toList[k]?.map fun o=>o.after.toList).getD [],Region.binds m e=true→e.on∈a∨ops.size≤e.on:=by
    -- the first of L0 that is an operation's number and isn't listed
    have key: ∀(L b:List Nat),Q3H m ops.toList L b=true→(∀k∈b,k∈a∨ops.size≤k)→(∃k∈L,k<ops.size∧k∉a)→
     ∃k,k<ops.size∧k∉a∧ ∀e∈(ops.toList[k]?.map fun o=>o.after.toList).getD [],Region.binds m e=true→e.on∈a∨ops.size≤e.on:=by
     intro L
     induction L with
     | nil=>rintro b _ _ ⟨k,hk,_⟩;simp at hk
     | cons j L ih=>
      rintro b h hs ⟨k,hk,ac,w⟩
      simp only[Q3H,Bool.and_eq_true,List.all_eq_true] at h
      by_cases hj:j∈a∨ops.size≤j
      ·refine ih (j::b) h.2 (fun x hx=>by rcases List.mem_cons.1 hx with rfl | hx;exact hj;exact hs x hx) ⟨k,?_,ac,w⟩
       rcases List.mem_cons.1 hk with rfl | hk
       ·rcases hj with hj | hj
        ·exact absurd hj w
        ·omega
       ·exact hk
      ·have aa:j<ops.size:=by
        refine Nat.lt_of_not_le fun h=>hj (.inr h)
       refine ⟨j,aa,fun h=>hj (.inl h),fun e R Q=>?_⟩
       have:=h.1 e R
       rw[Q] at this
       exact hs _ (by simpa using this)
    exact key L0 [] N.1.1 (by simp) ⟨k0,Q3W O k0 (by simpa using B),B,s⟩
   obtain ⟨k,d,U,y⟩:=f
   by_cases A:k∈(List.range ops.size).filter fun i=> !listed.getD i true&&((ops[i]?).map (·.after.all fun e=> !Region.binds m e||listed.getD e.on false)).getD false
   ·have z:=List.length_pos_of_mem A
    have:=List.getElem?_eq_none_iff.1 p
    have:=Nat.mod_lt t z
    omega
   ·refine A ?_
    simp only[List.mem_filter,List.mem_range,Bool.and_eq_true,Bool.not_eq_true']
    refine ⟨d,?_,?_⟩
    ·cases hc:listed.getD k true with
     | false=>rfl
     | true=>exact absurd ((E k d).1 hc) U
    ·rw[show ops[k]? =some ops[k] by simp[d]]
     simp only[Option.map_some,Option.getD_some,Array.all_eq_true']
     intro e g
     simp only[Bool.or_eq_true,Bool.not_eq_true']
     cases Q:Region.binds m e with
     | false=>exact .inl rfl
     | true=>
      right
      rw[show ops.toList[k]? =some ops[k] by simp[d]] at y
      rcases y e (by simpa using g) Q with h | h
      ·have M:=C _ h
       have:=(E e.on M).2 h
       simp only[Array.getD_eq_getD_getElem?] at this⊢
       rw[Array.getElem?_eq_getElem (by omega)] at this⊢
       simpa using this
      ·exact absurd h (by
        have:=Q7u O k (by simpa using d) e (by rw[show ops.toList[k]? =some ops[k] by simp[d]];simpa using g) Q
        simp at this;omega)
theorem Q3x (b:Bool) (ops:Array Oper) (t:Nat) (e:Zt ops.toList=true) (c: ∀m,∃L,G4 m ops.toList L=true):
 (Region.schedule b ops t).Nodup∧(Region.schedule b ops t).length=ops.size∧Ee ops.toList (Region.schedule b ops t):=by
 have key: ∀m t,(Region.linearise m ops t).Nodup∧(Region.linearise m ops t).length=ops.size∧Ee ops.toList (Region.linearise m ops t):=by
  intro m t
  obtain ⟨L,g⟩:=c m
  refine Q6h m ops e L g _ _ _ _ (by simp) (by simp) ?_ List.nodup_nil (by simp) ?_
  ·intro i f;simp[Array.getD,f]
  ·intro d j a h;simp at h
 unfold Region.schedule
 split<;>exact key _ _
theorem Xe: ∀(ops:List Oper),Qh (O3 ops)=true→ ∀(i j:Nat) (a b:Oper) (d:Nat),ops[i]? =some a→ops[j]? =some b→a.dst=some d→b.dst=some d→i=j
 | [],_,i,j,a,b,d,h,_,_,_=>by simp at h
 | o::c,l,i,j,a,b,d,n,m,p,r=>by
  have f: ∀(k:Nat) (q:Oper),c[k]? =some q→q.dst=some d→d∈O3 c:=by
   intro k q u s
   simp only[O3,List.mem_filterMap]
   exact ⟨q,List.mem_of_getElem? u,s⟩
  have g:Qh (O3 c)=true:=by
   simp only[O3,List.filterMap_cons] at l
   split at l
   ·exact l
   ·simp only[Qh,Bool.and_eq_true] at l;exact l.2
  have e:o.dst=some d→d∉O3 c:=by
   intro v
   simp only[O3,List.filterMap_cons,v,Qh,Bool.and_eq_true,Bool.not_eq_true'] at l
   intro t
   have:=l.1
   simp only[List.contains_eq_mem,decide_eq_false_iff_not] at this
   exact this t
  cases i with
  | zero=>
   simp only[List.getElem?_cons_zero,Option.some.injEq] at n
   subst n
   cases j with
   | zero=>rfl
   | succ j=>exact absurd (f j b (by simpa using m) r) (e p)
  | succ i=>
   cases j with
   | zero=>
    simp only[List.getElem?_cons_zero,Option.some.injEq] at m
    subst m
    exact absurd (f i a (by simpa using n) p) (e r)
   | succ j=>rw[Xe c g i j a b d (by simpa using n) (by simpa using m) p r]
theorem Bd (u:Nat→Value): ∀(S:List Ent) (s:Nat),get (F9 u S) s=(getE S s).at u
 | [],s=>by simp[F9,get,getE,Ent.at]
 | e::S,0=>rfl
 | e::S,s+1=>Bd u S s
theorem Cy: ∀(S:List Ent) (s:Nat),getE S s=(S[s]?).getD (.val undef)
 | [],s=>by simp[getE]
 | e::S,0=>rfl
 | e::S,s+1=>by simp only[getE,List.getElem?_cons_succ];exact Cy S s
theorem Q09: ∀(S:List Ent) (n:Nat) (e:Ent),Q1b S n e=S.set n e
 | [],n,e=>by simp[Q1b]
 | x::S,0,e=>rfl
 | x::S,n+1,e=>by simp only[Q1b,List.set_cons_succ,Q09 S n e]
theorem Q2O {x:Nat}: ∀{l:List Nat},x∈l→x∈Q08 l
 | y::l,h=>by
  simp only[Q08,List.mem_cons,List.mem_filter]
  by_cases e:x=y
  ·exact .inl e
  ·exact .inr ⟨Q2O ((List.mem_cons.1 h).resolve_left e),by simpa using e⟩
theorem Rn {x:Nat}: ∀{l:List Nat},x∈Q08 l→x∈l
 | y::l,h=>by
  simp only[Q08,List.mem_cons,List.mem_filter] at h⊢
  exact h.imp id fun h=>Rn h.1
theorem Q3j {S:List Ent} {j:Nat}: ∀{l:List Nat} {s:Nat},s∈l→getE S s= .ref j→j∈Q01 S l
 | x::l,s,h,e=>by
  simp only[Q01,List.mem_append]
  rcases List.mem_cons.1 h with rfl | h
  ·left;rw[e];simp[Q3A]
  ·right;exact Q3j h e
theorem Ra {S:List Ent} {j:Nat}: ∀{l:List Nat},j∈Q01 S l→ ∃s∈l,getE S s= .ref j
 | x::l,h=>by
  simp only[Q01,List.mem_append] at h
  rcases h with h | h
  ·refine ⟨x,by simp,?_⟩
   cases a:getE S x with
   | val v=>rw[a] at h;simp[Q3A] at h
   | ref k=>rw[a] at h;simp[Q3A] at h;rw[h]
  ·obtain ⟨s,b,e⟩:=Ra h
   exact ⟨s,by simp[b],e⟩
theorem Q11: ∀(a:List Nat) (c u:Nat→Value) (k:(Nat→Value)→Prop),Ed a c k→ ∃b,k b∧ ∀x,(x∈a→b x=u x)∧(x∉a→b x=c x)
 | [],c,u,k,h=>⟨c,h,fun x=>⟨fun h=>by simp at h,fun _=>rfl⟩⟩
 | j::a,c,u,k,h=>by
  obtain ⟨b,g,d⟩:=Q11 a _ u k (h (u j))
  refine ⟨b,g,fun x=>⟨fun hx=>?_,fun hx=>?_⟩⟩
  ·by_cases f:x∈a
   ·exact (d x).1 f
   ·rw[(d x).2 f]
    rcases List.mem_cons.1 hx with rfl | hx
    ·simp
    ·exact absurd hx f
  ·rw[(d x).2 (fun h=>hx (List.mem_cons_of_mem _ h))]
   have:x≠j:=fun e=>hx (by simp[e])
   simp[this]
theorem Q17 {f:En} {u:Nat→Value} {e:Nat→Iv} {w:World} {a:Prop}: ∀{b:List Nat},Ea f u e w a b→(∀j∈b,∀φ,Jl f j=some ([],φ)→φ [] (e j) (u j) w)→a
 | [],h,_=>h
 | j::b,h,c=>by
  simp only[Ea] at h
  split at h
  ·rename_i φ g
   exact Q17 (h (c j (by simp) φ g)) fun k d=>c k (by simp[d])
  ·exact Q17 h fun k d=>c k (by simp[d])
theorem Tx {f:En} {u:Nat→Value} {e:Nat→Iv} {w:World} {a:Prop}: ∀{b:List Nat},Aw f u e w a b→(∀j∈b,∀R φ,Jl f j=some (R,φ)→φ (R.map u) (e j) (u j) w)→a
 | [],h,_=>h
 | j::b,h,c=>by
  simp only[Aw] at h
  split at h
  ·rename_i R φ g
   exact Tx (h (c j (by simp) R φ g)) fun k d=>c k (by simp[d])
  ·exact Tx h fun k d=>c k (by simp[d])
theorem Fh {a:En} {i j:Nat} {φ:List Nat×(List Value→Iv→Value→World→Prop)} (h:i≠j):Jl (a++[(i,φ)]) j=Jl a j:=by
 induction a with
 | nil=>simp[Jl,h]
 | cons p a b=>obtain ⟨k,ψ⟩:=p;simp only[List.cons_append,Jl,b]
theorem Ld {a:En} {i:Nat} {φ:List Nat×(List Value→Iv→Value→World→Prop)} (h:Jl a i=none):Jl (a++[(i,φ)]) i=some φ:=by
 induction a with
 | nil=>simp[Jl]
 | cons p a c=>
  obtain ⟨k,ψ⟩:=p
  simp only[Jl] at h
  split at h
  ·cases h
  ·rename_i b;simp only[List.cons_append,Jl,b,if_false];exact c h
def Eh (S:List Ent) (i:Nat) (o:Oper):Ent:=match mv o with | some x=>entOf S x | none=> .ref i
def L1 (S:List Ent):Nat→List Oper→List Ent
 | _,[]=>S
 | i,o::a=>L1 (putE S o.dst (Eh S i o)) (i+1) a
theorem Q35: ∀(a:List Oper) (S:List Ent) (i k:Nat) (o:Oper),a[k]? =some o→
 L1 S i (a.take (k+1))=putE (L1 S i (a.take k)) o.dst (Eh (L1 S i (a.take k)) (i+k) o)
 | [],_,_,_,_,h=>by simp at h
 | x::a,S,i,0,o,h=>by
  simp only[List.getElem?_cons_zero,Option.some.injEq] at h
  subst h
  simp[L1]
 | x::a,S,i,k+1,o,h=>by
  simp only[List.getElem?_cons_succ] at h
  have:=Q35 a (putE S x.dst (Eh S i x)) (i+1) k o h
  simp only[List.take_succ_cons,L1]
  rw[this,show i+1+k=i+(k+1) from by omega]
def Xi (S:List Ent) (D:List Nat):Prop:= ∀e∈S,∀j,e= .ref j→j∈D
theorem Xi.getE {S:List Ent} {D:List Nat} (h:Xi S D) {s j:Nat} (e:Go.Emb.getE S s= .ref j):j∈D:=by
 rw[Cy] at e
 cases a:S[s]? with
 | none=>rw[a] at e;cases e
 | some x=>rw[a] at e;exact h x (List.mem_of_getElem? a) j e
theorem Xi.putE {S:List Ent} {D:List Nat} (h:Xi S D) (d:Option Nat) {e:Ent} (c: ∀j,e= .ref j→j∈D):Xi (Go.Emb.putE S d e) D:=by
 cases d with
 | none=>exact h
 | some d=>
  intro x a j b
  simp only[Go.Emb.putE,Q09] at a
  rcases List.mem_or_eq_of_mem_set a with a | rfl
  ·exact h x a j b
  ·exact c j b
theorem Xi.mono {S:List Ent} {D a:List Nat} (h:Xi S D) (b: ∀j∈D,j∈a):Xi S a:=fun e d j c=>b j (h e d j c)
theorem Xi.entOf {S:List Ent} {D:List Nat} (h:Xi S D) (x:Operand) {j:Nat} (e:Go.Emb.entOf S x= .ref j):j∈D:=by
 cases x with
 | tmp t=>exact h.getE e
 | _=>cases e
theorem Q6R {S:List Ent} {D:List Nat} (h:Xi S D) {u a:Nat→Value} (b: ∀j∈D,a j=u j):F9 a S=F9 u S:=by
 unfold F9
 refine List.map_congr_left fun e c=>?_
 cases e with
 | val v=>rfl
 | ref j=>exact b j (h _ c j rfl)
theorem Q0z {P:Program} {ops:List Oper} {l l':List Value} {o:Oper} (f:A0 o.op=true) (h: ∀s∈N7 ops o++E4 o,get l s=get l' s):runOp P ops l o=runOp P ops l' o:=by
 funext w K
 unfold runOp
 rw[Nl f fun x c=>by
  cases x with
  | tmp s=>exact h s (List.mem_append_right _ (by simp only[E4,List.mem_filterMap];exact ⟨.tmp s,by simpa using c,rfl⟩))
  | _=>rfl]
 cases a:o.guard with
 | none=>rfl
 | some q=>
  obtain ⟨j,b⟩:=q
  simp only
  cases e:(ops[j]?).bind (·.dst) with
  | none=>rfl
  | some d=>simp only;rw[h d (List.mem_append_left _ (by simp[N7,a,e]))]
theorem Q1y {P:Program} {ops:List Oper} {l:List Value} {o:Oper} {w:World} {K d:Value→World→Prop} (c: ∀v w,K v w→d v w) (h:runOp P ops l o w K):runOp P ops l o w d:=by
 unfold runOp at*
 split at h
 ·exact B2 c h
 ·split at h
  ·exact Tt ((Us h).imp (fun ⟨b,a⟩=>⟨b,B2 c a⟩) (fun ⟨b,a⟩=>⟨b,c _ _ a⟩))
  ·exact h.elim
theorem Q1I {P:Program} {ops:List Oper} {J1:List Value→World→Prop} {o:Oper} {a:List Oper} {l:List Value} {w:World}
 (h:runOp P ops l o w (fun v w=>Y2 P ops J1 a (put l o.dst v) w)):Y2 P ops J1 (o::a) l w:=by
 simp only[Y2]
 unfold runOp at h
 cases e:o.guard with
 | none=>simp only[e] at h⊢;exact h
 | some q=>
  obtain ⟨j,b⟩:=q
  simp only[e] at h⊢
  split at h
  ·rename_i d c
   first | exact h | (simp only[c];exact h) | (rw[c];exact h)
  ·exact h.elim
structure Whole (P : Program) (r : Bool) (ops : List Oper) (T : World → World → Prop) (B : World → Prop) (J1 : List Value → World → Prop) (tail : List Oper) (Φ : Nat → (Nat → Value) → Iv → World → Prop) (S : List Ent) (i : Nat) (rest : List Oper) (D : List Nat) : Prop where
  stable : ∀ k o, rest[k]? = some o → mv o = none → ∀ u p w w', Φ (i + k) u p w → T w w' → Φ (i + k) u p w'
  loc : ∀ k o, rest[k]? = some o → mv o = none → ∀ u u', (∀ r ∈ (i + k) :: refs ops (L1 S i (rest.take k)) o, u r = u' r) → Φ (i + k) u = Φ (i + k) u'
  run : ∀ k o, rest[k]? = some o → mv o = none → A0 o.op = true → ∀ u iv w, OkI r iv → B w → (∀ j ∈ refs ops (L1 S i (rest.take k)) o, Φ j u (iv j) w) →
    runOp P ops (F9 u (L1 S i (rest.take k))) o w (fun v w' => T w w' ∧ ∀ u', (∀ r ∈ refs ops (L1 S i (rest.take k)) o, u' r = u r) → u' (i + k) = v → Φ (i + k) u' (Lx r w, Lx r w') w')
  last : ∀ u iv w, OkI r iv → B w → (∀ j ∈ D, Φ j u (iv j) w) → (∀ k o, rest[k]? = some o → mv o = none → Φ (i + k) u (iv (i + k)) w) → Y2 P ops J1 tail (F9 u (L1 S i rest)) w
theorem Pz (P:Program) (r:Bool) (ops:List Oper) (T:World→World→Prop) (B:World→Prop) (J1:List Value→World→Prop) (tail:List Oper): ∀(d:List Oper) (i:Nat) (S:List Ent) (m:En) (done:List Nat),
 Xi S done→(∀j,j∈done→j<i∧ ∃φ,Jl m j=some φ)→(∀j φ,Jl m j=some φ→j<i∧ ∀r∈φ.1,r∈done)→chain P r ops T B J1 tail i d S m done→
 ∃Φ:Nat→(Nat→Value)→Iv→World→Prop,(∀j R φ,Jl m j=some (R,φ)→Φ j=fun u p w=>φ (R.map u) p (u j) w)∧Whole P r ops T B J1 tail Φ S i d done
 | [],i,S,m,done,O,Z,J,h=>by
  refine ⟨fun j u p w=>match Jl m j with | some (R,φ)=>φ (R.map u) p (u j) w | none=>True,fun j R φ hj=>by simp[hj],⟨by simp,by simp,by simp,?_⟩⟩
  intro u A w z hB M _
  obtain ⟨C,n,g⟩:=Q11 done _ u _ h
  have q:=Tx (Q5e n z w hB) fun j hj R φ V=>by
   have:=M j hj
   simp only[V] at this
   rw[(g j).1 hj,show R.map C=R.map u from List.map_congr_left fun r f=>(g r).1 ((J j _ V).2 r f)];exact this
  rw[Q6R O fun j hj=>(g j).1 hj,De] at q
  exact q
 | o::d,i,S,m,done,O,Z,J,h=>by
  simp only[chain] at h
  cases y:mv o with
  | some x=>
   simp only[y] at h
   have c:Eh S i o=entOf S x:=by simp[Eh,y]
   obtain ⟨Φ,n,g⟩:=Pz P r ops T B J1 tail d (i+1) _ m done (O.putE _ fun j hj=>O.entOf x hj) (fun j hj=>⟨by have:=(Z j hj).1;omega,(Z j hj).2⟩) (fun j φ hj=>⟨by have:=(J j φ hj).1;omega,(J j φ hj).2⟩) h
   refine ⟨Φ,n,⟨?_,?_,?_,?_⟩⟩
   ·intro k l b a
    cases k with
    | zero=>simp only[List.getElem?_cons_zero,Option.some.injEq] at b;subst b;rw[y] at a;cases a
    | succ k=>have:=g.stable k l (by simpa using b) a;rwa [show i+1+k=i+(k+1) from by omega] at this
   ·intro k l b a u C N
    cases k with
    | zero=>simp only[List.getElem?_cons_zero,Option.some.injEq] at b;subst b;rw[y] at a;cases a
    | succ k=>
     simp only[List.take_succ_cons,L1,c] at N
     have:=g.loc k l (by simpa using b) a u C (by rwa [show i+1+k=i+(k+1) from by omega])
     rwa [show i+1+k=i+(k+1) from by omega] at this
   ·intro k l b a D u A w z hB f
    cases k with
    | zero=>simp only[List.getElem?_cons_zero,Option.some.injEq] at b;subst b;rw[y] at a;cases a
    | succ k=>
     simp only[List.take_succ_cons,L1,c] at f⊢
     have:=g.run k l (by simpa using b) a D u A w z hB f
     rwa [show i+1+k=i+(k+1) from by omega] at this
   ·intro u A w z hB M X
    simp only[L1,c]
    refine g.last u A w z hB M fun k l b a=>?_
    have:=X (k+1) l (by simpa using b) a
    rwa [show i+(k+1)=i+1+k from by omega] at this
  | none=>
   have h': ∃(R:List Nat) (φ:List Value→Iv→Value→World→Prop),(∀r∈R,r∈refs ops S o)∧(∀xs p,I0 T (φ xs p))∧
    (Ed (refs ops S o) (fun _=>undef) fun u=>Sh r fun A=> ∀w,B w→Ea m u A w (runOp P ops (F9 u S) o w (fun v w'=>T w w'∧φ (R.map u) (Lx r w,Lx r w') v w')) (refs ops S o))∧
    chain P r ops T B J1 tail (i+1) d (putE S o.dst (.ref i)) (m++[(i,R,φ)]) (done++[i]):=by
    cases Q:Q4h o with
    | true=>
     simp only[y,Q,Q6d,Q23] at h
     obtain ⟨φ,n,g,q⟩:=h
     exact ⟨_,fun xs _=>φ xs,fun _ h=>h,fun xs _=>n xs,g,q⟩
    | false=>
     cases hn:Q6N r o with
     | true=>
      simp only[y,Q,hn,Q62,Q22] at h
      obtain ⟨φ,n,g,q⟩:=h
      cases r with
      | false=>cases hn
      | true=>exact ⟨[],fun _=>φ,by simp,fun _=>n,g,q⟩
     | false=>
      simp only[y,Q,hn,Q8M,Q5b] at h
      obtain ⟨φ,n,g,q⟩:=h
      exact ⟨[],fun _ _=>φ,by simp,fun _ _=>n,g,q⟩
   clear h
   obtain ⟨R,φ,W,ae,U,h⟩:=h'
   have aa: ∀r∈refs ops S o,r∈done:=fun r f=>by
    obtain ⟨s,_,he⟩:=Ra (Rn f)
    exact O.entOf (.tmp s) he
   have c:Eh S i o= .ref i:=by simp[Eh,y]
   have t:Jl m i=none:=by
    cases M:Jl m i with
    | none=>rfl
    | some ψ=>have:=(J i ψ M).1;omega
   obtain ⟨Φ,n,g⟩:=Pz P r ops T B J1 tail d (i+1) _ (m++[(i,R,φ)]) (done++[i])
    ((O.mono fun j hj=>List.mem_append_left _ hj).putE _ fun j hj=>by cases hj;simp)
    (fun j hj=>by
     rcases List.mem_append.1 hj with hj | hj
     ·obtain ⟨q,ψ,H⟩:=Z j hj
      exact ⟨by omega,ψ,by rw[Fh (by omega)];exact H⟩
     ·simp at hj;subst hj;exact ⟨by omega,(R,φ),Ld t⟩)
    (fun j ψ hj=>by
     by_cases e:i=j
     ·subst e
      rw[Ld t] at hj;cases hj
      exact ⟨by omega,fun r f=>List.mem_append_left _ (aa r (W r f))⟩
     ·rw[Fh e] at hj
      obtain ⟨q,H⟩:=J j ψ hj
      exact ⟨by omega,fun r f=>List.mem_append_left _ (H r f)⟩) h
   have L:Φ i=fun u p w=>φ (R.map u) p (u i) w:=n i R φ (Ld t)
   have E: ∀j Y ψ,Jl m j=some (Y,ψ)→Φ j=fun u p w=>ψ (Y.map u) p (u j) w:=fun j Y ψ hj=>n j Y ψ (by rw[Fh (by have:=(J j _ hj).1;omega)];exact hj)
   refine ⟨Φ,E,⟨?_,?_,?_,?_⟩⟩
   ·intro k l b a
    cases k with
    | zero=>
     intro u p w w' ha hT
     rw[Nat.add_zero,L] at ha⊢
     exact ae _ _ _ _ _ ha hT
    | succ k=>have:=g.stable k l (by simpa using b) a;rwa [show i+1+k=i+(k+1) from by omega] at this
   ·intro k l b a u C N
    cases k with
    | zero=>
     simp only[List.getElem?_cons_zero,Option.some.injEq] at b
     subst b
     simp only[List.take_zero,L1,Nat.add_zero] at N
     rw[Nat.add_zero,L]
     funext p w
     show φ (R.map u) p (u i) w=φ (R.map C) p (C i) w
     rw[show R.map u=R.map C from List.map_congr_left fun r f=>N r (List.mem_cons_of_mem _ (W r f)),N i (by simp)]
    | succ k=>
     simp only[List.take_succ_cons,L1,c] at N
     have:=g.loc k l (by simpa using b) a u C (by rwa [show i+1+k=i+(k+1) from by omega])
     rwa [show i+1+k=i+(k+1) from by omega] at this
   ·intro k l b a D u A w z hB f
    cases k with
    | zero=>
     simp only[List.getElem?_cons_zero,Option.some.injEq] at b
     subst b
     simp only[List.take_zero,L1,Nat.add_zero] at f⊢
     obtain ⟨C,q,H⟩:=Q11 _ _ u _ U
     have h5:=Q17 (Q5e q z w hB) fun j hj ψ hψ=>by
      have h6:=f j hj
      rw[E j [] ψ hψ] at h6
      rw[(H j).1 hj];exact h6
     rw[Q0z D (l':=F9 u S)] at h5
     ·refine Q1y ?_ h5
      rintro v w' ⟨hT,hf⟩
      refine ⟨hT,fun u2 ad hi=>?_⟩
      rw[L]
      show φ (R.map u2) (Lx r w,Lx r w') (u2 i) w'
      rw[hi,show R.map u2=R.map C from List.map_congr_left fun r f=>by rw[ad r (W r f),(H r).1 (W r f)]]
      exact hf
     ·intro s Q
      rw[Bd,Bd]
      cases he:getE S s with
      | val v=>rfl
      | ref j=>exact (H j).1 (Q2O (Q3j Q he))
    | succ k=>
     simp only[List.take_succ_cons,L1,c] at f⊢
     have:=g.run k l (by simpa using b) a D u A w z hB f
     rwa [show i+1+k=i+(k+1) from by omega] at this
   ·intro u A w z hB M X
    simp only[L1,c]
    refine g.last u A w z hB (fun j hj=>?_) fun k l b a=>?_
    ·rcases List.mem_append.1 hj with hj | hj
     ·exact M j hj
     ·simp at hj;subst hj
      have:=X 0 o (by simp) y
      simpa using this
    ·have:=X (k+1) l (by simpa using b) a
     rwa [show i+(k+1)=i+1+k from by omega] at this
def K4 (os:List Oper) (S0:List Ent) (q:Nat):Ent:=
 match os[q]? with
 | some o=>Eh (L1 S0 0 (os.take q)) q o
 | none=> .val undef
theorem Q6q {os:List Oper} {S0:List Ent} {q:Nat} {o:Oper} (h:os[q]? =some o):L1 S0 0 (os.take (q+1))=putE (L1 S0 0 (os.take q)) o.dst (K4 os S0 q):=by
 rw[Q35 os S0 0 q o h]
 simp[K4,h]
theorem Q5o (S:List Ent) (d:Option Nat) (e:Ent):(putE S d e).length=S.length:=by
 cases d with
 | none=>rfl
 | some d=>simp[putE,Q09]
theorem Fu (os:List Oper) (S0:List Ent): ∀q,q≤os.length→(L1 S0 0 (os.take q)).length=S0.length
 | 0,_=>by simp[L1]
 | q+1,h=>by rw[Q6q (List.getElem?_eq_getElem (by omega)),Q5o,Fu os S0 q (by omega)]
theorem Ex {os:List Oper} {S0:List Ent} (u:Qh (O3 os)=true) (t: ∀d∈O3 os,d<S0.length): ∀q,q≤os.length→
 (∀p,p<q→ ∀o d,os[p]? =some o→o.dst=some d→(L1 S0 0 (os.take q))[d]? =some (K4 os S0 p))∧
  (∀s,(∀p,p<q→ ∀o,os[p]? =some o→o.dst≠some s)→(L1 S0 0 (os.take q))[s]? =S0[s]?)
 | 0,_=>⟨fun p k=>absurd k (by omega),fun s _=>by simp[L1]⟩
 | q+1,h=>by
  obtain ⟨n,r⟩:=Ex u t q (by omega)
  have j:os[q]? =some os[q]:=List.getElem?_eq_getElem (by omega)
  have i:=Fu os S0 q (by omega)
  rw[Q6q j]
  cases c:os[q].dst with
  | none=>
   refine ⟨fun p k o d a b=>?_,fun s l=>r s fun p k=>l p (by omega)⟩
   by_cases e:p=q
   ·subst e;rw[j] at a;cases a;rw[c] at b;cases b
   ·exact n p (by omega) o d a b
  | some g=>
   have m:g<S0.length:=t g (by simp only[O3,List.mem_filterMap];exact ⟨os[q],List.getElem_mem _,c⟩)
   simp only[putE,Q09]
   refine ⟨fun p k o d a b=>?_,fun s l=>?_⟩
   ·by_cases e:p=q
    ·subst e;rw[j] at a;cases a;rw[c] at b;cases b
     rw[List.getElem?_set_self (by rw[i];exact m)]
    ·have f:g≠d:=by
      rintro rfl
      exact e (Xe os u p q o os[q] g a j b c)
     rw[List.getElem?_set_ne f]
     exact n p (by omega) o d a b
   ·have f:g≠s:=fun e=>l q (by omega) os[q] j (by rw[c,e])
    rw[List.getElem?_set_ne f]
    exact r s fun p k=>l p (by omega)
def Lc (os:List Oper) (p:Nat):Bool:=
 match os[p]? with
 | some o=>match mv o with
  | some (.tmp s)=> !(O3 os).contains s
  | some _=>true
  | none=>false
 | none=>false
theorem X1I {P:Program} {o:Oper} {x:Operand} (h:mv o=some x) (l:List Value) (w:World) (K:Value→World→Prop):o.guard=none∧U7 P l o w K=K (ev l x) w:=by
 unfold mv at h
 split at h
 ·cases h
 ·rename_i b
  refine ⟨b,?_⟩
  split at h
  ·rename_i y a;cases h;simp only[U7,a]
  ·rename_i y a;cases h;simp only[U7,a]
  ·cases h
theorem Q5N {P:Program} {ops:List Oper} {J1:List Value→World→Prop} {o:Oper} {c a:List Oper} {l l':List Value} {w:World} (p:A0 o.op=true) (n: ∀s∈N7 ops o++E4 o,get l' s=get l s)
 (f: ∀v w,Y2 P ops J1 c (put l o.dst v) w→Y2 P ops J1 a (put l' o.dst v) w) (h:Y2 P ops J1 (o::c) l w):Y2 P ops J1 (o::a) l' w:=by
 have m:U7 P l' o=U7 P l o:=Nl p fun x r=>by
  cases x with
  | tmp s=>exact n s (List.mem_append_right _ (by simp only[E4,List.mem_filterMap];exact ⟨.tmp s,by simpa using r,rfl⟩))
  | _=>rfl
 simp only[Y2] at h⊢
 cases e:o.guard with
 | none=>simp only[e] at h⊢;rw[m];exact B2 f h
 | some q=>
  obtain ⟨j,b⟩:=q
  simp only[e] at h⊢
  cases k:(ops[j]?).bind (·.dst) with
  | none=>simp only[k] at h⊢;exact f _ _ h
  | some d=>
   simp only[k] at h⊢
   rw[n d (List.mem_append_left _ (by simp[N7,e,k])),m]
   exact Tt ((Us h).imp (fun ⟨g,i⟩=>⟨g,B2 f i⟩) (fun ⟨g,i⟩=>⟨g,f _ _ i⟩))
structure At (os : List Oper) (l0 : List Value) (pre : List Nat) (l : List Value) (u : Nat → Value) : Prop where
  len : l.length = l0.length
  done : ∀ p ∈ pre, ∀ o d, os[p]? = some o → o.dst = some d → l[d]? = some ((K4 os (l0.map .val) p).at u)
  rest : ∀ s, (∀ p ∈ pre, ∀ o, os[p]? = some o → o.dst ≠ some s) → l[s]? = l0[s]?
  refs : ∀ p ∈ pre, ∀ r, K4 os (l0.map .val) p = .ref r → r ∈ pre ∧ ∃ o, os[r]? = some o ∧ mv o = none
theorem X2D {P:Program} {r0:Bool} {ops os:List Oper} {T:World→World→Prop} {B:World→Prop} {J1:List Value→World→Prop} {m:Nat} {C:List Value} {Φ:Nat→(Nat→Value)→Iv→World→Prop}
 (bit:Nat→Nat→Bool) (bw: ∀o∈os,A0 o.op=true) (hn:Qh (O3 os)=true) (hd: ∀d∈O3 os,d<C.length)
 (ae: ∀p q a b,p<q→os[p]? =some a→os[q]? =some b→(P1 a b||P1 b a)=true→bit p q=true)
 (hg: ∀q o j b,os[q]? =some o→o.guard=some (j,b)→ ∃p,p<q∧os[p]? =ops[j]? ∧bit p q=true)
 (hm:m≤os.length) (al: ∀q,m≤q→q<os.length→ ∀p,p<q→bit p q=true∨(p<m∧Lc os p=true))
 (hT: ∀w w',B w→T w w'→B w') (hM: ∀w w',T w w'→Lx r0 w≤Lx r0 w') (hW:Whole P r0 ops T B J1 (os.drop m) Φ (C.map .val) 0 (os.take m) [])
 (L:List Nat) (H:L.Nodup) (b2:L.length=os.length) (ac: ∀q∈L,q<os.length)
 (hC: ∀c q f,L=c++q::f→ ∀p,bit p q=true→p<os.length→p∈c):
 ∀(f c:List Nat),L=c++f→(∀q∈c,q<m)→ ∀(l:List Value) (u:Nat→Value) (iv:Nat→Iv) (w:World),Rc r0 iv w→At os C c l u→B w→
  (∀r∈c,∀o,os[r]? =some o→mv o=none→Φ r u (iv r) w∧ ∀j∈refs ops (L1 (C.map .val) 0 (os.take r)) o,j∈c)→Y2 P ops J1 (f.filterMap (os[·]?)) l w:=by
 have bb: ∀d∈O3 os,d<(C.map Ent.val).length:=by simpa using hd
 have aw: ∀q,q≤m→(os.take m).take q=os.take q:=fun q hq=>by rw[List.take_take,Nat.min_eq_left hq]
 have X: ∀q,q<m→(os.take m)[q]? =os[q]? :=fun q hq=>by rw[List.getElem?_take_of_lt hq]
 -- when all of the first part is done
 have cs: ∀(c f:List Nat),L=c++f→(∀q∈c,q<m)→(∀q,q<m→q∈c)→ ∀l u iv w,Rc r0 iv w→At os C c l u→B w→
  (∀r∈c,∀o,os[r]? =some o→mv o=none→Φ r u (iv r) w∧ ∀j∈refs ops (L1 (C.map .val) 0 (os.take r)) o,j∈c)→Y2 P ops J1 (f.filterMap (os[·]?)) l w:=by
  intro c f E D an l u iv w hI hA hB hΦ
  have ca: ∀(f c:List Nat),L=c++f→m≤c.length→(∀q,q∈c↔q<c.length)→f.filterMap (os[·]?)=os.drop c.length:=by
   intro f
   induction f with
   | nil=>
    intro c E _ _
    rw[List.append_nil] at E
    rw[←E,b2];simp
   | cons q f ih=>
    intro c E dc a5
    have cr:q∉c:=by
     rw[E] at H
     intro h
     exact (List.nodup_append.1 H).2.2 q h q (by simp) rfl
    have cx:c.length≤q:=Nat.le_of_not_lt fun h=>cr ((a5 q).2 h)
    have U:=ac q (by rw[E];simp)
    have cw:q=c.length:=by
     refine Nat.le_antisymm (Nat.le_of_not_lt fun h=>?_) cx
     have:=hC c q f E c.length ((al q (by omega) U _ h).resolve_right (by omega)) (by omega)
     have:=(a5 _).1 this
     omega
    subst cw
    rw[List.filterMap_cons,List.getElem?_eq_getElem U]
    simp only
    rw[ih (c++[c.length]) (by rw[E];simp) (by simp;omega) (by intro x;simp only[List.mem_append,a5,List.mem_singleton,List.length_append,List.length_cons,List.length_nil];omega)]
    simp only[List.length_append,List.length_cons,List.length_nil]
    rw[←List.drop_eq_getElem_cons U]
  have bf:c.length=m:=by
   have J:=R8 m c (by rw[E] at H;exact (List.nodup_append.1 H).1) D
   have R:=Um m c an
   omega
  have J:=ca f c E (by omega) (fun q=>by rw[bf];exact ⟨D q,an q⟩)
  rw[J,bf]
  have R:=hW.last u iv w hI.1 hB (by simp) fun k o hk t=>by
   have a0:k<m:=by
    have:=(List.getElem?_eq_some_iff.1 hk).1
    simp at this;omega
   rw[Nat.zero_add]
   rw[X k a0] at hk
   exact (hΦ k (an k a0) o hk t).1
  have h3:l=F9 u (L1 (C.map .val) 0 (os.take m)):=by
   obtain ⟨g1,g2⟩:=Ex hn bb m hm
   apply List.ext_getElem?
   intro s
   rw[F9,List.getElem?_map]
   by_cases hs: ∃p,p<m∧ ∃o,os[p]? =some o∧o.dst=some s
   ·obtain ⟨p,hp,o,i,z⟩:=hs
    rw[hA.done p (an p hp) o s i z,g1 p hp o s i z];rfl
   ·have ad: ∀p,p<m→ ∀o,os[p]? =some o→o.dst≠some s:=fun p hp o i z=>hs ⟨p,hp,o,i,z⟩
    rw[hA.rest s (fun p hp=>ad p (D p hp)),g2 s ad,List.getElem?_map]
    cases C[s]? <;>rfl
  rw[h3];exact R
 -- moves that come late, among the tail
 have b8: ∀(f c:List Nat) (k:Nat),L=c++f→m≤k→k≤os.length→(∀q,m≤q→(q∈c↔q<k))→(∀p∈f,p<m→Lc os p=true)→
  ∀(l lf:List Value) (w:World),l.length=C.length→lf.length=C.length→(∀s,(∀p∈f,p<m→ ∀o,os[p]? =some o→o.dst≠some s)→l[s]? =lf[s]?)→
   (∀p∈f,p<m→ ∀o d x,os[p]? =some o→mv o=some x→o.dst=some d→lf[d]? =some (ev C x))→(∀s,(O3 os).contains s=false→l[s]? =C[s]?)→
   Y2 P ops J1 (os.drop k) lf w→Y2 P ops J1 (f.filterMap (os[·]?)) l w:=by
  intro f
  induction f with
  | nil=>
   intro c k E bd bu ab _ l lf w hl bc av _ _ h
   rw[List.append_nil] at E
   have hk:k=os.length:=by
    refine Nat.le_antisymm bu (Nat.le_of_not_lt fun D=>?_)
    have cz:k∉c:=fun e=>by have:=(ab k bd).1 e;omega
    have J:=R8 os.length (k::c) (List.nodup_cons.2 ⟨cz,E▸H⟩) (fun x hx=>by
     rcases List.mem_cons.1 hx with rfl | hx
     ·exact D
     ·exact ac x (by rw[E];exact hx))
    simp at J
    rw[E] at b2;omega
   have:l=lf:=List.ext_getElem? fun s=>av s (by simp)
   rw[this]
   rw[hk,List.drop_length] at h
   exact h
  | cons q f ih=>
   intro c k E bd bu ab ak l lf w hl bc av a1 Z h
   have O:q∉c:=by
    rw[E] at H
    intro h
    exact (List.nodup_append.1 H).2.2 q h q (by simp) rfl
   have cn:q∉f:=by
    rw[E] at H
    exact (List.nodup_cons.1 (List.nodup_append.1 H).2.1).1
   have U:=ac q (by rw[E];simp)
   have A:os[q]? =some os[q]:=List.getElem?_eq_getElem U
   have b5:L=(c++[q])++f:=by rw[E];simp
   rw[List.filterMap_cons,A]
   simp only
   by_cases aa:q<m
   ·-- a late move
    have D:=ak q (by simp) aa
    unfold Lc at D
    rw[A] at D
    simp only at D
    cases t:mv os[q] with
    | none=>rw[t] at D;cases D
    | some x=>
     rw[t] at D
     have hx:ev l x=ev C x:=by
      cases x with
      | tmp s=>
       simp only[Bool.not_eq_true'] at D
       simp only[ev,get,List.getD_eq_getElem?_getD,Z s D]
      | _=>rfl
     obtain ⟨ba,ax⟩:=X1I (P:=P) t l w (fun v w=>Y2 P ops J1 (f.filterMap (os[·]?)) (put l os[q].dst v) w)
     simp only[Y2,ba]
     rw[ax,hx]
     refine ih (c++[q]) k b5 bd bu (fun q' a2=>?_) (fun p hp=>ak p (by simp[hp])) _ lf w ?_ bc (fun s hs=>?_) (fun p hp=>a1 p (by simp[hp])) (fun s hs=>?_) h
     ·rw[←ab q' a2];simp only[List.mem_append,List.mem_singleton]
      exact ⟨fun e=>e.resolve_right (by omega), .inl⟩
     ·cases g:os[q].dst<;>simp[put,hl]
     ·cases g:os[q].dst with
      | none=>
       refine av s fun p hp M o i=>?_
       rcases List.mem_cons.1 hp with rfl | hp
       ·rw[A] at i;cases i;rw[g];simp
       ·exact hs p hp M o i
      | some d=>
       have ap:d<C.length:=hd d (by simp only[O3,List.mem_filterMap];exact ⟨os[q],List.getElem_mem _,g⟩)
       simp only[put]
       by_cases e:d=s
       ·subst e
        rw[List.getElem?_set_self (by rw[hl];exact ap)]
        exact (a1 q (by simp) aa os[q] d x A t g).symm
       ·rw[List.getElem?_set_ne e]
        refine av s fun p hp M o i=>?_
        rcases List.mem_cons.1 hp with rfl | hp
        ·rw[A] at i;cases i;rw[g];simpa using e
        ·exact hs p hp M o i
     ·cases g:os[q].dst with
      | none=>exact Z s hs
      | some d=>
       have ai:(O3 os).contains d=true:=by
        rw[List.contains_iff_mem];simp only[O3,List.mem_filterMap];exact ⟨os[q],List.getElem_mem _,g⟩
       simp only[put]
       rw[List.getElem?_set_ne (by rintro rfl;rw[hs] at ai;cases ai)]
       exact Z s hs
   ·have aa:m≤q:=by omega
    have cq:q=k:=by
     have J:k≤q:=Nat.le_of_not_lt fun e=>O ((ab q aa).2 e)
     refine Nat.le_antisymm (Nat.le_of_not_lt fun e=>?_) J
     have:=hC c q f E k ((al q aa U k e).resolve_right (by omega)) (by omega)
     have:=(ab k bd).1 this
     omega
    subst cq
    rw[List.drop_eq_getElem_cons U] at h
    have ci: ∀p∈f,p<m→bit p q=true→False:=fun p hp M hb=>by
     have:=hC c q f E p hb (by omega)
     rw[E] at H
     exact (List.nodup_append.1 H).2.2 p this p (by simp[hp]) rfl
    refine Q5N (bw _ (List.getElem_mem _)) (fun s hs=>?_) (fun v w' hv=>?_) h
    ·have:l[s]? =lf[s]? :=av s fun p hp M o i z=>by
      rcases List.mem_cons.1 hp with rfl | hp
      ·omega
      refine ci p hp M ?_
      rcases List.mem_append.1 hs with hs | hs
      ·unfold N7 at hs
       split at hs
       ·simp at hs
       ·rename_i j b b1
        split at hs
        ·rename_i d br
         simp only[List.mem_singleton] at hs
         subst hs
         obtain ⟨p',aq,bx,hb⟩:=hg q os[q] j b A b1
         obtain ⟨o',bs,b7⟩:=Option.bind_eq_some_iff.1 br
         have:=Xe os hn p' p o' o s (by rw[bx,bs]) i b7 z
         subst this;exact hb
        ·simp at hs
      ·exact ae p q o os[q] (by omega) i A (by simp only[P1,z,Bool.or_eq_true];left;left;simpa using hs)
     simp only[get,List.getD_eq_getElem?_getD,this]
    ·refine ih (c++[q]) (q+1) b5 (by omega) (by omega) (fun q' a2=>?_) (fun p hp=>ak p (by simp[hp])) _ _ w' ?_ ?_ (fun s hs=>?_) (fun p hp M o d x i a7 z=>?_) (fun s hs=>?_) hv
     ·simp only[List.mem_append,List.mem_singleton,ab q' a2];omega
     ·cases g:os[q].dst<;>simp[put,hl]
     ·cases g:os[q].dst<;>simp[put,bc]
     ·have hb:l[s]? =lf[s]? ∨os[q].dst=some s:=by
       left
       refine av s fun p hp M o i=>?_
       rcases List.mem_cons.1 hp with rfl | hp
       ·omega
       ·exact hs p hp M o i
      cases g:os[q].dst with
      | none=>
       rcases hb with hb | hb
       ·exact hb
       ·rw[g] at hb;cases hb
      | some d=>
       simp only[put]
       by_cases e:d=s
       ·subst e
        have ap:d<C.length:=hd d (by simp only[O3,List.mem_filterMap];exact ⟨os[q],List.getElem_mem _,g⟩)
        rw[List.getElem?_set_self (by rw[hl];exact ap),List.getElem?_set_self (by rw[bc];exact ap)]
       ·rw[List.getElem?_set_ne e,List.getElem?_set_ne e]
        rcases hb with hb | hb
        ·exact hb
        ·rw[g] at hb;cases hb;exact absurd rfl e
     ·have ce:=a1 p (by simp[hp]) M o d x i a7 z
      cases g:os[q].dst with
      | none=>exact ce
      | some d'=>
       have Y:d'≠d:=by
        rintro rfl
        have:=Xe os hn p q o os[q] d' i A z g
        omega
       simp only[put]
       rw[List.getElem?_set_ne Y];exact ce
     ·cases g:os[q].dst with
      | none=>exact Z s hs
      | some d=>
       have ai:(O3 os).contains d=true:=by
        rw[List.contains_iff_mem];simp only[O3,List.mem_filterMap];exact ⟨os[q],List.getElem_mem _,g⟩
       simp only[put]
       rw[List.getElem?_set_ne (by rintro rfl;rw[hs] at ai;cases ai)]
       exact Z s hs
 intro f
 induction f with
 | nil=>
  intro c E D l u iv w hI hA hB hΦ
  refine cs c [] E D ?_ l u iv w hI hA hB hΦ
  intro q hq
  rw[List.append_nil] at E
  refine Classical.byContradiction fun az=>?_
  have J:=R8 os.length (q::c) (List.nodup_cons.2 ⟨az,E▸H⟩) (fun k hk=>by
   rcases List.mem_cons.1 hk with rfl | hk
   ·omega
   ·exact ac k (by rw[E];exact hk))
  simp at J
  rw[E] at b2;omega
 | cons q f ih=>
  intro c E D l u iv w hI hA hB hΦ
  have O:q∉c:=by
   rw[E] at H
   intro h
   exact (List.nodup_append.1 H).2.2 q h q (by simp) rfl
  have U:=ac q (by rw[E];simp)
  by_cases aa:m≤q
  ·-- the tail begins
   have am: ∀p,p<m→p∉c→Lc os p=true:=fun p hp bq=>by
    rcases al q aa U p (by omega) with h | h
    ·exact absurd (hC c q f E p h (by omega)) bq
    ·exact h.2
   have bj: ∀p,Lc os p=true→ ∀o,os[p]? =some o→ ∃x,mv o=some x∧ ∀s,x= .tmp s→(O3 os).contains s=false:=by
    intro p hp o i
    unfold Lc at hp
    rw[i] at hp
    simp only at hp
    cases N:mv o with
    | none=>rw[N] at hp;cases hp
    | some x=>
     refine ⟨x,rfl,fun s hs=>?_⟩
     subst hs
     rw[N] at hp;simpa using hp
   obtain ⟨g1,g2⟩:=Ex hn bb m hm
   have bk: ∀s,(O3 os).contains s=false→ ∀(p:Nat) o,os[p]? =some o→o.dst≠some s:=by
    intro s hs p o i z
    have:(O3 os).contains s=true:=by
     rw[List.contains_iff_mem];simp only[O3,List.mem_filterMap]
     exact ⟨o,List.mem_of_getElem? i,z⟩
    rw[hs] at this;cases this
   refine b8 (q::f) c m E (Nat.le_refl _) hm (fun q' a2=>⟨fun e=>D q' e,fun e=>absurd a2 (by omega)⟩) (fun p hp M=>am p M fun e=>by
    rw[E] at H
    exact (List.nodup_append.1 H).2.2 p e p hp rfl) l (F9 u (L1 (C.map .val) 0 (os.take m))) w hA.len (by simp[F9,Fu os _ m hm]) (fun s hs=>?_) (fun p hp M o d x i a7 z=>?_) (fun s hs=>?_) ?_
   ·rw[F9,List.getElem?_map]
    by_cases ar: ∃p,p<m∧ ∃o,os[p]? =some o∧o.dst=some s
    ·obtain ⟨p,hp,o,i,z⟩:=ar
     by_cases W:p∈c
     ·rw[hA.done p W o s i z,g1 p hp o s i z];rfl
     ·exfalso
      have ck:p∈L:=by
       refine Classical.byContradiction fun az=>?_
       have J:=R8 os.length (p::L) (List.nodup_cons.2 ⟨az,H⟩) (fun k hk=>by
        rcases List.mem_cons.1 hk with rfl | hk
        ·omega
        ·exact ac k hk)
       simp at J;omega
      rw[E] at ck
      rcases List.mem_append.1 ck with h | h
      ·exact W h
      ·exact hs p h hp o i z
    ·have ad: ∀p,p<m→ ∀o,os[p]? =some o→o.dst≠some s:=fun p hp o i z=>ar ⟨p,hp,o,i,z⟩
     rw[hA.rest s (fun p hp=>ad p (D p hp)),g2 s ad,List.getElem?_map]
     cases C[s]? <;>rfl
   ·have W:p∉c:=fun e=>by
     rw[E] at H
     exact (List.nodup_append.1 H).2.2 p e p hp rfl
    rw[F9,List.getElem?_map,g1 p M o d i z]
    simp only[Option.map_some,Option.some.injEq]
    have V:K4 os (C.map .val) p=entOf (L1 (C.map .val) 0 (os.take p)) x:=by simp[K4,i,Eh,a7]
    rw[V]
    obtain ⟨x',cb,c0⟩:=bj p (am p M W) o i
    rw[a7] at cb;cases cb
    cases x with
    | tmp s=>
     have hs:=c0 s rfl
     obtain ⟨_,k2⟩:=Ex (S0:=C.map .val) hn bb p (by omega)
     simp only[entOf]
     rw[Cy,k2 s (fun p' _ o' bs=>bk s hs p' o' bs),List.getElem?_map]
     simp only[ev,get,List.getD_eq_getElem?_getD]
     cases C[s]? <;>rfl
    | _=>rfl
   ·exact hA.rest s fun p _ o i=>bk s hs p o i
   ·refine hW.last u iv w hI.1 hB (by simp) fun k o hk t=>?_
    have a0:k<m:=by
     have:=(List.getElem?_eq_some_iff.1 hk).1
     simp at this;omega
    rw[Nat.zero_add]
    rw[X k a0] at hk
    refine (hΦ k (Classical.byContradiction fun bq=>?_) o hk t).1
    obtain ⟨x,hx,_⟩:=bj k (am k a0 bq) o hk
    rw[t] at hx;cases hx
  ·have aa:q<m:=by omega
   have A:os[q]? =some os[q]:=List.getElem?_eq_getElem U
   obtain ⟨g1,g2⟩:=Ex (S0:=C.map .val) hn bb q (by omega)
   -- what a slot holds that this operation reads
   have af: ∀s,(∃p o,os[p]? =some o∧o.dst=some s∧p<q∧bit p q=true)∨s∈E4 os[q]→
    get l s=(getE (L1 (C.map .val) 0 (os.take q)) s).at u∧ ∀r,getE (L1 (C.map .val) 0 (os.take q)) s= .ref r→r∈c∧ ∃o,os[r]? =some o∧mv o=none:=by
    intro s hs
    have ad:(∀p∈c,∀o,os[p]? =some o→o.dst≠some s)→(∀p,p<q→ ∀o,os[p]? =some o→o.dst≠some s)→
     get l s=(getE (L1 (C.map .val) 0 (os.take q)) s).at u∧ ∀r,getE (L1 (C.map .val) 0 (os.take q)) s= .ref r→r∈c∧ ∃o,os[r]? =some o∧mv o=none:=by
     intro J R
     rw[Cy,g2 s R,List.getElem?_map]
     simp only[get,List.getD_eq_getElem?_getD,hA.rest s J]
     cases C[s]? with
     | none=>exact ⟨rfl,fun r hr=>by cases hr⟩
     | some v=>exact ⟨rfl,fun r hr=>by cases hr⟩
    have bi: ∀p o,os[p]? =some o→o.dst=some s→p<q→p∈c→
     get l s=(getE (L1 (C.map .val) 0 (os.take q)) s).at u∧ ∀r,getE (L1 (C.map .val) 0 (os.take q)) s= .ref r→r∈c∧ ∃o,os[r]? =some o∧mv o=none:=by
     intro p o hp i aq W
     rw[Cy,g1 p aq o s hp i]
     simp only[get,List.getD_eq_getElem?_getD,hA.done p W o s hp i,Option.getD_some]
     first | exact ⟨rfl,hA.refs p W⟩ | exact ⟨trivial,hA.refs p W⟩
    rcases hs with ⟨p,o,hp,i,aq,hb⟩ | hs
    ·exact bi p o hp i aq (hC c q f E p hb (by omega))
    ·by_cases ar: ∃(p:Nat) (o:Oper),os[p]? =some o∧o.dst=some s
     ·obtain ⟨p,o,hp,i⟩:=ar
      have c2:=(List.getElem?_eq_some_iff.1 hp).1
      have Z: ∀p' o',os[p']? =some o'→o'.dst=some s→p'=p:=fun p' o' J R=>Xe os hn p' p o' o s J hp R i
      rcases Nat.lt_trichotomy p q with h | h | h
      ·have hb:=ae p q o os[q] h hp A (by simp only[P1,i,Bool.or_eq_true];left;left;simpa using hs)
       exact bi p o hp i h (hC c q f E p hb (by omega))
      ·subst h
       exact ad (fun p' ah o' J R=>by rw[Z p' o' J R] at ah;exact O ah) (fun p' ah o' J R=>by rw[Z p' o' J R] at ah;omega)
      ·refine ad (fun p' ah o' J R=>?_) (fun p' ah o' J R=>by rw[Z p' o' J R] at ah;omega)
       have e:=Z p' o' J R
       subst e
       have hb:=ae q p' os[q] o' h A J (by simp only[P1,R,Bool.or_eq_true];right;left;simpa using hs)
       obtain ⟨p1,p2,W⟩:=List.append_of_mem ah
       have:=hC p1 p' (p2++q::f) (by rw[E,W];simp) q hb U
       exact O (by rw[W];exact List.mem_append_left _ this)
     ·exact ad (fun p _ o J R=>ar ⟨p,o,J,R⟩) (fun p _ o J R=>ar ⟨p,o,J,R⟩)
   have bp: ∀s∈N7 ops os[q]++E4 os[q],(∃p o,os[p]? =some o∧o.dst=some s∧p<q∧bit p q=true)∨s∈E4 os[q]:=by
    intro s hs
    rcases List.mem_append.1 hs with hs | hs
    ·left
     unfold N7 at hs
     split at hs
     ·simp at hs
     ·rename_i j b b1
      split at hs
      ·rename_i d br
       simp only[List.mem_singleton] at hs
       subst hs
       obtain ⟨p,aq,bx,hb⟩:=hg q os[q] j b A b1
       obtain ⟨o,i,z⟩:=Option.bind_eq_some_iff.1 br
       exact ⟨p,o,by rw[bx,i],z,aq,hb⟩
      ·simp at hs
    ·exact .inr hs
   have ay:=X q aa
   rw[A] at ay
   rw[List.filterMap_cons,A]
   simp only
   -- the state behind it
   have step: ∀(v:Value) (u':Nat→Value) (a8:Nat→Iv) (w':World),Rc r0 a8 w'→(∀p∈c,(K4 os (C.map .val) p).at u'=(K4 os (C.map .val) p).at u)→v=(K4 os (C.map .val) q).at u'→
    (∀r,K4 os (C.map .val) q= .ref r→r∈q::c∧ ∃o,os[r]? =some o∧mv o=none)→B w'→(∀r∈q::c,∀o,os[r]? =some o→mv o=none→Φ r u' (a8 r) w'∧ ∀j∈refs ops (L1 (C.map .val) 0 (os.take r)) o,j∈q::c)→
    Y2 P ops J1 (f.filterMap (os[·]?)) (put l os[q].dst v) w':=by
    intro v u' a8 w' cv hu hv hr cy cf
    have Q: ∀x,x∈c++[q]↔x∈q::c:=by intro x;simp[or_comm]
    refine ih (c++[q]) (by rw[E];simp) (fun x hx=>by rcases List.mem_cons.1 ((Q x).1 hx) with rfl | hx;exact aa;exact D x hx) _ u' a8 w' cv ?_ cy (fun r hr o i N=>⟨(cf r ((Q r).1 hr) o i N).1,fun j hj=>(Q j).2 ((cf r ((Q r).1 hr) o i N).2 j hj)⟩)
    have a3: ∀p∈c++[q],∀r,K4 os (C.map .val) p= .ref r→r∈c++[q]∧ ∃o,os[r]? =some o∧mv o=none:=by
     intro p hp r bo
     rcases List.mem_cons.1 ((Q p).1 hp) with rfl | hp
     ·exact ⟨(Q r).2 (hr r bo).1,(hr r bo).2⟩
     ·obtain ⟨J,R⟩:=hA.refs p hp r bo
      exact ⟨List.mem_append_left _ J,R⟩
    cases g:os[q].dst with
    | none=>
     refine ⟨hA.len,?_,?_,a3⟩
     ·intro p hp o d i z
      rcases List.mem_cons.1 ((Q p).1 hp) with rfl | hp
      ·rw[A] at i;cases i;rw[g] at z;cases z
      ·rw[hu p hp];exact hA.done p hp o d i z
     ·intro s hs;exact hA.rest s fun p hp=>hs p (List.mem_append_left _ hp)
    | some d0=>
     have ap:d0<C.length:=hd d0 (by simp only[O3,List.mem_filterMap];exact ⟨os[q],List.getElem_mem _,g⟩)
     refine ⟨by simp[put,hA.len],?_,?_,a3⟩
     ·intro p hp o d i z
      rcases List.mem_cons.1 ((Q p).1 hp) with rfl | hp2
      ·rw[A] at i;cases i
       rw[g] at z;cases z
       simp only[put]
       rw[List.getElem?_set_self (by rw[hA.len];exact ap),hv]
      ·have Y:d0≠d:=by
        rintro rfl
        have:=Xe os hn p q o os[q] d0 i A z g
        subst this;exact O hp2
       simp only[put]
       rw[List.getElem?_set_ne Y,hu p hp2]
       exact hA.done p hp2 o d i z
     ·intro s hs
      have Y:d0≠s:=fun e=>hs q (by simp) os[q] A (by rw[g,e])
      simp only[put]
      rw[List.getElem?_set_ne Y]
      exact hA.rest s fun p hp=>hs p (List.mem_append_left _ hp)
   cases t:mv os[q] with
   | some x=>
    have V:K4 os (C.map .val) q=entOf (L1 (C.map .val) 0 (os.take q)) x:=by simp[K4,A,Eh,t]
    -- a move: what the operand holds
    have hx:ev l x=(entOf (L1 (C.map .val) 0 (os.take q)) x).at u∧ ∀r,entOf (L1 (C.map .val) 0 (os.take q)) x= .ref r→r∈c∧ ∃o,os[r]? =some o∧mv o=none:=by
     cases x with
     | tmp s=>
      have hs:s∈E4 os[q]:=by
       unfold mv at t
       split at t
       ·cases t
       ·simp only[E4,List.mem_filterMap]
        split at t
        ·rename_i y hy;cases t;exact ⟨.tmp s,by rw[hy];simp[Op.operands],rfl⟩
        ·rename_i y hy;cases t;exact ⟨.tmp s,by rw[hy];simp[Op.operands],rfl⟩
        ·cases t
      exact af s (.inr hs)
     | _=>exact ⟨rfl,fun r hr=>by cases hr⟩
    have ba:os[q].guard=none:=by
     unfold mv at t
     split at t
     ·cases t
     ·assumption
    simp only[Y2,ba]
    have ax:U7 P l os[q] w (fun v w=>Y2 P ops J1 (f.filterMap (os[·]?)) (put l os[q].dst v) w)=Y2 P ops J1 (f.filterMap (os[·]?)) (put l os[q].dst (ev l x)) w:=by
     unfold mv at t
     rw[ba] at t
     simp only at t
     split at t
     ·rename_i y hy;cases t;simp only[U7,hy]
     ·rename_i y hy;cases t;simp only[U7,hy]
     ·cases t
    rw[ax]
    refine step _ u iv w hI (fun _ _=>rfl) (by rw[V];exact hx.1) (fun r hr=>by
     rw[V] at hr
     obtain ⟨J,R⟩:=hx.2 r hr
     exact ⟨List.mem_cons_of_mem _ J,R⟩) hB (fun r hr o i N=>by
     rcases List.mem_cons.1 hr with rfl | hr
     ·rw[A] at i;cases i;rw[t] at N;cases N
     ·exact ⟨(hΦ r hr o i N).1,fun j hj=>List.mem_cons_of_mem _ ((hΦ r hr o i N).2 j hj)⟩)
   | none=>
    have V:K4 os (C.map .val) q= .ref q:=by simp[K4,A,Eh,t]
    have bh:=hW.run q os[q] ay t (bw _ (List.getElem_mem _)) u iv w hI.1 hB
    rw[aw q (by omega),Nat.zero_add] at bh
    have ct:=hW.stable
    have bv:=bh (fun j hj=>by
     obtain ⟨s,hs,he⟩:=Ra (Rn hj)
     obtain ⟨J,o,R,h3⟩:=(af s (bp s hs)).2 j he
     exact (hΦ j J o R h3).1)
    have cc: ∀j∈refs ops (L1 (C.map .val) 0 (os.take q)) os[q],j∈c:=fun j hj=>by
     obtain ⟨s,hs,he⟩:=Ra (Rn hj)
     exact ((af s (bp s hs)).2 j he).1
    refine Q1I ?_
    rw[Q0z (bw _ (List.getElem_mem _)) (l':=F9 u (L1 (C.map .val) 0 (os.take q))) (fun s hs=>by rw[Bd];exact (af s (bp s hs)).1)]
    refine Q1y ?_ bv
    intro v w' ⟨b0,hφ⟩
    have Y: ∀r∈c,r≠q:=fun r hr e=>O (e▸hr)
    refine step v (fun n=>if n=q then v else u n) (fun n=>if n=q then (Lx r0 w,Lx r0 w') else iv n) w' (hI.step (hM w w' b0) q) ?_ (by rw[V];simp[Ent.at]) (fun r hr=>by rw[V] at hr;cases hr;exact ⟨by simp,os[q],A,t⟩) (hT w w' hB b0) ?_
    ·intro p hp
     cases he:K4 os (C.map .val) p with
     | val x=>rfl
     | ref r=>
      have:=Y r (hA.refs p hp r he).1
      simp[Ent.at,this]
    ·intro r hr o i N
     rcases List.mem_cons.1 hr with rfl | hr
     ·rw[A] at i;cases i
      refine ⟨?_,fun j hj=>List.mem_cons_of_mem _ (cc j hj)⟩
      simp only[if_true]
      exact hφ _ (fun x hx=>by simp[Y x (cc x hx)]) (by simp)
     ·obtain ⟨f1,f2⟩:=hΦ r hr o i N
      have cl:=D r hr
      have bl:=Y r hr
      have hl:=hW.loc r o (by rw[X r cl];exact i) N (fun n=>if n=q then v else u n) u (fun x hx=>by
       rw[aw r (by omega),Nat.zero_add] at hx
       have:x≠q:=by
        rcases List.mem_cons.1 hx with rfl | hx
        ·exact bl
        ·exact Y x (f2 x hx)
       simp[this])
      have hs:=ct r o (by rw[X r cl];exact i) N
      rw[Nat.zero_add] at hs hl
      refine ⟨?_,fun j hj=>List.mem_cons_of_mem _ (f2 j hj)⟩
      simp only[if_neg bl]
      rw[hl]
      exact hs _ _ _ _ f1 b0
def X1K:Op→Bool
 | .move _ | .assign _ | .fieldAddr .. | .indexAddr .. | .field .. | .index .. | .binOp .. | .unOp .. | .extract .. | .pick .. | .makeFunc .. | .nilCheck _ | .slice .. =>true
 | _=>false
def ready (ops:List Oper) (a:List Nat) (j:Nat):Bool:=(G9 ops j).all (a.contains ·)
def X1q (ops:List Oper) (j:Nat):Bool:=match ops[j]? with | some o=>X1K o.op | none=>false
def Q7p (ops:List Oper):Nat→List Nat→List Nat→List Nat
 | 0,_,a=>a.reverse
 | n+1,b,a=>
  match b.find? (fun j=>X1q ops j&&ready ops a j) with
  | some j=>Q7p ops n (b.erase j) (j::a)
  | none=>match b.find? (ready ops a) with
   | some j=>Q7p ops n (b.erase j) (j::a)
   | none=>a.reverse
def L6 (ops:List Oper):List Nat:=Q7p ops ops.length (List.range ops.length) []
def H8 (ops:List Oper) (a:List Nat) (p q:Nat):Bool:=((Fi ops []).getD (a.getD q 0) 0).testBit (a.getD p 0)
def Y5 (ops:List Oper) (a:List Nat):List Oper:=a.map fun i=>ops.getD i default
def cutA (ops:List Oper) (a:List Nat):Nat→Nat
 | 0=>0
 | j+1=>if (List.range j).all (fun i=>H8 ops a i j||Lc (Y5 ops a) i) then cutA ops a j else j+1
def X2G (ops:List Oper) (a:List Nat) (c n:Nat):Bool:=(List.range n).all fun q=>(List.range q).all fun p=>decide (p<c)||H8 ops a p q
def Wb (ops:List Oper) (a:List Nat) (n:Nat):Nat:=if X2G ops a (cutA ops a n) n then cutA ops a n else n
theorem Q2W (ops:List Oper) (a:List Nat): ∀n,cutA ops a n≤n∧ ∀q,cutA ops a n≤q→q<n→ ∀p,p<q→H8 ops a p q=true∨Lc (Y5 ops a) p=true
 | 0=>⟨Nat.le_refl _,fun q _ h=>by omega⟩
 | j+1=>by
  obtain ⟨g,f⟩:=Q2W ops a j
  simp only[cutA]
  split
  ·rename_i h
   refine ⟨by omega,fun q d b p c=>?_⟩
   by_cases e:q=j
   ·subst e
    simpa using List.all_eq_true.1 h p (by simpa using c)
   ·exact f q d (by omega) p c
  ·exact ⟨Nat.le_refl _,fun q d b=>by omega⟩
theorem Q6v (ops:List Oper) (a:List Nat) (n:Nat):Wb ops a n≤n∧ ∀q,Wb ops a n≤q→q<n→ ∀p,p<q→H8 ops a p q=true∨(p<Wb ops a n∧Lc (Y5 ops a) p=true):=by
 obtain ⟨g,f⟩:=Q2W ops a n
 unfold Wb
 split
 ·rename_i i
  refine ⟨g,fun q e b p d=>?_⟩
  by_cases c:p<cutA ops a n
  ·exact (f q e b p d).imp id fun h=>⟨c,h⟩
  ·left
   have:=List.all_eq_true.1 (List.all_eq_true.1 i q (by simpa using b)) p (by simpa using d)
   simpa [c] using this
 ·exact ⟨Nat.le_refl _,fun q e b=>by omega⟩
def Q3L (ops:List Oper) (a:List Nat):Bool:=
 a.length==ops.length&&(List.range ops.length).all (a.contains ·)&&Qh a&&a.all (fun i=>decide (i<ops.length))&&
  (List.range ops.length).all fun q=>(List.range q).all fun p=> !H8 ops a q p
def Jz (ops:List Oper) (n:Nat):Bool:=
 Zt ops&&Q2y (Fi ops []) ops&&Qh (O3 (Y5 ops (L6 ops)))&&(O3 (Y5 ops (L6 ops))).all (fun d=>decide (d<n))&&
  (G4 .any ops (List.range ops.length)&&G4 .text ops (List.range ops.length)&&G4 .gc ops (Q9o .gc ops ops.length (List.range ops.length) []))&&Q3L ops (L6 ops)
theorem Av: ∀{l:List Nat},Qh l=true→l.Nodup
 | [],_=>List.nodup_nil
 | x::l,h=>by
  simp only[Qh,Bool.and_eq_true,Bool.not_eq_true'] at h
  exact List.nodup_cons.2 ⟨by simpa using h.1,Av h.2⟩
theorem Q5a {ops:List Oper}: ∀(b:List Oper) (a:List Nat),a.length+b.length=ops.length→(∀k,a.length≤k→ops[k]? =b[k-a.length]?)→
 (∀j k,j<a.length→k∈G9 ops j→(a.getD j 0).testBit k=true)→ ∀j k,j<ops.length→k∈G9 ops j→((Fi b a).getD j 0).testBit k=true
 | [],a,i,_,c=>fun j k p d=>c j k (by simp at i;omega) d
 | o::b,a,i,f,c=>by
  have t:ops[a.length]? =some o:=by rw[f _ (Nat.le_refl _)];simp
  refine Q5a b _ (by simp at i⊢;omega) ?_ ?_
  ·intro k d
   simp only[List.length_append,List.length_cons,List.length_nil] at d⊢
   rw[f k (by omega)]
   obtain ⟨m,q⟩: ∃m,k-a.length=m+1:=⟨k-a.length-1,by omega⟩
   rw[q,List.getElem?_cons_succ]
   congr 1;omega
  ·intro j k p d
   simp only[List.length_append,List.length_cons,List.length_nil] at p
   by_cases g:j<a.length
   ·simp only[List.getD_eq_getElem?_getD,List.getElem?_append_left g]
    simpa only[List.getD_eq_getElem?_getD] using c j k g d
   ·have n:j=a.length:=by omega
    subst n
    simp only[List.getD_eq_getElem?_getD,List.getElem?_append_right (Nat.le_refl _),Nat.sub_self,List.getElem?_cons_zero,Option.getD_some]
    unfold G9 at d
    rw[t] at d
    simp only[Option.map_some,Option.getD_some,List.mem_map] at d
    obtain ⟨e,u,rfl⟩:=d
    have key: ∀(l:List Edge) (s:Nat),(e∈l∨s.testBit e.on=true)→(l.foldl (fun s e=>s ||| 2 ^ e.on ||| (a[e.on]?).getD 0) s).testBit e.on=true:=by
     intro l
     induction l with
     | nil=>intro s h;simpa using h
     | cons x l r=>
      intro s h
      refine r _ ?_
      rcases h with h | h
      ·rcases List.mem_cons.1 h with rfl | h
       ·right;simp
       ·exact .inl h
      ·right;simp[h]
    exact key _ _ (.inl u)
theorem Hi {α β:Type} {f g:α→Option β}: ∀{l:List α},(∀x∈l,f x=g x)→l.filterMap f=l.filterMap g
 | [],_=>rfl
 | x::l,h=>by
  rw[List.filterMap_cons,List.filterMap_cons,h x (by simp),Hi fun y a=>h y (by simp[a])]
structure Arr (ops : List Oper) (ord : List Nat) (L : List Nat) : Prop where
  hpl : ∀ o ∈ Y5 ops ord, A0 o.op = true
  hclash : ∀ p q a b, p < q → (Y5 ops ord)[p]? = some a → (Y5 ops ord)[q]? = some b → (P1 a b || P1 b a) = true → H8 ops ord p q = true
  hg : ∀ q o j b, (Y5 ops ord)[q]? = some o → o.guard = some (j, b) → ∃ p, p < q ∧ (Y5 ops ord)[p]? = ops[j]? ∧ H8 ops ord p q = true
  hn : L.Nodup
  hlt : ∀ q ∈ L, q < (Y5 ops ord).length
  hC : ∀ pre q post, L = pre ++ q :: post → ∀ p, H8 ops ord p q = true → p < (Y5 ops ord).length → p ∈ pre
  hLl : L.length = (Y5 ops ord).length
theorem Bi {ops:Array Oper} {c:List Nat} (X:Zt ops.toList=true) (hc:Q2y (Fi ops.toList []) ops.toList=true) (bd:G4 .any ops.toList (List.range ops.toList.length)=true) (bb:G4 .text ops.toList (List.range ops.toList.length)=true) (be:G4 .gc ops.toList (Q9o .gc ops.toList ops.toList.length (List.range ops.toList.length) [])=true) (O:Q3L ops.toList c=true) (b:Bool) (t:Nat):
 (Region.schedule b ops t).filterMap (ops[·]?)=((Region.schedule b ops t).map (c.idxOf ·)).filterMap ((Y5 ops.toList c)[·]?)∧Arr ops.toList c ((Region.schedule b ops t).map (c.idxOf ·))∧(Y5 ops.toList c).length=ops.toList.length∧(Region.schedule b ops t).Nodup∧ ∀i∈Region.schedule b ops t,i<ops.toList.length∧c.getD (c.idxOf i) 0=i:=by
 simp only[Q3L,Bool.and_eq_true,beq_iff_eq] at O
 obtain ⟨⟨⟨⟨ab,U⟩,aw⟩,N⟩,E⟩:=O
 have ah:=Av aw
 have ai:(Y5 ops.toList c).length=ops.toList.length:=by simp[Y5,ab]
 have g: ∀p,p<ops.toList.length→c.getD p 0<ops.toList.length:=by
  intro p W
  simp only[List.getD_eq_getElem?_getD]
  rw[List.getElem?_eq_getElem (by omega)]
  have:=List.all_eq_true.1 N c[p] (List.getElem_mem _)
  simpa using this
 have d: ∀p,p<ops.toList.length→(Y5 ops.toList c)[p]? =ops.toList[c.getD p 0]? :=by
  intro p W
  have n:=g p W
  simp only[List.getD_eq_getElem?_getD] at n
  rw[List.getElem?_eq_getElem (by omega:p<c.length)] at n
  simp only[Option.getD_some] at n
  simp only[Y5,List.getElem?_map,List.getD_eq_getElem?_getD]
  rw[List.getElem?_eq_getElem (by omega:p<c.length)]
  simp only[Option.map_some,Option.getD_some]
  rw[List.getElem?_eq_getElem n]
  simp
 obtain ⟨V,L,v⟩:=Q3x b ops t X (fun m=>by cases m<;>exact ⟨_,by assumption⟩)
 have f:=Q0C b ops t
 generalize Region.schedule b ops t=L0 at V L v f⊢
 have z: ∀i,i<ops.toList.length→i∈c:=fun i s=>by simpa using List.all_eq_true.1 U i (by simpa using s)
 have l: ∀i,i<ops.toList.length→c.idxOf i<ops.toList.length∧c.getD (c.idxOf i) 0=i:=by
  intro i s
  have n:=List.idxOf_lt_length_of_mem (z i s)
  refine ⟨by omega,?_⟩
  simp only[List.getD_eq_getElem?_getD]
  rw[List.getElem?_eq_getElem n]
  simp
 have r: ∀p,p<ops.toList.length→c.idxOf (c.getD p 0)=p:=by
  intro p W
  simp only[List.getD_eq_getElem?_getD]
  rw[List.getElem?_eq_getElem (by omega:p<c.length)]
  simp only[Option.getD_some]
  exact List.Nodup.idxOf_getElem ah p (by omega)
 have ag: ∀p q,p<q→q<ops.toList.length→H8 ops.toList c q p=false:=by
  intro p q R u
  have:=List.all_eq_true.1 (List.all_eq_true.1 E q (by simpa using u)) p (by simpa using R)
  simpa using this
 have al:L0.filterMap (ops[·]?)=(L0.map (c.idxOf ·)).filterMap ((Y5 ops.toList c)[·]?):=by
  rw[List.filterMap_map]
  refine Hi fun i s=>?_
  have:=f i s
  have n:=l i (by simpa using this)
  simp only[Function.comp]
  rw[d _ n.1,n.2]
  simp
 refine ⟨al,⟨?_,?_,?_,?_,?_,?_,by simp[L,ab,Y5]⟩,ai,V,fun i s=>⟨by simpa using f i s,(l i (by simpa using f i s)).2⟩⟩
 ·intro o ho
  simp only[Y5,List.mem_map] at ho
  obtain ⟨i,s,rfl⟩:=ho
  have B:i<ops.toList.length:=by simpa using List.all_eq_true.1 N i s
  simp only[Zt,List.all_eq_true,Bool.and_eq_true] at X
  have:=(X (ops.toList[i],i) (by rw[List.mem_zipIdx_iff_getElem?];simpa using B)).1.1
  rw[List.getD_eq_getElem?_getD,List.getElem?_eq_getElem B]
  exact this
 ·intro p q a b' R ha C H
  have W:p<ops.toList.length:=by have:=(List.getElem?_eq_some_iff.1 ha).1;omega
  have u:q<ops.toList.length:=by have:=(List.getElem?_eq_some_iff.1 C).1;omega
  rw[d p W] at ha
  rw[d q u] at C
  have Y: ∀i i' x x',i<i'→ops.toList[i]? =some x→ops.toList[i']? =some x'→(P1 x x'||P1 x' x)=true→((Fi ops.toList []).getD i' 0).testBit i=true:=by
   intro i i' x x' ao hx ax H
   simp only[Q2y,List.all_eq_true] at hc
   have:=hc (x',i') (by rw[List.mem_zipIdx_iff_getElem?];simpa using ax) (x,i) (by rw[List.mem_zipIdx_iff_getElem?];simpa using hx)
   simp only[ao,H,decide_true,Bool.not_true,Bool.false_or,Bool.or_self] at this
   exact this
  have ac:c.getD p 0≠c.getD q 0:=by
   intro e
   have:=r p W
   rw[e,r q u] at this
   omega
  rcases Nat.lt_or_gt_of_ne ac with h | h
  ·exact Y _ _ a b' h ha C H
  ·have n:=Y _ _ b' a h C ha (by rw[Bool.or_comm];exact H)
   have w:=ag p q R u
   unfold H8 at w
   rw[n] at w;cases w
 ·intro q o j b' u az
  have D:q<ops.toList.length:=by have:=(List.getElem?_eq_some_iff.1 u).1;omega
  rw[d q D] at u
  have J:j∈G9 ops.toList (c.getD q 0):=by
   have Z:=X
   simp only[Zt,List.all_eq_true,Bool.and_eq_true] at Z
   have:=(Z (o,c.getD q 0) (by rw[List.mem_zipIdx_iff_getElem?];simpa using u)).2
   rw[az] at this
   simp only[List.any_eq_true] at this
   obtain ⟨e,a1,ay⟩:=this
   unfold G9
   rw[u]
   simp only[Option.map_some,Option.getD_some,List.mem_map]
   exact ⟨e,a1,by simpa using ay⟩
  have ap:=Ga X _ (g q D) j J
  have hj:j<ops.toList.length:=by have:=g q D;omega
  have C:=Q5a (ops:=ops.toList) ops.toList [] (by simp) (by simp) (by intro j k hj;simp at hj) _ j (g q D) J
  obtain ⟨n,w⟩:=l j hj
  have M:H8 ops.toList c (c.idxOf j) q=true:=by unfold H8;rw[w];exact C
  refine ⟨c.idxOf j,?_,by rw[d _ n,w],M⟩
  rcases Nat.lt_trichotomy (c.idxOf j) q with h | h | h
  ·exact h
  ·rw[←h,w] at ap;omega
  ·have:=ag q _ h n
   rw[M] at this;cases this
 ·refine List.pairwise_map.2 (V.imp_of_mem ?_)
  intro x y hx hy ar av
  have n:=(l x (by simpa using f x hx)).2
  have w:=(l y (by simpa using f y hy)).2
  exact ar (by rw[←n,←w,av])
 ·intro q u
  simp only[List.mem_map] at u
  obtain ⟨i,s,rfl⟩:=u
  have:=(l i (by simpa using f i s)).1
  omega
 ·intro bc q a6 hL p C W
  rw[List.map_eq_append_iff] at hL
  obtain ⟨aj,am,ae,ad,A⟩:=hL
  rw[List.map_eq_cons_iff] at A
  obtain ⟨i,Q,hr,s,a3⟩:=A
  subst hr s ad
  have B:i<ops.toList.length:=by simpa using f i (by rw[ae];simp)
  obtain ⟨n,w⟩:=l i B
  unfold H8 at C
  rw[w] at C
  have aq:p<ops.toList.length:=by omega
  have:=Q4D X v i B (c.getD p 0) aj Q ae C
  rw[List.mem_map]
  exact ⟨c.getD p 0,this,r p aq⟩
theorem Q3h {ops:Array Oper} {n:Nat} (c:Jz ops.toList n=true) (b:Bool) (t:Nat): ∃L,(Region.schedule b ops t).filterMap (ops[·]?)=L.filterMap ((Y5 ops.toList (L6 ops.toList))[·]?)∧Arr ops.toList (L6 ops.toList) L∧(Y5 ops.toList (L6 ops.toList)).length=ops.toList.length:=by
 simp only[Jz,Bool.and_eq_true] at c
 obtain ⟨⟨⟨⟨⟨g,h⟩,m⟩,l⟩,⟨f,e⟩,d⟩,a⟩:=c
 obtain ⟨k,j,i,_⟩:=Bi g h f e d a b t
 exact ⟨_,k,j,i⟩
theorem Q6o (P:Program) (r:Bool) (ops:Array Oper) (T:World→World→Prop) (B:World→Prop) (J1:List Value→World→Prop) (i:List Value) (g:Jz ops.toList i.length=true)
 (H: ∀w w',B w→T w w'→B w') (J: ∀w w',T w w'→Lx r w≤Lx r w')
 (h:chain P r ops.toList T B J1 ((Y5 ops.toList (L6 ops.toList)).drop (Wb ops.toList (L6 ops.toList) ops.toList.length)) 0
  ((Y5 ops.toList (L6 ops.toList)).take (Wb ops.toList (L6 ops.toList) ops.toList.length)) (i.map .val) [] [])
 (b:Bool) (t:Nat) (w:World) (N:B w):Y2 P ops.toList J1 ((Region.schedule b ops t).filterMap (ops[·]?)) i w:=by
 obtain ⟨L,k,f,o⟩:=Q3h g b t
 simp only[Jz,Bool.and_eq_true] at g
 obtain ⟨⟨⟨⟨⟨n,U⟩,R⟩,M⟩,⟨D,A⟩,E⟩,s⟩:=g
 generalize L6 ops.toList=a at*
 obtain ⟨Φ,_,z⟩:=Pz P r ops.toList T B J1 _ _ 0 (i.map .val) [] [] (by intro e n j y;simp only[List.mem_map] at n;obtain ⟨v,_,rfl⟩:=n;cases y) (by simp) (by simp[Jl]) h
 rw[k]
 obtain ⟨l,c⟩:=Q6v ops.toList a ops.toList.length
 exact X2D (os:=Y5 ops.toList a) (m:=Wb ops.toList a ops.toList.length) (T:=T) (B:=B) (Φ:=Φ) (H8 ops.toList a) f.hpl R (fun d C=>by simpa using List.all_eq_true.1 M d C) f.hclash f.hg (by omega)
  (fun q u Q p O=>c q u (by omega) p O) H J z L f.hn f.hLl f.hlt f.hC _ [] rfl (by simp) i (fun _=>undef) (fun _=>(0,0)) w .init
  ⟨rfl,by simp,fun _ _=>rfl,by simp⟩ N (by simp)
def Yi {α:Type} (P:Program) (s:Sem α):Prop:= ∀w v w',s.run P w= .ok v w'→w'=w
section
variable {P : Program} {α β : Type}
theorem Zs (a:α):Yi P (Pure.pure a:Sem α):=fun w v w' h=>by simp at h;exact h.2.symm
theorem Q5O (m:String):Yi P (stuck m:Sem α):=fun w v w' h=>by simp at h
theorem I9 {s:Sem α} {f:α→Sem β} (d:Yi P s) (c: ∀a,Yi P (f a)):Yi P (s>>=f):=fun w v w' h=>by
 rw[Sem.run_bind] at h
 cases b:s.run P w with
 | halt x w1=>rw[b] at h;simp[Result.andThen] at h
 | ok a w1=>
  rw[b] at h
  have:=d _ _ _ b
  subst this
  exact c a _ _ _ h
theorem Q1h (a:Addr) (m:Mode):Yi P (load a m):=fun w v w' h=>by
 unfold load at h
 simp only[Sem.run] at h
 split at h
 ·cases h;rfl
 ·split at h
  ·cases h;rfl
  ·cases h
theorem Cn (t:TypeId):Yi P (typeInfo t):=fun w v w' h=>by
 unfold typeInfo at h
 simp only[Sem.run_bind,run_program,Result.andThen_ok] at h
 split at h<;>simp at h
 exact h.2.symm
theorem Q19 (t:TypeId):Yi P (underlying t):=fun w v w' h=>by
 unfold underlying at h
 simp only[Sem.run_bind,run_program,Result.andThen_ok] at h
 split at h<;>simp at h
 exact h.2.symm
theorem Q5y (t:TypeId):Yi P (isAgg t):=by
 unfold isAgg
 refine I9 (Q19 t) fun d=>?_
 split<;>exact Zs _
theorem Q4s (t:TypeId):Yi P (sizeOf t):=I9 (Cn t) fun _=>Zs _
theorem Q0K (a:Addr): ∀(n i:Nat) (b:Array Value),Yi P (loadCellsFrom a i n b)
 | 0,i,b=>Zs _
 | n+1,i,b=>I9 (Q1h _ _) fun v=>Q0K a n (i+1) _
theorem Q3w (t:TypeId) (a:Addr):Yi P (loadVar t a):=by
 unfold loadVar
 refine I9 (Q5y t) fun b=>?_
 split
 ·exact I9 (Q4s t) fun n=>I9 (Q0K a n 0 #[]) fun cs=>Zs _
 ·exact Q1h _ _
theorem Q46 (t:TypeId) (v:Value):Yi P (Instr.loadAt t v):=by
 unfold Instr.loadAt
 refine I9 ?_ fun a=>Q3w t a
 unfold Instr.sureAddr
 split
 ·exact Zs _
 ·exact Q5O _
def Ya (P:Program) (s:Sem α):Prop:= ∀w v w1,s.run P w= .ok v w1→w1=w∧ ∀w',s.run P w'= .ok v w'
theorem Yq (a:α):Ya P (Pure.pure a:Sem α):=fun w v w' h=>by simp at h⊢;exact ⟨h.2.symm,h.1⟩
theorem Vx (m:String):Ya P (stuck m:Sem α):=fun w v w' h=>by simp at h
theorem K6 {s:Sem α} {f:α→Sem β} (j:Ya P s) (i: ∀a,Ya P (f a)):Ya P (s>>=f):=fun w v w' h=>by
 rw[Sem.run_bind] at h
 cases b:s.run P w with
 | halt x w1=>rw[b] at h;simp[Result.andThen] at h
 | ok a w1=>
  rw[b] at h
  obtain ⟨rfl,g⟩:=j _ _ _ b
  obtain ⟨e,d⟩:=i a _ _ _ h
  refine ⟨e,fun c=>?_⟩
  rw[Sem.run_bind,g c]
  exact d c
theorem Ih (t:TypeId):Ya P (typeInfo t):=fun w v w' h=>by
 unfold typeInfo at h⊢
 simp only[Sem.run_bind,run_program,Result.andThen_ok] at h⊢
 split at h<;>simp at h
 rename_i i a
 refine ⟨h.2.symm,fun w'=>?_⟩
 simp[a,h.1]
theorem Vr (t:TypeId):Ya P (underlying t):=fun w v w' h=>by
 unfold underlying at h⊢
 simp only[Sem.run_bind,run_program,Result.andThen_ok] at h⊢
 split at h<;>simp at h
 rename_i i a
 refine ⟨h.2.symm,fun w'=>?_⟩
 simp[a,h.1]
theorem He (v:Value) (i:Nat):Ya P (Instr.extract v i):=by
 unfold Instr.extract
 split
 ·split
  ·exact Yq _
  ·exact Vx _
 ·exact Vx _
theorem Q7R (v:Value):Ya P (Instr.sureAddr v):=by
 unfold Instr.sureAddr
 split
 ·exact Yq _
 ·exact Vx _
theorem Q2l {s:Sem α} (h: ∀w v w',s.run P w≠ .ok v w'):Ya P s:=fun w v w' e=>absurd e (h w v w')
theorem Q2e {s:Sem α} {f:α→Sem β} (c: ∀a w v w',(f a).run P w≠ .ok v w'): ∀w v w',(s>>=f).run P w≠ .ok v w':=fun w v w' h=>by
 rw[Sem.run_bind] at h
 cases b:s.run P w with
 | halt x w1=>rw[b] at h;simp[Result.andThen] at h
 | ok a w1=>rw[b] at h;exact c a _ _ _ h
theorem Q1w (e:Int×Int×Bool×BoundsCode): ∀w v w',(runtimePanic (.bounds e.1 e.2.1 e.2.2.1 e.2.2.2):Sem α).run P w≠ .ok v w':=by
 unfold runtimePanic
 exact Q2e fun p=>fun w v w' h=>by cases h
theorem Q0A (k:IntKind) (x y:Int) (c:BoundsCode):Ya P (boundsPanic k x y c:Sem α):=Q2l (by
 unfold boundsPanic
 dsimp only
 split
 ·exact Q2e fun b=>Q1w (_,_,_,_)
 ·exact Q2e fun b=>Q1w (_,_,_,_))
theorem Hl (t:TypeId) (x i:Value):Ya P (Instr.indexAt t x i):=by
 unfold Instr.indexAt
 refine K6 ?_ fun q=>?_
 ·unfold asIntOf
  split
  ·exact Yq _
  ·exact Q2l fun w v w' h=>by cases h
  ·exact Vx _
 refine K6 (Vr t) fun d=>?_
 dsimp only
 have key: ∀(z:Option Addr×Nat×TypeId),Ya P (match z with
  | (base,b,elem)=>do
   let __do_lift←underlying t
   have c:Bool:=decide (b≤1)&&match __do_lift with
    | TypeDesc.array b elem=>true
    | x=>false
   match base with
    | some a=>
     if 0≤q.snd∧q.snd< ↑b then do
      let __do_lift←sizeOf elem
      pure (Value.pointer (some (a.add (q.snd.toNat*__do_lift))))
     else
      if c=true then unsupported (Unsupported.noEntry "op/indexAddr.an index out of range at an array of length 0 or 1 (ledger 616)")
      else boundsPanic q.fst q.snd (↑b) BoundsCode.index
    | none=>boundsPanic q.fst q.snd 0 BoundsCode.index):=by
  rintro ⟨base,b,elem⟩
  dsimp only
  refine K6 (Vr t) fun g=>?_
  cases base with
  | none=>exact Q0A _ _ _ _
  | some a=>
   dsimp only
   by_cases e:0≤q.snd∧q.snd< ↑b
   ·rw[if_pos e]
    exact K6 (K6 (Ih _) fun _=>Yq _) fun n=>Yq _
   ·rw[if_neg e]
    by_cases f:(decide (b≤1)&&match g with
     | TypeDesc.array b elem=>true
     | x=>false)=true
    ·rw[if_pos f]
     exact Q2l fun w v w' h=>by cases h
    ·rw[if_neg f]
     exact Q0A _ _ _ _
 split
 ·exact K6 (Q7R _) fun a=>K6 (Yq _) key
 ·exact K6 (Yq _) key
 ·exact K6 (Vx _) key
def Tl (o:Oper):Bool:=match o.op with | .move _ | .assign _ | .load .. | .extract .. | .indexAddr .. =>true | _=>false
def Q2u (o:Oper):Bool:=match o.op with | .move _ | .assign _ | .extract .. | .indexAddr .. =>true | _=>false
theorem Oz {s:Sem Value} {w:World} {K:Value→World→Prop} (h:op P (sv s) w K): ∃v w',s.run P w= .ok v w'∧K v w':=by
 rw[K9] at h
 unfold I2 sv at h
 rw[Sem.run_bind] at h
 cases a:s.run P w with
 | halt x w1=>rw[a] at h;exact h.elim
 | ok v w1=>rw[a] at h;exact ⟨v,w1,rfl,h⟩
theorem Df {s:Sem Value} {v:Value} {w w':World} {K:Value→World→Prop} (h:s.run P w= .ok v w') (k:K v w'):op P (sv s) w K:=by
 rw[K9]
 unfold I2 sv
 rw[Sem.run_bind,h]
 exact k
theorem Q8r {p:Program} {w w':World} {a k:Addr} {u:TypeId} {b:Bool} {r} (h: ∀(i:Nat) o,w.heap[i]? =some o→w'.heap[i]? =some o) (c:w.seen p a u k b= .ok r):w'.seen p a u k b= .ok r:=by
 cases e:w.heap[a.block]? with
 | some o=>
  have d:=h _ _ e
  unfold World.seen at*
  rw[d]
  rw[e] at c
  exact c
 | none=>
  exfalso
  unfold World.seen at c
  simp only[e,bind,Except.bind,throw,throwThe,MonadExceptOf.throw,pure,Except.pure] at c
  repeat (first | cases c | split at c)
theorem Q9M {p:Program} {w w':World} {a:Addr} {b:Bool} {r} (h: ∀(i:Nat) o,w.heap[i]? =some o→w'.heap[i]? =some o) (c:w.farLoad p a b= .ok r):w'.farLoad p a b= .ok r:=by
 unfold World.farLoad at*
 cases e:w.heap[a.block]? with
 | none=>rw[e] at c;cases c
 | some o=>
  rw[e] at c
  rw[h _ _ e]
  cases o with
  | view d u=>
   simp only at c⊢
   cases f:w.viewLoad p d u a b with
   | error s=>rw[f] at c;cases c
   | ok q=>
    rw[f] at c
    have:w'.viewLoad p d u a b= .ok q:=by
     unfold World.viewLoad at*
     cases g:w.seen p d u a b with
     | error s=>rw[g] at f;cases f
     | ok z=>rw[Q8r h g];rw[g] at f;exact f
    rw[this]
    exact c
  | _=>simp only at c;cases c
def Nj {α:Type} (P:Program) (s:Sem α):Prop:= ∀w v w1,s.run P w= .ok v w1→w1=w∧ ∀w':World,(∀(i:Nat) o,w.heap[i]? =some o→w'.heap[i]? =some o)→s.run P w'= .ok v w'
section
variable {P : Program} {α β : Type}
theorem Nx (a:α):Nj P (Pure.pure a:Sem α):=fun w v w' h=>by simp at h⊢;exact ⟨h.2.symm,fun _ _=>h.1⟩
theorem Q6Q (m:String):Nj P (stuck m:Sem α):=fun w v w' h=>by simp at h
theorem Zj {s:Sem α} {f:α→Sem β} (k:Nj P s) (j: ∀a,Nj P (f a)):Nj P (s>>=f):=fun w v w' h=>by
 rw[Sem.run_bind] at h
 cases b:s.run P w with
 | halt x w1=>rw[b] at h;simp[Result.andThen] at h
 | ok a w1=>
  rw[b] at h
  obtain ⟨rfl,i⟩:=k _ _ _ b
  obtain ⟨g,e⟩:=j a _ _ _ h
  refine ⟨g,fun d c=>?_⟩
  rw[Sem.run_bind,i d c]
  exact e d c
theorem Q3b (a:Addr) (m:Mode):Nj P (load a m):=fun w v w1 h=>by
 unfold load at h⊢
 simp only[Sem.run] at h⊢
 cases e:w.cell? a with
 | some x=>
  rw[e] at h
  cases h
  refine ⟨rfl,fun w' d=>?_⟩
  have:w'.cell? a=some v:=by
   unfold World.cell? at*
   cases c:w.heap[a.block]? with
   | none=>rw[c] at e;cases e
   | some o=>rw[c] at e;rw[d _ _ c];exact e
  rw[this]
 | none=>
  rw[e] at h
  simp only at h
  cases b:w.farLoad P a (m== .atomic) with
  | error s=>rw[b] at h;cases h
  | ok q=>
   rw[b] at h
   cases h
   refine ⟨rfl,fun w' d=>?_⟩
   have g:=Q9M d b
   cases f:w'.cell? a with
   | none=>simp only[g]
   | some x=>
    exfalso
    unfold World.farLoad at b
    unfold World.cell? at f
    cases c:w.heap[a.block]? with
    | none=>rw[c] at b;cases b
    | some o=>
     rw[d _ _ c] at f
     rw[c] at b
     cases o<;>first | cases f | (simp only at b;cases b)
theorem Q2D {s:Sem α} (h:Ya P s):Nj P s:=fun w v w1 e=>⟨(h w v w1 e).1,fun w' _=>(h w v w1 e).2 w'⟩
theorem Q6A (t:TypeId):Nj P (isAgg t):=by
 unfold isAgg
 refine Zj (Q2D (Vr t)) fun d=>?_
 split<;>exact Nx _
theorem Q1O (a:Addr): ∀(n i:Nat) (b:Array Value),Nj P (loadCellsFrom a i n b)
 | 0,i,b=>Nx _
 | n+1,i,b=>Zj (Q3b _ _) fun v=>Q1O a n (i+1) _
theorem Q5w (t:TypeId) (v:Value):Nj P (Instr.loadAt t v):=by
 unfold Instr.loadAt
 refine Zj ?_ fun a=>?_
 ·unfold Instr.sureAddr
  split
  ·exact Nx _
  ·exact Q6Q _
 ·unfold loadVar
  refine Zj (Q6A t) fun b=>?_
  split
  ·exact Zj (Zj (Q2D (Ih t)) fun _=>Nx _) fun n=>Zj (Q1O a n 0 #[]) fun cs=>Nx _
  ·exact Q3b _ _
def Ew (o:Oper):Bool:=match o.op with | .alloc .. =>true | _=>false
theorem Q83 {l:List Value} {o:Oper} {w:World} {K:Value→World→Prop} (h:Tl o=true) (c:U7 P l o w K): ∃v,K v w∧ ∀(w':World) b,(∀(i:Nat) o,w.heap[i]? =some o→w'.heap[i]? =some o)→b v w'→U7 P l o w' b:=by
 obtain ⟨d,p,m,pos,n,g⟩:=o
 cases p<;>(first | (simp[Tl] at h;done) | skip)<;>simp only[U7] at c⊢
 ·exact ⟨_,c,fun w' b _ a=>a⟩
 ·exact ⟨_,c,fun w' b _ a=>a⟩
 ·obtain ⟨v,w',e,f⟩:=Oz c
  obtain ⟨rfl,j⟩:=Q5w _ _ _ _ _ e
  exact ⟨v,f,fun w' b k a=>Df (j w' k) a⟩
 ·obtain ⟨v,w',e,f⟩:=Oz c
  obtain ⟨rfl,j⟩:=Hl _ _ _ _ _ _ e
  exact ⟨v,f,fun w' b k a=>Df (j w') a⟩
 ·obtain ⟨v,w',e,f⟩:=Oz c
  obtain ⟨rfl,j⟩:=He _ _ _ _ _ e
  exact ⟨v,f,fun w' b k a=>Df (j w') a⟩
theorem Q2w {γ δ:Type} {s:Sem γ} {f:γ→Sem δ} {w w':World} {v:δ} (h:(s>>=f).run P w= .ok v w'): ∃a w1,s.run P w= .ok a w1∧(f a).run P w1= .ok v w':=by
 rw[Sem.run_bind] at h
 cases b:s.run P w with
 | halt x w1=>rw[b] at h;simp[Result.andThen] at h
 | ok a w1=>rw[b] at h;exact ⟨a,w1,rfl,h⟩
theorem Q8U {γ:Type} {r:Unsupported}:Yi P (unsupported r:Sem γ):=fun w v w' h=>by simp[unsupported] at h
theorem Q4A {l:List Value} {o:Oper} {w:World} {K:Value→World→Prop} (h:Ew o=true) (m:U7 P l o w K): ∃v w',(∀(i:Nat) o,w.heap[i]? =some o→w'.heap[i]? =some o)∧K v w'∧ ∀b:Value→World→Prop,b v w'→U7 P l o w b:=by
 obtain ⟨d,p,D,pos,E,g⟩:=o
 cases p<;>(first | (simp[Ew] at h;done) | skip)
 simp only[U7] at m⊢
 obtain ⟨v,w',j,s⟩:=Oz m
 refine ⟨v,w',?_,s,fun b t=>Df j t⟩
 have a:=j
 unfold Instr.alloc zeroValue at a
 obtain ⟨z,w1,y,r⟩:=Q2w a
 have A:w1=w:=I9 (Cn _) (fun i=>by split;exact Zs _;exact Q8U) _ _ _ y
 subst A
 simp only at r
 obtain ⟨c,C,n,f⟩:=Q2w r
 simp only[Sem.run_pure,Result.ok.injEq] at f
 obtain ⟨_,rfl⟩:=f
 unfold newVar newRow at n
 obtain ⟨B,H,e,q⟩:=Q2w n
 simp only[Sem.run_pure,Result.ok.injEq] at q
 obtain ⟨_,rfl⟩:=q
 unfold newObj at e
 simp only[Sem.run,Result.ok.injEq] at e
 obtain ⟨_,rfl⟩:=e
 intro i o k
 have u:=(Array.getElem?_eq_some_iff.1 k).1
 simp only[Array.getElem?_push]
 rw[if_neg (by omega)]
 exact k
end
theorem Q4d {l:List Value} {o:Oper} {w:World} {K:Value→World→Prop} (h:Tl o=true) (e:U7 P l o w K): ∃v,K v w∧ ∀c,c v w→U7 P l o w c:=by
 obtain ⟨d,p,i,pos,j,g⟩:=o
 cases p<;>(first | (simp[Tl] at h;done) | skip)<;>simp only[U7] at e⊢
 ·exact ⟨_,e,fun c a=>a⟩
 ·exact ⟨_,e,fun c a=>a⟩
 ·obtain ⟨v,w',b,f⟩:=Oz e
  have:=Q46 _ _ _ _ _ b
  subst this
  exact ⟨v,f,fun c a=>Df b a⟩
 ·obtain ⟨v,w',b,f⟩:=Oz e
  have:=(Hl _ _ _ _ _ _ b).1
  subst this
  exact ⟨v,f,fun c a=>Df b a⟩
 ·obtain ⟨v,w',b,f⟩:=Oz e
  have:=(He _ _ _ _ _ b).1
  subst this
  exact ⟨v,f,fun c a=>Df b a⟩
theorem Q15 {l:List Value} {o:Oper} {w:World} {K:Value→World→Prop} (h:Q2u o=true) (c:U7 P l o w K): ∃v,K v w∧ ∀w' b,b v w'→U7 P l o w' b:=by
 obtain ⟨d,p,j,pos,k,g⟩:=o
 cases p<;>(first | (simp[Q2u] at h;done) | skip)<;>simp only[U7] at c⊢
 ·exact ⟨_,c,fun w' b a=>a⟩
 ·exact ⟨_,c,fun w' b a=>a⟩
 ·obtain ⟨v,w',e,f⟩:=Oz c
  obtain ⟨rfl,i⟩:=Hl _ _ _ _ _ _ e
  exact ⟨v,f,fun w' b a=>Df (i w') a⟩
 ·obtain ⟨v,w',e,f⟩:=Oz c
  obtain ⟨rfl,i⟩:=He _ _ _ _ _ e
  exact ⟨v,f,fun w' b a=>Df (i w') a⟩
end
structure Swap (ops : List Oper) (a b : Oper) : Prop where
  pa : A0 a.op = true
  pb : A0 b.op = true
  ga : a.guard = none
  ab : ∀ d, a.dst = some d → d ∉ N7 ops b ++ E4 b
  ba : ∀ d, b.dst = some d → d ∉ N7 ops a ++ E4 a
  dd : ∀ d, a.dst = some d → b.dst ≠ some d
  gb : ∀ j c, b.guard = some (j, c) → ((ops[j]?).bind (·.dst)).isSome = true
  rd : (Tl a = true ∧ (Tl b = true ∨ Ew b = true) ∧ b.guard = none ∨ Ew a = true ∧ Q2u b = true ∧ b.guard = none) ∨ Q2u a = true
section
variable {P : Program} {ops : List Oper} {J1 : List Value → World → Prop}
theorem Q1a {l:List Value} {d:Option Nat} {v:Value} {s:Nat} (h: ∀e,d=some e→e≠s):get (put l d v) s=get l s:=by
 cases d with
 | none=>rfl
 | some e=>simp only[put,get,List.getD_eq_getElem?_getD,List.getElem?_set_ne (h e rfl)]
theorem Q8k {l:List Value} {d e:Option Nat} {v u:Value} (h: ∀x,d=some x→e≠some x):put (put l d v) e u=put (put l e u) d v:=by
 cases d with
 | none=>rfl
 | some d=>cases e with
  | none=>rfl
  | some e=>simp only[put];exact List.set_comm _ _ (by intro a;subst a;exact h d rfl rfl)
theorem Q2M {o:Oper} {s:Nat} (a:Operand.tmp s∈o.op.operands):s∈E4 o:=by
 simp only[E4,List.mem_filterMap]
 exact ⟨.tmp s,by simpa using a,rfl⟩
theorem Q5B {a b:Oper} {R:List Oper} {l:List Value} {w:World} (Q:Swap ops a b) (h:Y2 P ops J1 (a::b::R) l w):Y2 P ops J1 (b::a::R) l w:=by
 obtain ⟨pa,W,Y,N,ba,U,Z,L⟩:=Q
 have p: ∀v,U7 P (put l a.dst v) b=U7 P l b:=fun v=>Nl W fun x C=>by
  cases x with
  | tmp s=>exact Q1a fun e y g=>N e y (List.mem_append_right _ (g▸Q2M C))
  | _=>rfl
 have n: ∀v,U7 P (put l b.dst v) a=U7 P l a:=fun v=>Nl pa fun x C=>by
  cases x with
  | tmp s=>exact Q1a fun e y g=>ba e y (List.mem_append_right _ (g▸Q2M C))
  | _=>rfl
 have m: ∀v u,put (put l b.dst u) a.dst v=put (put l a.dst v) b.dst u:=fun v u=>(Q8k U).symm
 simp only[Y2,Y] at h⊢
 cases k:b.guard with
 | none=>
  simp only[k] at h⊢
  rcases L with (⟨A,rb | rb,_⟩ | ⟨A,O,_⟩) | fa
  ·obtain ⟨z,f,i⟩:=Q4d A h
   rw[p] at f
   obtain ⟨B,r,o⟩:=Q4d rb f
   refine o _ ?_
   rw[n]
   exact i _ (by rw[m];exact r)
  ·obtain ⟨z,f,i⟩:=Q83 A h
   rw[p] at f
   obtain ⟨B,V,k,r,o⟩:=Q4A rb f
   refine o _ ?_
   rw[n]
   exact i V _ k (by rw[m];exact r)
  ·obtain ⟨z,wa,k,f,i⟩:=Q4A A h
   rw[p] at f
   obtain ⟨B,r,o⟩:=Q15 O f
   refine o w _ ?_
   rw[n]
   exact i _ (by rw[m];exact r)
  ·obtain ⟨z,f,i⟩:=Q15 fa h
   rw[p] at f
   refine B2 (fun B w' D=>?_) f
   rw[n]
   exact i w' _ (by rw[m];exact D)
 | some q=>
  obtain ⟨j,c⟩:=q
  rcases L with (⟨_,_,t⟩ | ⟨_,_,t⟩) | fa
  ·rw[k] at t;cases t
  ·rw[k] at t;cases t
  obtain ⟨d,M⟩:=Option.isSome_iff_exists.1 (Z j c k)
  have J:d∈N7 ops b:=by simp[N7,k,M]
  have X: ∀v,get (put l a.dst v) d=get l d:=fun v=>Q1a fun e y g=>N e y (List.mem_append_left _ (g▸J))
  simp only[k,M] at h⊢
  obtain ⟨z,f,i⟩:=Q15 fa h
  rw[p,X] at f
  refine Tt ((Us f).imp (fun ⟨E,H⟩=>⟨E,B2 (fun B w' D=>?_) H⟩) (fun ⟨E,H⟩=>⟨E,?_⟩))
  ·rw[n];exact i w' _ (by rw[m];exact D)
  ·rw[n];exact i w _ (by rw[m];exact H)
theorem Q0D {a:Oper} {R i:List Oper} {l:List Value} {w:World} (b: ∀l w,Y2 P ops J1 R l w→Y2 P ops J1 i l w) (h:Y2 P ops J1 (a::R) l w):Y2 P ops J1 (a::i) l w:=by
 simp only[Y2] at h⊢
 cases m:a.guard with
 | none=>simp only[m] at h⊢;exact B2 (fun v w e=>b _ _ e) h
 | some q=>
  obtain ⟨j,c⟩:=q
  simp only[m] at h⊢
  cases k:(ops[j]?).bind (·.dst) with
  | none=>simp only[k] at h⊢;exact b _ _ h
  | some d=>
   simp only[k] at h⊢
   exact Tt ((Us h).imp (fun ⟨f,g⟩=>⟨f,B2 (fun n w' e=>b _ _ e) g⟩) (fun ⟨f,g⟩=>⟨f,b _ _ g⟩))
theorem Te {q:Oper} {R:List Oper}: ∀(A:List Oper) {l:List Value} {w:World},(∀a∈A,Swap ops a q)→Y2 P ops J1 (A++q::R) l w→Y2 P ops J1 (q::(A++R)) l w
 | [],_,_,_,h=>h
 | a::A,l,w,c,h=>Q5B (c a (by simp)) (Q0D (R:=A++q::R) (fun _ _ h=>Te A (fun b d=>c b (by simp[d])) h) h)
theorem Lb: ∀(A:List Oper) {B:List Oper} {l:List Value} {w:World},Y2 P ops J1 (A++B) l w=Y2 P ops (fun l w=>Y2 P ops J1 B l w) A l w
 | [],B,l,w=>rfl
 | a::A,B,l,w=>by
  simp only[List.cons_append,Y2]
  split
  ·congr 1;funext v w;exact Lb A
  ·split
   ·congr 1;funext v w;exact Lb A
   ·exact Lb A
theorem Q7y {A B b:List Oper} {l:List Value} {w:World} (c: ∀l w,Y2 P ops J1 B l w→Y2 P ops J1 b l w): ∀{l:List Value} {w:World},Y2 P ops J1 (A++B) l w→Y2 P ops J1 (A++b) l w:=by
 induction A with
 | nil=>exact fun h=>c _ _ h
 | cons a A d=>exact fun h=>Q0D (fun _ _ h=>d h) h
theorem Q6l (os:List Oper) (bit:Nat→Nat→Bool) (i: ∀p q a b,p<q→os[p]? =some a→os[q]? =some b→bit p q=false→Swap ops a b):
 ∀(n:Nat) (J1:List Value→World→Prop) (L:List Nat) (l:List Value) (w:World),L.Nodup→L.length=n→(∀q∈L,q<n)→n≤os.length→L.Pairwise (fun q p=>p<q→bit p q=false)→
  Y2 P ops J1 (os.take n) l w→Y2 P ops J1 (L.filterMap (os[·]?)) l w
 | 0,J1,L,l,w,u,y,g,z,C,h=>by
  have:L=[]:=List.eq_nil_of_length_eq_zero y
  subst this;exact h
 | n+1,J1,L,l,w,u,y,g,z,C,h=>by
  have U:n∈L:=Classical.byContradiction fun s=>by
   have O:=R8 n L u fun k J=>by
    have j:=g k J
    have M:k≠n:=fun e=>s (e▸J)
    omega
   omega
  obtain ⟨A,B,rfl⟩:=List.append_of_mem U
  have d:n<os.length:=by omega
  have c:os[n]? =some os[n]:=List.getElem?_eq_getElem d
  have o:=List.nodup_append.1 u
  have E:n∉B:=(List.nodup_cons.1 o.2.1).1
  have D:n∉A:=fun e=>o.2.2 n e n (by simp) rfl
  have N:os.take (n+1)=os.take n++[os[n]]:=(List.take_append_getElem d).symm
  rw[N,Lb] at h
  have t: ∀q∈A++B,q<n:=fun q H=>by
   have O:q<n+1:=g q (by rcases List.mem_append.1 H with h | h<;>simp[h])
   have j:q≠n:=fun e=>by
    subst e
    rcases List.mem_append.1 H with h | h
    ·exact D h
    ·exact E h
   omega
  have f:(A++B).Sublist (A++n::B):=List.Sublist.append (List.Sublist.refl A) (List.sublist_cons_self n B)
  have j:=Q6l os bit i n _ (A++B) l w (u.sublist f) (by simp at y⊢;omega) t (by omega) (C.sublist f) h
  rw[←Lb] at j
  rw[List.filterMap_append,List.append_assoc] at j
  rw[List.filterMap_append,List.filterMap_cons,c]
  refine Q7y (l:=l) (w:=w) (fun l w M=>?_) j
  have:=Te (R:=[]) (B.filterMap (os[·]?)) (fun a V=>?_) M
  ·rwa [List.append_nil] at this
  ·obtain ⟨p,m,v⟩:=List.mem_filterMap.1 V
   have r:=t p (List.mem_append_right _ m)
   refine i p n a _ r v c ?_
   have Q:=(List.pairwise_append.1 C).2.1
   exact (List.pairwise_cons.1 Q).1 p m r
end
def Q1m (ops:List Oper) (a b:Oper):Bool:=
 (match a.guard with | none=>true | some _=>false)&&(match b.guard with | none=>true | some (j,_)=>match (ops[j]?).bind (·.dst) with | some _=>true | none=>false)&&
  (((Tl a&&(Tl b||Ew b)||Ew a&&Q2u b)&&(match b.guard with | none=>true | some _=>false))||Q2u a)
def Q6I (ops:List Oper) (a:List Nat):Bool:=
 ops.any Q4h&&ops.any Pt&&(List.range ops.length).all fun q=>(List.range q).all fun p=>H8 ops a p q||Q1m ops (ops.getD (a.getD p 0) default) (ops.getD (a.getD q 0) default)
theorem My {α:Type} {R:α→α→Prop}: ∀(a b:List α) {L:List α},L=b++a→(∀b q a,L=b++q::a→ ∀p∈a,R q p)→a.Pairwise R
 | [],_,_,_,_=>List.Pairwise.nil
 | q::a,b,L,c,h=>List.pairwise_cons.2 ⟨h b q a c,My a (b++[q]) (by rw[c];simp) h⟩
theorem Q2i {P:Program} {ops:Array Oper} {J1:List Value→World→Prop} {l0:List Value} {ord L:List Nat} {bit:Nat→Nat→Bool} (ha:Arr ops.toList ord L) (hosl:(Y5 ops.toList ord).length=ops.toList.length) (hn:Qh (O3 (Y5 ops.toList ord))=true) (hbit: ∀p q,H8 ops.toList ord p q=true→bit p q=true)
 (hsq: ∀p q,p<q→q<ops.toList.length→(bit p q||Q1m ops.toList (ops.toList.getD (ord.getD p 0) default) (ops.toList.getD (ord.getD q 0) default))=true) (hpair:L.Pairwise fun q p=>p<q→bit p q=false) (w:World)
 (h:Y2 P ops.toList J1 (Y5 ops.toList ord) l0 w):Y2 P ops.toList J1 (L.filterMap ((Y5 ops.toList ord)[·]?)) l0 w:=by
 refine Q6l (Y5 ops.toList ord) bit (fun p q a b' hpq hpa hqb hb=>?_) _ J1 L l0 w ha.hn rfl (fun q hq=>by rw[ha.hLl];exact ha.hlt q hq) (by rw[ha.hLl];exact Nat.le_refl _) hpair (by rw[ha.hLl,List.take_length];exact h)
 have hql:q<ops.toList.length:=by have:=(List.getElem?_eq_some_iff.1 hqb).1;omega
 have hpl:p<ops.toList.length:=by omega
 have hget: ∀i o,(Y5 ops.toList ord)[i]? =some o→ops.toList.getD (ord.getD i 0) default=o:=by
  intro i o hi
  unfold Y5 at hi
  rw[List.getElem?_map] at hi
  cases ho:ord[i]? with
  | none=>rw[ho] at hi;cases hi
  | some x=>
   rw[ho] at hi
   simp only[Option.map_some,Option.some.injEq] at hi
   rw[List.getD_eq_getElem?_getD (l:=ord),ho];exact hi
 have hnc:(P1 a b'||P1 b' a)=false:=by
  cases hx:P1 a b'||P1 b' a with
  | false=>rfl
  | true=>rw[hbit p q (ha.hclash p q a b' hpq hpa hqb hx)] at hb;cases hb
 rw[Bool.or_eq_false_iff] at hnc
 have hs:=hsq p q hpq hql
 rw[hb,Bool.false_or,hget p a hpa,hget q b' hqb] at hs
 simp only[Q1m,Bool.and_eq_true,Bool.or_eq_true] at hs
 obtain ⟨⟨g1,g2⟩,g3⟩:=hs
 have hga:a.guard=none:=by
  cases hx:a.guard with
  | none=>rfl
  | some _=>rw[hx] at g1;cases g1
 have c1: ∀d,a.dst=some d→d∉E4 b'∧b'.dst≠some d:=fun d hd=>by
  have:=hnc.1
  unfold P1 at this
  rw[hd] at this
  simp only[Bool.or_eq_false_iff] at this
  exact ⟨fun hm=>by simp[hm] at this,fun hm=>by simp[hm] at this⟩
 have c2: ∀d,b'.dst=some d→d∉E4 a:=fun d hd=>by
  have:=hnc.2
  unfold P1 at this
  rw[hd] at this
  simp only[Bool.or_eq_false_iff] at this
  exact fun hm=>by simp[hm] at this
 refine ⟨ha.hpl a (List.mem_of_getElem? hpa),ha.hpl b' (List.mem_of_getElem? hqb),hga,fun d hd'=>?_,fun d hd'=>?_,fun d hd'=>(c1 d hd').2,fun j c hbg=>?_,?_⟩
 ·rw[List.mem_append,not_or]
  refine ⟨fun hm=>?_,(c1 d hd').1⟩
  unfold N7 at hm
  cases hbg:b'.guard with
  | none=>rw[hbg] at hm;simp at hm
  | some q0=>
   obtain ⟨j,c⟩:=q0
   obtain ⟨p',hp',hpj,hbt⟩:=ha.hg q b' j c hqb hbg
   rw[hbg] at hm
   simp only at hm
   cases hjd:ops.toList[j]?.map (·.dst) with
   | none=>
    cases hj:ops.toList[j]? with
    | none=>rw[hj] at hm;simp at hm
    | some oj=>rw[hj] at hjd;cases hjd
   | some dj=>
    cases hj:ops.toList[j]? with
    | none=>rw[hj] at hjd;cases hjd
    | some oj=>
     rw[hj] at hm hpj
     simp only[Option.bind_some] at hm
     cases hdj:oj.dst with
     | none=>rw[hdj] at hm;simp at hm
     | some d2=>
      rw[hdj] at hm
      simp only[List.mem_singleton] at hm
      subst hm
      have:=Xe (Y5 ops.toList ord) hn p' p oj a d hpj hpa hdj hd'
      subst this
      rw[hbit _ _ hbt] at hb;cases hb
 ·rw[List.mem_append,not_or]
  exact ⟨fun hm=>by simp[N7,hga] at hm,c2 d hd'⟩
 ·rw[hbg] at g2
  simp only at g2
  cases hx:(ops.toList[j]?).bind (·.dst) with
  | none=>rw[hx] at g2;cases g2
  | some _=>rfl
 ·rcases g3 with ⟨g3,g5⟩ | g3
  ·have hn:b'.guard=none:=by
    cases hx:b'.guard with
    | none=>rfl
    | some _=>rw[hx] at g5;cases g5
   exact .inl (g3.imp (fun g=>⟨g.1,g.2,hn⟩) fun g=>⟨g.1,g.2,hn⟩)
  ·exact .inr g3
theorem X1A (P:Program) (ops:Array Oper) (J1:List Value→World→Prop) (k:List Value) (a:Jz ops.toList k.length=true) (e:Q6I ops.toList (L6 ops.toList)=true)
 (b:Bool) (t:Nat) (w:World) (h:Y2 P ops.toList J1 (Y5 ops.toList (L6 ops.toList)) k w):Y2 P ops.toList J1 ((Region.schedule b ops t).filterMap (ops[·]?)) k w:=by
 obtain ⟨L,j,i,g⟩:=Q3h a b t
 simp only[Jz,Bool.and_eq_true] at a
 obtain ⟨⟨⟨⟨⟨E,C⟩,B⟩,D⟩,⟨y,v⟩,z⟩,s⟩:=a
 generalize L6 ops.toList=d at*
 rw[j]
 refine Q2i i g B (bit:=H8 ops.toList d) (fun _ _ h=>h) (fun p q c n=>?_) ?_ w h
 ·simp only[Q6I,Bool.and_eq_true] at e
  exact List.all_eq_true.1 (List.all_eq_true.1 e.2 q (by simpa using n)) p (by simpa using c)
 ·refine My L [] (L:=L) rfl fun l q f m p r c=>?_
  cases A:H8 ops.toList d p q with
  | false=>rfl
  | true=>
   have u:=i.hC l q f m p A (i.hlt p (by rw[m];simp[r]))
   have o:=i.hn
   rw[m] at o
   exact absurd rfl ((List.nodup_append.1 o).2.2 p u p (by simp[r]))
def X1i (b:List Nat) (a c:Nat):List Nat:=((b.erase a).takeWhile (· !=c))++a::((b.erase a).dropWhile (· !=c))
def Q3M (ops:List Oper) (d b:List Nat) (a c:Nat):Bool:=
 Q3L ops b&&Qh (O3 (Y5 ops b))&&
  ((List.range ops.length).all fun q=>(List.range q).all fun p=>(H8 ops d p q||(d.getD p 0==c&&d.getD q 0==a))||Q1m ops (ops.getD (d.getD p 0) default) (ops.getD (d.getD q 0) default))&&
  ((List.range ops.length).all fun q=>(List.range q).all fun p=>(H8 ops b p q||(b.getD p 0==a&&b.getD q 0==c))||Q1m ops (ops.getD (b.getD p 0) default) (ops.getD (b.getD q 0) default))
def Q6Y (ops:List Oper):Option (List Nat):=
 match ops.any Q4h&&ops.any Pt&&ops.any Ew with
 | true=>match ops.findIdx Ew !=ops.findIdx Pt&&Q3M ops (L6 ops) (X1i (L6 ops) (ops.findIdx Ew) (ops.findIdx Pt)) (ops.findIdx Ew) (ops.findIdx Pt) with
  | true=>some (X1i (L6 ops) (ops.findIdx Ew) (ops.findIdx Pt))
  | false=>none
 | false=>none
theorem X0c {ops:Array Oper} {a g:List Nat} {x y:Nat} (U:g.Nodup) (w: ∀i∈g,i<ops.toList.length∧a.getD (a.idxOf i) 0=i) (r:Arr ops.toList a (g.map (a.idxOf ·))) (n: ∀e o c,g≠e++y::(o++x::c)):
 (g.map (a.idxOf ·)).Pairwise fun q p=>p<q→(H8 ops.toList a p q||(a.getD p 0==x&&a.getD q 0==y))=false:=by
 refine My _ [] (L:=g.map (a.idxOf ·)) rfl fun e q c b p l E=>?_
 rw[Bool.or_eq_false_iff]
 constructor
 ·cases R:H8 ops.toList a p q with
  | false=>rfl
  | true=>
   have h:=r.hC e q c b p R (r.hlt p (by rw[b];simp[l]))
   have f:=r.hn
   rw[b] at f
   exact absurd rfl ((List.nodup_append.1 f).2.2 p h p (by simp[l]))
 ·rw[Bool.and_eq_false_iff]
  refine Classical.byContradiction fun d=>?_
  rw[not_or] at d
  obtain ⟨h,f⟩:=d
  have h:a.getD p 0=x:=by simpa using h
  have f:a.getD q 0=y:=by simpa using f
  rw[List.map_eq_append_iff] at b
  obtain ⟨j,m,N,_,z⟩:=b
  rw[List.map_eq_cons_iff] at z
  obtain ⟨i,t,C,D,s⟩:=z
  rw[←s,List.mem_map] at l
  obtain ⟨k,O,u⟩:=l
  obtain ⟨M,H,J⟩:=List.append_of_mem O
  subst C N J
  have A:=(w i (by simp)).2
  have v:=(w k (by simp)).2
  rw[D] at A
  rw[u] at v
  have B:i=y:=by rw[←A];exact f
  have Q:k=x:=by rw[←v];exact h
  subst B Q
  exact n j M H rfl
theorem X0X (P:Program) (ops:Array Oper) (J1:List Value→World→Prop) (D:List Value) (C:Jz ops.toList D.length=true) {d:List Nat} {a c:Nat} (ac:a≠c) (s:Q3M ops.toList (L6 ops.toList) d a c=true)
 (b:Bool) (t:Nat) (w:World) (X:Y2 P ops.toList J1 (Y5 ops.toList (L6 ops.toList)) D w) (Y:Y2 P ops.toList J1 (Y5 ops.toList d) D w):Y2 P ops.toList J1 ((Region.schedule b ops t).filterMap (ops[·]?)) D w:=by
 simp only[Jz,Bool.and_eq_true] at C
 obtain ⟨⟨⟨⟨⟨W,U⟩,hn⟩,hd⟩,⟨u,o⟩,v⟩,B⟩:=C
 simp only[Q3M,Bool.and_eq_true] at s
 obtain ⟨⟨⟨k,J⟩,Q⟩,E⟩:=s
 by_cases A: ∃g i f,Region.schedule b ops t=g++a::(i++c::f)
 ·obtain ⟨H,r,N,n,M⟩:=Bi W U u o v k b t
  rw[H]
  refine Q2i r N J (bit:=fun p q=>H8 ops.toList d p q||(d.getD p 0==a&&d.getD q 0==c)) (fun p q h=>by rw[h];rfl) (fun p q j l=>?_) (X0c n M r fun g i f e=>?_) w Y
  ·exact List.all_eq_true.1 (List.all_eq_true.1 E q (by simpa using l)) p (by simpa using j)
  ·obtain ⟨V,R,O,e'⟩:=A
   have z: ∀{L p m q:List Nat} {x y:Nat},L=p++x::(m++y::q)→L[p.length]? =some x∧L[p.length+1+m.length]? =some y∧p.length+1+m.length<L.length:=by
    rintro L p m q x y rfl
    refine ⟨by simp,?_,by simp;omega⟩
    rw[List.getElem?_append_right (by omega),show p.length+1+m.length-p.length=m.length+1 by omega,List.getElem?_cons_succ]
    simp
   obtain ⟨Z,g2,g3⟩:=z e
   obtain ⟨g4,g5,g6⟩:=z e'
   have k1:=(List.getElem?_inj (by omega) n).1 (Z.trans g5.symm)
   have k2:=(List.getElem?_inj (by omega) n).1 (g2.trans g4.symm)
   omega
 ·obtain ⟨H,r,N,n,M⟩:=Bi W U u o v B b t
  rw[H]
  refine Q2i r N hn (bit:=fun p q=>H8 ops.toList (L6 ops.toList) p q||((L6 ops.toList).getD p 0==c&&(L6 ops.toList).getD q 0==a)) (fun p q h=>by rw[h];rfl) (fun p q j l=>?_) (X0c n M r fun g i f e=>A ⟨g,i,f,e⟩) w X
  exact List.all_eq_true.1 (List.all_eq_true.1 Q q (by simpa using l)) p (by simpa using j)
theorem X27 (P:Program) (ops:Array Oper) (J1:List Value→World→Prop) (d:List Value) (f:Jz ops.toList d.length=true) {a:List Nat} (c:Q6Y ops.toList=some a)
 (b:Bool) (t:Nat) (w:World) (h:Y2 P ops.toList J1 (Y5 ops.toList (L6 ops.toList)) d w∧Y2 P ops.toList J1 (Y5 ops.toList a) d w):Y2 P ops.toList J1 ((Region.schedule b ops t).filterMap (ops[·]?)) d w:=by
 unfold Q6Y at c
 split at c
 ·split at c
  ·rename_i e
   cases c
   rw[Bool.and_eq_true] at e
   exact X0X P ops J1 d f (by simpa using e.1) e.2 b t w h.1 h.2
  ·cases c
 ·cases c
theorem X04: ∃f:World→(World→Prop)→Prop,f=fun w A=>A w.drew:=⟨_,rfl⟩
noncomputable def sq:World→(World→Prop)→Prop:=Classical.choose X04
theorem Q9Q:sq=fun w A=>A w.drew:=Classical.choose_spec X04
def Q3B:List Ent→Nat→Ent→(List Ent→Prop)→Prop
 | [],_,_,k=>k []
 | _::l,0,e,k=>k (e::l)
 | x::l,n+1,e,k=>Q3B l n e (fun l'=>k (x::l'))
def Q1l (S:List Ent) (d:Option Nat) (e:Ent) (k:List Ent→Prop):Prop:=
 match d with
 | some d=>Q3B S d e k
 | none=>k S
def Q7o:List Ent→Nat→(Ent→Prop)→Prop
 | [],_,k=>k (.val undef)
 | x::_,0,k=>k x
 | _::l,n+1,k=>Q7o l n k
def Q8j (S:List Ent) (x:Operand) (k:Ent→Prop):Prop:=
 match x with
 | .tmp t=>Q7o S t k
 | .const v=>k (.val v)
 | .global g=>k (.val (.pointer (some ⟨g,0,none⟩)))
 | .func f=>k (.val (.func (.func f) #[] #[]))
def Q02 (u:Nat→Value):List Ent→(List Value→Prop)→Prop
 | [],k=>k []
 | .val v::S,k=>Q02 u S (fun l=>k (v::l))
 | .ref j::S,k=>Q02 u S (fun l=>k (u j::l))
def Q4r:List Value→(List Ent→Prop)→Prop
 | [],k=>k []
 | v::l,k=>Q4r l (fun S=>k (.val v::S))
theorem Q3U: ∀(S:List Ent) (n:Nat) (e:Ent) (k:List Ent→Prop),Q3B S n e k=k (Q1b S n e)
 | [],_,_,_=>rfl
 | _::_,0,_,_=>rfl
 | _::l,n+1,e,k=>by simp only[Q3B,Q1b,Q3U l n e]
theorem Q0T (S:List Ent) (d:Option Nat) (e:Ent) (k:List Ent→Prop):Q1l S d e k=k (putE S d e):=by
 cases d with
 | none=>rfl
 | some d=>exact Q3U S d e k
theorem Q4U: ∀(S:List Ent) (n:Nat) (k:Ent→Prop),Q7o S n k=k (getE S n)
 | [],_,_=>rfl
 | _::_,0,_=>rfl
 | _::l,n+1,k=>Q4U l n k
theorem Q8E (S:List Ent) (x:Operand) (k:Ent→Prop):Q8j S x k=k (entOf S x):=by
 cases x with
 | tmp t=>exact Q4U S t k
 | _=>rfl
theorem Q0X (u:Nat→Value): ∀(S:List Ent) (k:List Value→Prop),Q02 u S k=k (F9 u S)
 | [],_=>rfl
 | .val v::S,k=>by simp only[Q02,Q0X u S];rfl
 | .ref j::S,k=>by simp only[Q02,Q0X u S];rfl
theorem Q2m: ∀(l:List Value) (k:List Ent→Prop),Q4r l k=k (l.map .val)
 | [],_=>rfl
 | v::l,k=>by simp only[Q4r,Q2m l];rfl
noncomputable def Wh (P:Program) (r:Bool) (ops:List Oper) (T:World→World→Prop) (B:World→Prop) (J1:List Value→World→Prop) (tail:List Oper):Nat→List Oper→List Ent→En→List Nat→Prop
 | _,[],S,b,done=>Ed done (fun _=>undef) fun u=>Sh r fun c=> ∀w,B w→Aw b u c w (Q02 u S fun l=>B9 P ops J1 tail l w) done
 | i,o::a,S,b,done=>
  match mv o with
  | some x=>Q8j S x fun e=>Q1l S o.dst e fun S=>Wh P r ops T B J1 tail (i+1) a S b done
  | none=>match Q4h o with
   | true=>Q1c T (fun φ=>Ed (refs ops S o) (fun _=>undef) fun u=>Sh r fun c=> ∀w,B w→Ea b u c w (runOp P ops (F9 u S) o w (dk T (φ ((refs ops S o).map u)) w)) (refs ops S o))
    (fun φ=>Q1l S o.dst (.ref i) fun d=>Wh P r ops T B J1 tail (i+1) a d (b++[(i,refs ops S o,fun xs (_:Iv)=>φ xs)]) (done++[i]))
   | false=>match Q6N r o with
    | true=>Q26 T (fun φ=>Ed (refs ops S o) (fun _=>undef) fun u=>Sh r fun c=> ∀w,B w→Ea b u c w (runOp P ops (F9 u S) o w (dkR T φ w)) (refs ops S o))
     (fun φ=>Q1l S o.dst (.ref i) fun d=>Wh P r ops T B J1 tail (i+1) a d (b++[(i,[],fun (_:List Value)=>φ)]) (done++[i]))
    | false=>Q6 T (fun φ=>Ed (refs ops S o) (fun _=>undef) fun u=>Sh r fun c=> ∀w,B w→Ea b u c w (runOp P ops (F9 u S) o w (dk T φ w)) (refs ops S o))
     (fun φ=>Q1l S o.dst (.ref i) fun d=>Wh P r ops T B J1 tail (i+1) a d (b++[(i,[],fun (_:List Value) (_:Iv)=>φ)]) (done++[i]))
theorem Ob (P:Program) (r:Bool) (ops:List Oper) (T:World→World→Prop) (B:World→Prop) (J1:List Value→World→Prop) (tail:List Oper): ∀(a:List Oper) (i:Nat) (S:List Ent) (b:En) (done:List Nat),
 Wh P r ops T B J1 tail i a S b done=chain P r ops T B J1 tail i a S b done
 | [],i,S,b,done=>by simp only[Wh,chain,Q0X]
 | o::a,i,S,b,done=>by
  simp only[Wh,chain]
  split
  ·rw[Q8E,Q0T,Ob]
  ·split
   ·congr 1
    funext φ
    rw[Q0T,Ob]
   ·split<;>
    ·congr 1
     funext φ
     rw[Q0T,Ob]
def X2k (ops:List Oper):Bool:=ops.any fun o=>(match o.op with | .build .. =>true | _=>false)&&decide (2≤((E4 o).filter fun s=>ops.any fun c=>Pt c&&c.dst==some s).length)
noncomputable def Q8d (P:Program) (ops:List Oper) (J1:List Value→World→Prop) (l:List Value) (w:World):Prop:=
 drR w fun T B=>Q4r l fun S=>Wh P true ops T B J1 ((Y5 ops (L6 ops)).drop (Wb ops (L6 ops) ops.length)) 0 ((Y5 ops (L6 ops)).take (Wb ops (L6 ops) ops.length)) S [] []
noncomputable def X0g (P:Program) (ops:List Oper) (J1:List Value→World→Prop) (l:List Value) (w:World):Prop:=
 dr w fun T B=>Q4r l fun S=>Wh P false ops T B J1 ((Y5 ops (L6 ops)).drop (Wb ops (L6 ops) ops.length)) 0 ((Y5 ops (L6 ops)).take (Wb ops (L6 ops) ops.length)) S [] []
def Q0d (a b:List Nat):Bool:=a.all (b.contains ·)&&b.all (a.contains ·)
theorem Ec {a b:List Nat} (h:Q0d a b=true) (i:Nat):a.contains i=b.contains i:=by
 simp only[Q0d,Bool.and_eq_true,List.all_eq_true] at h
 rw[Bool.eq_iff_iff]
 constructor
 ·intro c;exact h.1 i (by simpa using c)
 ·intro c;exact h.2 i (by simpa using c)
abbrev V2:=List (Option (List Nat×List Nat))
def V2.slots (a:V2):List (Option (List Nat)):=a.map (·.map (·.1))
theorem V2.slots_get (a:V2) (k:Nat):a.slots.getD k none=(a.getD k none).map (·.1):=by
 simp only[V2.slots,List.getD_eq_getElem?_getD,List.getElem?_map]
 cases a[k]? <;>rfl
noncomputable def Ul (P:Program) (a:V2) (b:List (Option (List Nat))):Nat→Code→Ol→List Value→World→Prop
 | _, .skip,Q,l,w=>Q .normal l w
 | _, .label _,Q,l,w=>Q .normal l w
 | _, .exit id,Q,l,w=>Q (.exit id) l w
 | _, .ret,Q,l,w=>Q .ret l w
 | _, .region _ ops false,Q,l,w=>B9 P ops.toList (fun l w=>Q .normal l w) ops.toList l w
 | _, .region _ ops true,Q,l,w=>match Jz ops.toList l.length with
  | true=>match Q6I ops.toList (L6 ops.toList) with
   | true=>sq w fun w=>B9 P ops.toList (fun l w=>Q .normal l w) (Y5 ops.toList (L6 ops.toList)) l w
   | false=>match Q6Y ops.toList with
    | some h=>sq w fun w=>B9 P ops.toList (fun l w=>Q .normal l w) (Y5 ops.toList (L6 ops.toList)) l w∧B9 P ops.toList (fun l w=>Q .normal l w) (Y5 ops.toList h) l w
    | none=>match X2k ops.toList with
     | true=>Q8d P ops.toList (fun l w=>Q .normal l w) l w
     | false=>X0g P ops.toList (fun l w=>Q .normal l w) l w
  | false=>False
 | k, .seq x y,Q,l,w=>match a.getD k none with
  | none=>Ul P a b (k+1) x (thn (fun l w=>Ul P a b (k+1+P0 x) y Q l w) Q) l w
  | some (f,g)=>match Q0d g (W9 b (k+1) x) with
   | true=>jn w (fun J w=>Ul P a b (k+1) x (thn (fun l' w'=>J (Lu l' f) w') Q) l w)
    (fun z d w=>Ba f g z d 0 l fun l=>Ul P a b (k+1+P0 x) y Q l w)
   | false=>False
 | k, .cond c x y,Q,l,w=>X1 (ev l c) (Ul P a b k x Q l w) (Ul P a b (k+P0 x) y Q l w)
 | k, .block id c,Q,l,w=>Ul P a b k c (Q1H id Q) l w
 | k, .loop c,Q,l,w=>match a.getD k none with
  | none=>False
  | some (f,g)=>match Q0d g (W9 b (k+1) c) with
   | true=>lp (Lu l f) w (fun e x d w=>Ba f g x d 0 l fun l=>Ul P a b (k+1) c (thn (fun l' w'=>e (Lu l' f) w') Q) l w)
   | false=>False
 | _,_,_,_,_=>False
theorem Tw {next a:List Value→World→Prop} {Q b:Ol} (d: ∀l w,next l w→a l w) (c: ∀e l w,Q e l w→b e l w): ∀e l w,thn next Q e l w→thn a b e l w:=by
 intro e l w h;cases e<;>first | exact d _ _ h | exact c _ _ _ h
theorem Q9h (P:Program) (q:V2) (c:Code): ∀(k:Nat) (Q j:Ol) (l:List Value) (w:World),(∀e l w,Q e l w→j e l w)→
 Ul P q q.slots k c Q l w→Mg P q.slots k c j l w:=by
 induction c with
 | skip=>intro k Q j l w g h;exact g _ _ _ h
 | label n=>intro k Q j l w g h;exact g _ _ _ h
 | exit id=>intro k Q j l w g h;exact g _ _ _ h
 | ret=>intro k Q j l w g h;exact g _ _ _ h
 | goto n=>intro k Q j l w g h;exact h.elim
 | refuse s=>intro k Q j l w g h;exact h.elim
 | scope c=>intro k Q j l w g h;exact h.elim
 | rangeFunc f p a b=>intro k Q j l w g h;exact h.elim
 | region id ops C=>
  intro k Q j l w g h
  cases C with
  | true=>
   simp only[Ul] at h
   split at h
   ·rename_i r
    intro t
    have A:Y2 P ops.toList (fun l w=>Q .normal l w) ((Region.schedule (P.follows .mixedOrders) ops t).filterMap (ops[·]?)) l w.drew:=by
     split at h
     ·rename_i N
      simp only[Q9Q,De] at h
      exact X1A P ops _ l r N _ t _ h
     ·split at h
      ·rename_i Z O
       simp only[Q9Q,De] at h
       exact X27 P ops _ l r O _ t _ h
      ·split at h
       ·simp only[Q8d,Q8n,Q4t,Q2m,Ob] at h
        obtain ⟨T,B,W,U,hM,h⟩:=h
        exact Q6o P true ops T B _ l r U hM h (P.follows .mixedOrders) t w.drew W
       ·simp only[X0g,Q9R,Q6y,Q2m,Ob] at h
        obtain ⟨T,B,W,U,h⟩:=h
        exact Q6o P false ops T B _ l r U (fun _ _ _=>Nat.le_refl _) h (P.follows .mixedOrders) t w.drew W
    refine Yo P _ _ _ (O3 ops.toList) l _ _ _ ?_ (I5.refl _ _) (fun l w X _=>g _ _ _ X) A
    intro o E d A
    simp only[List.mem_filterMap] at E
    obtain ⟨i,_,hi⟩:=E
    simp only[O3,List.contains_eq_mem,List.mem_filterMap,decide_eq_true_eq]
    exact ⟨o,by simpa using Array.mem_of_getElem? hi,A⟩
   ·exact h.elim
  | false=>
   simp only[Ul] at h
   rw[De] at h
   refine Yo P _ _ _ (O3 ops.toList) l _ _ _ ?_ (I5.refl _ _) (fun l w X _=>g _ _ _ X) h
   intro o E d A
   simp only[O3,List.contains_eq_mem,List.mem_filterMap,decide_eq_true_eq]
   exact ⟨o,E,A⟩
 | seq x y u m=>
  intro k Q j l w g h
  simp only[Ul,Mg] at h⊢
  rw[V2.slots_get]
  split at h
  ·rename_i v
   simp only[v,Option.map_none]
   exact u _ _ _ _ _ (Tw (fun l w h=>m _ _ _ _ _ g h) g) h
  ·rename_i Y wr v
   simp only[v,Option.map_some]
   split at h
   ·rename_i L
    obtain ⟨J,h1,O⟩:=Q3T h
    refine Xy J (u _ _ _ _ _ (Tw (fun l w h=>h) g) h1) fun z d w hz=>?_
    have h3:=O z d w hz
    rw[Q2V,Rf _ _ _ (Ec L)] at h3
    exact m _ _ _ _ _ g h3
   ·exact h.elim
 | cond c x y u m=>
  intro k Q j l w g h
  exact Q3i (u k _ _ _ _ g) (m _ _ _ _ _ g) h
 | block id c R=>
  intro k Q j l w g h
  refine R k _ _ _ _ ?_ h
  intro e l' w' D
  cases e with
  | exit ah=>simp only[Q1H] at D⊢;split<;>rename_i M<;>simp only[M,if_true,if_false] at D<;>exact g _ _ _ D
  | _=>exact g _ _ _ D
 | loop c R=>
  intro k Q j l w g h
  simp only[Ul,Mg] at h⊢
  split at h
  ·exact h.elim
  ·rename_i Y wr v
   have V:(q.slots.getD k none).getD []=Y:=by rw[V2.slots_get,v];rfl
   split at h
   ·rename_i L
    subst V
    refine Q2E (fun H x d w hb=>?_) h
    rw[Q2V,Rf _ _ _ (Ec L)] at hb
    exact R _ _ _ _ _ (Tw (fun l w h=>h) g) hb
   ·exact h.elim
def Q1D (P:Program) (t:TypeId) (a:Value) (w:World) (K:Value→Prop):Prop:= ∃v,(do loadVar t (←asAddr a):Sem Value).run P w= .ok v w∧K v
theorem Q1V: ∃f:Program→TypeId→Value→World→(Value→Prop)→Prop,f=Q1D:=⟨_,rfl⟩
noncomputable def U5:Program→TypeId→Value→World→(Value→Prop)→Prop:=Classical.choose Q1V
theorem Q1s:U5=Q1D:=Classical.choose_spec Q1V
noncomputable def Q3X (P:Program) (l:List Value) (K:List Value→World→Prop):List ResultVar→List Value→World→Prop
 | [],b,w=>K b.reverse w
 | .tmp t::c,b,w=>Q3X P l K c (get l t::b) w
 | .cell a t::c,b,w=>U5 P t (get l a) w fun v=>Q3X P l K c (v::b) w
def Q1o:List Value→Value
 | [v]=>v
 | vs=> .tuple vs.toArray
noncomputable def results (P:Program) (a:List ResultVar) (K:Value→World→Prop) (l:List Value) (w:World):Prop:=
 Q3X P l (fun vs w=>K (Q1o vs) w) a [] w
noncomputable def Q71 (P:Program) (fn:Func) (K:Value→World→Prop):Ol
 | .normal,l,w | .ret,l,w=>results P fn.results.toList K l w
 | _,_,_=>False
def Q9m (K:Value→World→Prop) (e:Ending) (w:World):Prop:=match e with | .returned v=>K v w | _=>False
theorem Q4X (a:Array Value) (t:Nat):a.getD t undef=get a.toList t:=by
 simp[get,List.getD_eq_getElem?_getD]
theorem Q8p (vs:List Value):(if h:vs.toArray.size=1 then vs.toArray[0] else Value.tuple vs.toArray)=Q1o vs:=by
 match vs with
 | []=>rfl
 | [v]=>rfl
 | _::_::_=>rfl
theorem Q0S (P:Program) (l:List Value) (K:List Value→World→Prop) (f:ResultVar→Sem Value)
 (c: ∀t,f (.tmp t)=Pure.pure (get l t)) (d: ∀a t,f (.cell a t)=(do loadVar t (←asAddr (get l a)))): ∀(e:List ResultVar) (b:List Value) (w:World),Q3X P l K e b w→
 ∃vs,(e.mapM f).run P w= .ok vs w∧K (b.reverse++vs) w
 | [],b,w,h=>⟨[],by simp,by rw[List.append_nil];exact h⟩
 | .tmp t::e,b,w,h=>by
  obtain ⟨vs,i,g⟩:=Q0S P l K f c d e _ w h
  refine ⟨get l t::vs,?_,by simpa using g⟩
  rw[List.mapM_cons,c]
  simp[i]
 | .cell a t::e,b,w,h=>by
  simp only[Q3X,Q1s] at h
  obtain ⟨v,j,h⟩:=h
  obtain ⟨vs,i,g⟩:=Q0S P l K f c d e _ w h
  refine ⟨v::vs,?_,by simpa using g⟩
  rw[List.mapM_cons,d,Sem.run_bind,j]
  simp[i]
def X1B (a:Array Value):ResultVar→Sem Value
 | .tmp t=>Pure.pure (a.getD t undef)
 | .cell b t=>do loadVar t (←asAddr (a.getD b undef))
theorem Q3Y (fn:Func) (a:Array Value):Go.results fn a=(do
 let vs←fn.results.mapM (X1B a)
 Pure.pure (if h:vs.size=1 then vs[0] else .tuple vs)):=by
 unfold Go.results
 congr 1
theorem Q0E (P:Program) (fn:Func) (K:Value→World→Prop) (a:Array Value) (w:World) (h:results P fn.results.toList K a.toList w):
 ∃v,(Go.results fn a).run P w= .ok v w∧K v w:=by
 rw[Q3Y,Array.mapM_eq_mapM_toList]
 obtain ⟨vs,c,b⟩:=Q0S P a.toList (fun vs w=>K (Q1o vs) w) (X1B a) (fun t=>by rw[←Q4X];rfl) (fun d t=>by rw[←Q4X];rfl) fn.results.toList [] w h
 refine ⟨Q1o vs,?_,by simpa using b⟩
 rw[Sem.run_bind,Sem.run_map,c]
 simp only[Result.andThen_ok,Sem.run_pure,Q8p]
def Ad (fn:Func) (a:List Value):List Value:=a++List.replicate (fn.ntmps-a.length) undef
theorem Q4j {P:Program} {f:FuncId} {fn:Func} {c:Code} {b:List Value} {w:World} {K:Value→World→Prop} (d:List (Option (List Nat)))
 (k:P.funcs[f]? =some fn) (j:fn.body=some c) (h:Mg P d 0 c (Q71 P fn K) (Ad fn b) w):Calls P f b.toArray w (Q9m K):=by
 refine calls_of_wp k j (wp_mono (Q8e P d c 0 (Q71 P fn K) _ w rfl ?_) ?_)
 ·have:(b.toArray++Array.replicate (fn.ntmps-b.toArray.size) undef).toList=Ad fn b:=by simp[Ad]
  simp only[this];exact h
 ·intro e a w ⟨i,g⟩
  cases e with
  | normal=>exact ⟨i,Q0E P fn K _ _ g⟩
  | ret=>exact ⟨i,Q0E P fn K _ _ g⟩
  | _=>exact g.elim
theorem Un {P:Program} {f:FuncId} {fn:Func} {a:List Value} {w:World} {K:Value→World→Prop}
 (i:P.funcs[f]? =some fn) (d:fn.body.isSome=true) (j:(fn.name== "runtime.NumGoroutine")=false) (h:Calls P f a.toArray w (Q9m K)):Q0 P f a w K:=by
 have g:(callFunc f a.toArray).run P w= .ok (.enter f a.toArray) w:=by
  unfold callFunc
  simp only[Sem.run_bind,run_program,Result.andThen_ok,i,j,Bool.false_eq_true,if_false]
  cases b:fn.body with
  | none=>rw[b] at d;cases d
  | some c=>simp
 unfold Q0
 rw[K9]
 unfold I2
 rw[g]
 refine h.mono fun e w' k=>?_
 cases e<;>exact k
theorem Q27 {P:Program} {f:FuncId} {fn:Func} {a:List Value} {w:World} {K:Value→World→Prop}
 (i:P.funcs[f]? =some fn) (d:fn.body.isSome=true) (j:(fn.name== "runtime.NumGoroutine")=false) (h:Q0 P f a w K):Calls P f a.toArray w (Q9m K):=by
 have g:(callFunc f a.toArray).run P w= .ok (.enter f a.toArray) w:=by
  unfold callFunc
  simp only[Sem.run_bind,run_program,Result.andThen_ok,i,j,Bool.false_eq_true,if_false]
  cases b:fn.body with
  | none=>rw[b] at d;cases d
  | some c=>simp
 unfold Q0 at h
 rw[K9] at h
 unfold I2 at h
 rw[g] at h
 refine Calls.mono h fun e w' k=>?_
 cases e<;>exact k
theorem X0W {P:Program} {f:FuncId} {fn:Func} {b:List Value} {w:World} {K:Value→World→Prop} (a:V2)
 (g:P.funcs[f]? =some fn) (e:fn.body.isSome=true) (i:(fn.name== "runtime.NumGoroutine")=false)
 (h:Ul P a a.slots 0 (fn.body.getD .skip) (Q71 P fn K) (Ad fn b) w):Q0 P f b w K:=by
 refine Un g e i ?_
 obtain ⟨c,d⟩:=Option.isSome_iff_exists.1 e
 rw[d] at h
 exact Q4j a.slots g d (Q9h P a c 0 _ _ _ _ (fun _ _ _ h=>h) h)
theorem Q8 {P:Program} {f:FuncId} {fn:Func} {a:List Value} {w:World} {K:Value→World→Prop} {g:Prop} (b:V2)
 (d:P.funcs[f]? =some fn) (c:fn.body.isSome=true) (e:(fn.name== "runtime.NumGoroutine")=false)
 (i:g=Ul P b b.slots 0 (fn.body.getD .skip) (Q71 P fn K) (Ad fn a) w) (h:g):Q0 P f a w K:=
 X0W b d c e (i▸h)
theorem Y7 {P:Program} {f:FuncId} {first caps:List Value} {a:List Value} {w:World} {K:Value→World→Prop} (h:Q0 P f (first++a++caps) w K):Y9 P (.func (.func f) first.toArray caps.toArray) a w K:=by
 simpa [Y9,Q0,Deferred.ofValue,invoke,pure_bind,List.append_toArray] using h
end Go.Emb

namespace Go.Proofs.YtfppjenblllfaaaGreatDoor
noncomputable abbrev P : Program := Tryz.prog
namespace F
abbrev bx : Nat := 8
abbrev aT : Nat := 10
abbrev ab : Nat := 11
abbrev cm : Nat := 13
abbrev aj : Nat := 15
abbrev cA : Nat := 16
abbrev b2 : Nat := 18
abbrev cM : Nat := 19
abbrev v : Nat := 20
abbrev cn : Nat := 21
abbrev b3 : Nat := 22
abbrev cF : Nat := 25
abbrev av : Nat := 26
abbrev br : Nat := 27
abbrev bG : Nat := 28
abbrev aC : Nat := 29
abbrev aD : Nat := 31
abbrev a0 : Nat := 32
abbrev aU : Nat := 34
abbrev b : Nat := 35
abbrev co : Nat := 36
abbrev ak : Nat := 37
abbrev bj : Nat := 38
abbrev a1 : Nat := 39
abbrev ac : Nat := 40
abbrev k : Nat := 41
abbrev cp : Nat := 44
abbrev c8 : Nat := 45
abbrev c9 : Nat := 46
abbrev aV : Nat := 47
abbrev n : Nat := 48
abbrev b4 : Nat := 49
abbrev b5 : Nat := 50
abbrev aP : Nat := 51
abbrev b6 : Nat := 52
abbrev b7 : Nat := 53
abbrev c : Nat := 54
abbrev aW : Nat := 55
abbrev az : Nat := 56
abbrev aL : Nat := 57
abbrev aQ : Nat := 58
abbrev a9 : Nat := 59
abbrev h : Nat := 60
abbrev bk : Nat := 61
abbrev ad : Nat := 62
abbrev bs : Nat := 63
abbrev aO : Nat := 64
abbrev cc : Nat := 65
abbrev c5 : Nat := 66
abbrev cq : Nat := 67
abbrev cd : Nat := 68
abbrev cG : Nat := 69
abbrev bt : Nat := 70
abbrev a2 : Nat := 71
abbrev ax : Nat := 72
abbrev ce : Nat := 73
abbrev cH : Nat := 74
abbrev c2 : Nat := 75
abbrev cr : Nat := 76
abbrev cf : Nat := 77
abbrev cg : Nat := 78
abbrev c6 : Nat := 79
abbrev cy : Nat := 80
abbrev cs : Nat := 81
abbrev cz : Nat := 82
abbrev ch : Nat := 83
abbrev ci : Nat := 84
abbrev c7 : Nat := 85
abbrev b8 : Nat := 86
abbrev cN : Nat := 87
abbrev bO : Nat := 88
abbrev af : Nat := 89
abbrev cI : Nat := 90
abbrev c3 : Nat := 91
abbrev ae : Nat := 92
abbrev ct : Nat := 94
abbrev ca : Nat := 95
abbrev a6 : Nat := 96
abbrev bH : Nat := 97
abbrev aR : Nat := 98
abbrev t : Nat := 99
abbrev bI : Nat := 100
abbrev d : Nat := 101
abbrev u : Nat := 102
abbrev ay : Nat := 103
abbrev b9 : Nat := 104
abbrev ag : Nat := 105
abbrev ah : Nat := 106
abbrev aK : Nat := 107
abbrev a : Nat := 108
abbrev aA : Nat := 109
abbrev bP : Nat := 110
abbrev aX : Nat := 111
abbrev bl : Nat := 112
abbrev ba : Nat := 113
abbrev bb : Nat := 114
abbrev bc : Nat := 115
abbrev aE : Nat := 116
abbrev aY : Nat := 117
abbrev cB : Nat := 118
abbrev bd : Nat := 119
abbrev i : Nat := 120
abbrev aF : Nat := 121
abbrev cK : Nat := 122
abbrev bE : Nat := 123
abbrev c4 : Nat := 125
abbrev a4 : Nat := 126
abbrev cu : Nat := 130
abbrev bm : Nat := 132
abbrev au : Nat := 135
abbrev bn : Nat := 138
abbrev be : Nat := 139
abbrev bF : Nat := 140
abbrev bQ : Nat := 141
abbrev aa : Nat := 142
abbrev bV : Nat := 143
abbrev bW : Nat := 144
abbrev a3 : Nat := 145
abbrev aG : Nat := 146
abbrev bX : Nat := 147
abbrev aw : Nat := 148
abbrev bY : Nat := 149
abbrev am : Nat := 150
abbrev bZ : Nat := 151
abbrev an : Nat := 152
abbrev bi : Nat := 153
abbrev bu : Nat := 154
abbrev ai : Nat := 155
abbrev aS : Nat := 156
abbrev a7 : Nat := 157
abbrev a8 : Nat := 158
abbrev s : Nat := 159
abbrev bJ : Nat := 160
abbrev j : Nat := 161
abbrev aZ : Nat := 162
abbrev bR : Nat := 163
abbrev g : Nat := 164
abbrev cJ : Nat := 165
abbrev aH : Nat := 166
abbrev o : Nat := 167
abbrev cj : Nat := 168
abbrev aI : Nat := 169
abbrev e : Nat := 170
abbrev r : Nat := 171
abbrev w : Nat := 172
abbrev x : Nat := 173
abbrev aM : Nat := 174
abbrev aB : Nat := 175
abbrev bo : Nat := 176
abbrev al : Nat := 177
abbrev cb : Nat := 178
abbrev bS : Nat := 179
abbrev a5 : Nat := 183
abbrev bK : Nat := 184
abbrev ck : Nat := 185
abbrev bL : Nat := 186
abbrev ao : Nat := 187
abbrev bT : Nat := 188
abbrev c0 : Nat := 189
abbrev f : Nat := 190
abbrev bM : Nat := 191
abbrev bz : Nat := 192
abbrev bA : Nat := 193
abbrev bv : Nat := 194
abbrev b0 : Nat := 195
abbrev ap : Nat := 196
abbrev b1 : Nat := 197
abbrev cv : Nat := 198
abbrev aq : Nat := 199
abbrev cO : Nat := 203
abbrev aJ : Nat := 204
abbrev aN : Nat := 205
abbrev bN : Nat := 206
abbrev cw : Nat := 207
abbrev cP : Nat := 211
abbrev c1 : Nat := 212
abbrev l : Nat := 213
abbrev bB : Nat := 214
abbrev bU : Nat := 215
abbrev cC : Nat := 216
abbrev m : Nat := 217
abbrev bC : Nat := 218
abbrev bf : Nat := 221
abbrev bp : Nat := 222
abbrev ar : Nat := 223
abbrev y : Nat := 224
abbrev cD : Nat := 225
abbrev bw : Nat := 226
abbrev cl : Nat := 227
abbrev cE : Nat := 228
abbrev z : Nat := 229
abbrev bg : Nat := 232
abbrev bh : Nat := 233
abbrev cx : Nat := 234
abbrev bD : Nat := 235
abbrev q : Nat := 236
abbrev cL : Nat := 237
abbrev bq : Nat := 240
abbrev p : Nat := 242
end F
namespace T
abbrev x : Nat := 0
abbrev al : Nat := 2
abbrev e : Nat := 3
abbrev p : Nat := 4
abbrev w : Nat := 5
abbrev c : Nat := 9
abbrev ao : Nat := 12
abbrev af : Nat := 21
abbrev d : Nat := 22
abbrev f : Nat := 24
abbrev r : Nat := 25
abbrev h : Nat := 26
abbrev s : Nat := 31
abbrev l : Nat := 37
abbrev o : Nat := 38
abbrev b : Nat := 40
abbrev m : Nat := 42
abbrev ak : Nat := 43
abbrev y : Nat := 48
abbrev z : Nat := 51
abbrev t : Nat := 68
abbrev j : Nat := 71
abbrev v : Nat := 76
abbrev u : Nat := 78
abbrev i : Nat := 79
abbrev g : Nat := 80
abbrev a : Nat := 82
abbrev k : Nat := 89
abbrev a1 : Nat := 92
abbrev a0 : Nat := 94
abbrev ah : Nat := 104
abbrev a4 : Nat := 107
abbrev ag : Nat := 116
abbrev ai : Nat := 121
abbrev q : Nat := 124
abbrev a2 : Nat := 127
abbrev a7 : Nat := 128
abbrev a5 : Nat := 133
abbrev a3 : Nat := 152
abbrev a9 : Nat := 155
abbrev n : Nat := 159
abbrev aa : Nat := 180
abbrev ab : Nat := 183
abbrev am : Nat := 186
abbrev ad : Nat := 188
abbrev ap : Nat := 199
abbrev an : Nat := 200
abbrev ac : Nat := 202
abbrev ae : Nat := 203
abbrev a6 : Nat := 206
abbrev a8 : Nat := 207
abbrev aj : Nat := 214
abbrev aq : Nat := 217
abbrev ar : Nat := 220
end T
namespace G
abbrev b : Nat := 0
abbrev e : Nat := 1
abbrev d : Nat := 2
abbrev c : Nat := 3
abbrev a : Nat := 4
end G
end Go.Proofs.YtfppjenblllfaaaGreatDoor

set_option maxRecDepth 100000
namespace Go.Proofs.YtfppjenblllfaaaGreatDoor
open Go.Emb
def Zh (h f:Value) (w:World) (K:Value→World→Prop):Prop:= nilCheck P h w fun g w=>fieldAddr P T.u g 1 w fun b w=>Q2 P T.v b w fun d w=>lookup P T.v d f true w fun a w=>ext P a 0 w fun e w=>ext P a 1 w fun c w=>K c w
theorem Oe {b a:Value} {w:World} {K:Value→World→Prop} (h:Zh b a w K):Q0 P F.k [b,a] w K:=Q8 (List.replicate 3 none) Tryz.func41 rfl (by decide) (by kernel_rfl) h
def Q4g:V2:=[none,none,none,none,some ([1,10],[1,3,10,11,12,13,14,15,16,17,18]),none,none,none,none,none]
def Pa (w:World) (K:Value→World→Prop):Prop:= N3 P T.a [(0,(.string ⟨#[79,98,106,101,99,116]⟩))] w fun l w=>N3 P T.k [(0,(.string ⟨#[119,104,97,116]⟩)),(1,(.string ⟨#[116,101,120,116]⟩))] w fun n w=>buildSlice P T.i 1 [(0,n)] w fun m w=>N3 P T.a [(0,(.string ⟨#[70,97,117,108,116]⟩)),(1,(.string ⟨#[79,98,106,101,99,116]⟩)),(6,m)] w fun i w=>buildSlice P T.h 2 [(0,l),(1,i)] w fun j w=>Q2 P T.ag (.pointer (some ⟨G.b,0,none⟩)) w fun k w=>lp (α:=Value×Value) (j,(.int .i64 0)) w fun a b o w=>Q3 P .lss T.e (.tmp 10) (.const (.int .i64 6)) b.2 (.int .i64 6) w fun h w=>X1 h (E2 P T.ag k b.2 w fun c w=>N3 P T.a [(0,c),(1,(.string ⟨#[70,97,117,108,116]⟩)),(5,(.bool true))] w fun e w=>buildSlice P T.h 1 [(0,e)] w fun d w=>X5 P .append [T.h,T.h] T.h [false,false] [b.1,d] w fun g w=>Q3 P .add T.e (.tmp 10) (.const (.int .i64 1)) b.2 (.int .i64 1) w fun f w=>a (g,f) w) (K b.1 w)
theorem Q4l {w:World} {K:Value→World→Prop} (h:Pa w K):Q0 P F.cp [] w K:=Q8 Q4g Tryz.func44 rfl (by decide) (by kernel_rfl) h
def Q4b:V2:=[none,none,none,some ([8],[2,4,8,9,10,11,12,13,14,15,16,17,18,19,20,21,22,23,24,25,26,27,28,29,30,31,32,33]),none,none,none,none,none,none,none]
def Ac (Y:Value) (w:World) (K:Value→World→Prop):Prop:= box P T.a Y w fun b w=>fieldAddr P T.a b 7 w fun t5 w=>Q2 P T.g t5 w fun W w=>X5 P .len [T.g] T.e [false] [W] w fun Z w=>lp (α:=Value) (.int .i64 0) w fun g m d_ w=>Q3 P .lss T.e (.tmp 8) (.tmp 7) m Z w fun X w=>X1 X (indexAddr P T.g W m w fun j w=>Q2 P T.b j w fun l w=>W6 P T.b w fun a w=>Z2 P T.b a l w fun _u w=>fieldAddr P T.b a 1 w fun A w=>Q2 P T.d A w fun n w=>X5 P .len [T.d] T.e [false] [n] w fun y w=>Q3 P .gtr T.e (.tmp 14) (.const (.int .i64 32)) y (.int .i64 32) w fun d w=>Q1 d false w (fieldAddr P T.b a 6) fun R w=>Q1 d false w (Q2 P T.o R) fun N w=>Q1 d false w (X5 P .len [T.o] T.e [false] [N]) fun r w=>Q1 d false w (Q3 P .gtr T.e (.tmp 19) (.const (.int .i64 32)) r (.int .i64 32)) fun M w=>pick P d (.bool true) M w fun c w=>Q1 c false w (fieldAddr P T.b a 5) fun U w=>Q1 c false w (Q2 P T.l U) fun C w=>Q1 c false w (X5 P .len [T.l] T.e [false] [C]) fun k w=>Q1 c false w (Q3 P .gtr T.e (.tmp 25) (.const (.int .i64 200)) k (.int .i64 200)) fun p w=>pick P c (.bool true) p w fun h w=>Q1 h false w (fieldAddr P T.b a 4) fun i w=>Q1 h false w (Q2 P T.e i) fun u w=>Q1 h false w (Q3 P .gtr T.e (.tmp 30) (.const (.int .i64 64)) u (.int .i64 64)) fun D w=>pick P h (.bool true) D w fun H w=>X1 H (K (.bool true) w) (Q3 P .add T.e (.tmp 8) (.const (.int .i64 1)) m (.int .i64 1) w fun s w=>g s w)) (fieldAddr P T.a b 2 w fun J w=>Q2 P T.d J w fun E w=>X5 P .len [T.d] T.e [false] [E] w fun B w=>Q3 P .gtr T.e (.tmp 36) (.const (.int .i64 32)) B (.int .i64 32) w fun f w=>Q1 f false w (fieldAddr P T.a b 6) fun z w=>Q1 f false w (Q2 P T.i z) fun Q w=>Q1 f false w (X5 P .len [T.i] T.e [false] [Q]) fun L w=>Q1 f false w (Q3 P .gtr T.e (.tmp 41) (.const (.int .i64 32)) L (.int .i64 32)) fun o w=>pick P f (.bool true) o w fun e w=>Q1 e false w (fieldAddr P T.a b 7) fun V w=>Q1 e false w (Q2 P T.g V) fun q w=>Q1 e false w (X5 P .len [T.g] T.e [false] [q]) fun O w=>Q1 e false w (Q3 P .gtr T.e (.tmp 47) (.const (.int .i64 32)) O (.int .i64 32)) fun t w=>pick P e (.bool true) t w fun v w=>K v w)
theorem Q4m {a:Value} {w:World} {K:Value→World→Prop} (h:Ac a w K):Q0 P F.ct [a] w K:=Q8 Q4b Tryz.func94 rfl (by decide) (by kernel_rfl) h
def Q7l:V2:=[none,none,none,some ([],[4,6,9,10,11,12,13,14,15]),none,none,none,none,none,none]
def Q1N (i h:Value) (w:World) (K:Value→World→Prop):Prop:= rng P T.c i w fun g w=>lp (α:=Unit) () w fun a j k w=>J1 P g true T.x w fun f w=>ext P f 0 w fun c w=>X1 c (ext P f 2 w fun e w=>Y9 P h [e] w fun b w=>J7 P .not b w fun d w=>X1 d (K (.bool false) w) (a () w)) (K (.bool true) w)
theorem Q6U {b a:Value} {w:World} {K:Value→World→Prop} (h:Q1N b a w K):Q0 P F.ck [b,a] w K:=Q8 Q7l Tryz.func185 rfl (by decide) (by kernel_rfl) h
def Pj (b:Value) (w:World) (K:Value→World→Prop):Prop:= Q3 P .geq T.af (.tmp 3) (.const (.int .i32 65)) b (.int .i32 65) w fun a w=>Q1 a true w (fun w J=>J b w) fun e w=>Q1 a true w (Q3 P .leq T.af (.tmp 6) (.const (.int .i32 90)) e (.int .i32 90)) fun c w=>pick P a c (.bool false) w fun d w=>K d w
theorem Q4f {a:Value} {w:World} {K:Value→World→Prop} (h:Pj a w K):Q0 P F.bQ [a] w K:=Q8 (List.replicate 2 none) Tryz.func141 rfl (by decide) (by kernel_rfl) h
def As (b:Value) (w:World) (K:Value→World→Prop):Prop:= Q3 P .geq T.af (.tmp 3) (.const (.int .i32 97)) b (.int .i32 97) w fun a w=>Q1 a true w (fun w J=>J b w) fun e w=>Q1 a true w (Q3 P .leq T.af (.tmp 6) (.const (.int .i32 122)) e (.int .i32 122)) fun c w=>pick P a c (.bool false) w fun d w=>K d w
theorem Q5c {a:Value} {w:World} {K:Value→World→Prop} (h:As a w K):Q0 P F.bS [a] w K:=Q8 (List.replicate 2 none) Tryz.func179 rfl (by decide) (by kernel_rfl) h
def Ia (c:Value) (w:World) (K:Value→World→Prop):Prop:= Q0 P F.bQ [c] w fun h w=>Q1 h false w (fun w J=>J c w) fun l w=>Q1 h false w (Q0 P F.bS [l]) fun k w=>pick P h (.bool true) k w fun b w=>Q1 b false w (fun w J=>J c w) fun f w=>Q1 b false w (Q3 P .geq T.af (.tmp 10) (.const (.int .i32 48)) f (.int .i32 48)) fun j w=>Q1 b false w (fun w J=>J j w) fun a w=>Q1 a true w (fun w J=>J c w) fun e w=>Q1 a true w (Q3 P .leq T.af (.tmp 13) (.const (.int .i32 57)) e (.int .i32 57)) fun d w=>Q1 b false w (pick P a d (.bool false)) fun i w=>pick P b (.bool true) i w fun g w=>K g w
theorem Q3r {a:Value} {w:World} {K:Value→World→Prop} (h:Ia a w K):Q0 P F.bL [a] w K:=Q8 (List.replicate 2 none) Tryz.func186 rfl (by decide) (by kernel_rfl) h
def Q0N (c:Value) (w:World) (K:Value→World→Prop):Prop:= Q3 P .eql T.c (.tmp 3) (.const (.string ⟨#[]⟩)) c (.string ⟨#[]⟩) w fun d w=>Q1 d false w (fun w J=>J c w) fun n w=>Q1 d false w (X5 P .len [T.c] T.e [false] [n]) fun o w=>Q1 d false w (Q3 P .gtr T.e (.tmp 7) (.const (.int .i64 32)) o (.int .i64 32)) fun p w=>pick P d (.bool true) p w fun b w=>Q1 b false w (fun w J=>J c w) fun e w=>Q1 b false w (E2 P T.c e (.int .i64 0)) fun j w=>Q1 b false w (Q3 P .geq T.w (.tmp 12) (.const (.int .u8 48)) j (.int .u8 48)) fun f w=>Q1 b false w (fun w J=>J f w) fun a w=>Q1 a true w (fun w J=>J c w) fun h w=>Q1 a true w (E2 P T.c h (.int .i64 0)) fun k w=>Q1 a true w (Q3 P .leq T.w (.tmp 16) (.const (.int .u8 57)) k (.int .u8 57)) fun m w=>Q1 b false w (pick P a m (.bool false)) fun l w=>pick P b (.bool true) l w fun i w=>X1 i (K (.bool false) w) (Q0 P F.ck [c,(.func (.func F.bL) #[] #[])] w fun g w=>K g w)
theorem Q5n {a:Value} {w:World} {K:Value→World→Prop} (h:Q0N a w K):Q0 P F.bF [a] w K:=Q8 (List.replicate 5 none) Tryz.func140 rfl (by decide) (by kernel_rfl) h
def Ti (c:Value) (w:World) (K:Value→World→Prop):Prop:= Q0 P F.bF [c] w fun a w=>Q1 a true w (fun w J=>J c w) fun g w=>Q1 a true w (E2 P T.c g (.int .i64 0)) fun d w=>Q1 a true w (conv P T.w T.af d) fun e w=>Q1 a true w (Q0 P F.bQ [e]) fun f w=>pick P a f (.bool false) w fun b w=>K b w
theorem Q41 {a:Value} {w:World} {K:Value→World→Prop} (h:Ti a w K):Q0 P F.ae [a] w K:=Q8 (List.replicate 2 none) Tryz.func92 rfl (by decide) (by kernel_rfl) h
def T9:V2:=[none,none,none,some ([8],[4,5,8,9,10,11,12,13,14,15,16,17,18]),none,none,none,none,none,none,none]
def H6 (g i:Value) (w:World) (K:Value→World→Prop):Prop:= X5 P .len [T.g] T.e [false] [g] w fun h w=>lp (α:=Value) (.int .i64 0) w fun a b k w=>Q3 P .lss T.e (.tmp 8) (.tmp 7) b h w fun j w=>X1 j (indexAddr P T.g g b w fun c w=>Q2 P T.b c w fun e w=>Y9 P i [e] w fun d w=>X1 d (K b w) (Q3 P .add T.e (.tmp 8) (.const (.int .i64 1)) b (.int .i64 1) w fun f w=>a f w)) (K (.int .i64 (-1)) w)
theorem Qk {b a:Value} {w:World} {K:Value→World→Prop} (h:H6 b a w K):Q0 P F.g [b,a] w K:=Q8 T9 Tryz.func164 rfl (by decide) (by kernel_rfl) h
def E1 (d c:Value) (w:World) (K:Value→World→Prop):Prop:= Q0 P F.g [d,c] w fun a w=>Q3 P .geq T.e (.tmp 7) (.const (.int .i64 0)) a (.int .i64 0) w fun b w=>K b w
theorem K2 {b a:Value} {w:World} {K:Value→World→Prop} (h:E1 b a w K):Q0 P F.a [b,a] w K:=Q8 (List.replicate 2 none) Tryz.func108 rfl (by decide) (by kernel_rfl) h
def Lm:V2:=[none,none,none,some ([8],[4,5,8,9,10,11,12,13,14,15,16,17,18]),none,none,none,none,none,none,none]
def K5 (g i:Value) (w:World) (K:Value→World→Prop):Prop:= X5 P .len [T.d] T.e [false] [g] w fun h w=>lp (α:=Value) (.int .i64 0) w fun a b k w=>Q3 P .lss T.e (.tmp 8) (.tmp 7) b h w fun j w=>X1 j (indexAddr P T.d g b w fun c w=>Q2 P T.c c w fun e w=>Q3 P .eql T.c (.tmp 11) (.tmp 15) i e w fun d w=>X1 d (K b w) (Q3 P .add T.e (.tmp 8) (.const (.int .i64 1)) b (.int .i64 1) w fun f w=>a f w)) (K (.int .i64 (-1)) w)
theorem Wp {b a:Value} {w:World} {K:Value→World→Prop} (h:K5 b a w K):Q0 P F.ao [b,a] w K:=Q8 Lm Tryz.func187 rfl (by decide) (by kernel_rfl) h
def G2 (d c:Value) (w:World) (K:Value→World→Prop):Prop:= Q0 P F.ao [d,c] w fun a w=>Q3 P .geq T.e (.tmp 7) (.const (.int .i64 0)) a (.int .i64 0) w fun b w=>K b w
theorem Ub {b a:Value} {w:World} {K:Value→World→Prop} (h:G2 b a w K):Q0 P F.aa [b,a] w K:=Q8 (List.replicate 2 none) Tryz.func142 rfl (by decide) (by kernel_rfl) h
def Rt (d:Value) (w:World) (K:Value→World→Prop):Prop:= box P T.b d w fun a w=>fieldAddr P T.b a 3 w fun b w=>Q2 P T.p b w fun c w=>K c w
theorem Q1v {a:Value} {w:World} {K:Value→World→Prop} (h:Rt a w K):Q0 P F.bV [a] w K:=Q8 (List.replicate 2 none) Tryz.func143 rfl (by decide) (by kernel_rfl) h
def Rm (d:Value) (w:World) (K:Value→World→Prop):Prop:= box P T.b d w fun a w=>fieldAddr P T.b a 3 w fun b w=>Q2 P T.p b w fun c w=>J7 P .not c w fun e w=>K e w
theorem Q1K {a:Value} {w:World} {K:Value→World→Prop} (h:Rm a w K):Q0 P F.bW [a] w K:=Q8 (List.replicate 2 none) Tryz.func144 rfl (by decide) (by kernel_rfl) h
def Jn:V2:=[none,none,none,some ([8],[4,5,8,9,10,11,12,13,14,15,16,17,18]),none,none,none,none,none,none,none]
def F8 (g i:Value) (w:World) (K:Value→World→Prop):Prop:= X5 P .len [T.d] T.e [false] [g] w fun h w=>lp (α:=Value) (.int .i64 0) w fun a b k w=>Q3 P .lss T.e (.tmp 8) (.tmp 7) b h w fun j w=>X1 j (indexAddr P T.d g b w fun c w=>Q2 P T.c c w fun e w=>Y9 P i [e] w fun d w=>X1 d (K b w) (Q3 P .add T.e (.tmp 8) (.const (.int .i64 1)) b (.int .i64 1) w fun f w=>a f w)) (K (.int .i64 (-1)) w)
theorem Jm {b a:Value} {w:World} {K:Value→World→Prop} (h:F8 b a w K):Q0 P F.s [b,a] w K:=Q8 Jn Tryz.func159 rfl (by decide) (by kernel_rfl) h
def B0 (d c:Value) (w:World) (K:Value→World→Prop):Prop:= Q0 P F.s [d,c] w fun a w=>Q3 P .geq T.e (.tmp 7) (.const (.int .i64 0)) a (.int .i64 0) w fun b w=>K b w
theorem Yn {b a:Value} {w:World} {K:Value→World→Prop} (h:B0 b a w K):Q0 P F.d [b,a] w K:=Q8 (List.replicate 2 none) Tryz.func101 rfl (by decide) (by kernel_rfl) h
def Ue (c b:Value) (w:World) (K:Value→World→Prop):Prop:= Q2 P T.y b w fun d w=>Y9 P d [c] w fun e w=>J7 P .not e w fun a w=>K a w
theorem Rx {b a:Value} {w:World} {K:Value→World→Prop} (h:Ue b a w K):Q0 P F.bT [b,a] w K:=Q8 (List.replicate 2 none) Tryz.func188 rfl (by decide) (by kernel_rfl) h
def Lp (e d:Value) (w:World) (K:Value→World→Prop):Prop:= box P T.y d w fun a w=>M5 P (.func F.bT) [] [a] w fun f w=>Q0 P F.d [e,f] w fun b w=>J7 P .not b w fun c w=>K c w
theorem Fq {b a:Value} {w:World} {K:Value→World→Prop} (h:Lp b a w K):Q0 P F.a3 [b,a] w K:=Q8 (List.replicate 2 none) Tryz.func145 rfl (by decide) (by kernel_rfl) h
def Uw (n l o:Value) (w:World) (K:Value→World→Prop):Prop:= dr w fun a b=>Q6 a (fun c=> ∀w,b w→Q2 P T.a5 l w (dk a c w)) fun c=>Q6 a (fun g=> ∀d w,b w→c d w→Y9 P d [n] w (dk a g w)) fun g=>Q6 a (fun e=> ∀w,b w→Q2 P T.a5 l w (dk a e w)) fun e=>Q6 a (fun h=> ∀w,b w→Q2 P T.c o w (dk a h w)) fun h=>∀d j k m w,b w→c d w→g j w→e k w→h m w→ Y9 P k [m] w fun f w=>Q3 P .eql T.c (.tmp 7) (.tmp 10) j f w fun i w=>K i w
theorem Cu {b a c:Value} {w:World} {K:Value→World→Prop} (h:Uw b a c w K):Q0 P F.c0 [b,a,c] w K:=Q8 (List.replicate 2 none) Tryz.func189 rfl (by decide) (by kernel_rfl) h
def Iy:V2:=[none,none,none,some ([9],[4,5,6,9,10,11,12,13,14,15,16,17,18,19]),none,none,none,none,none,none,none]
def Mk (i n:Value) (w:World) (K:Value→World→Prop):Prop:= box P T.a5 n w fun a w=>X5 P .len [T.d] T.e [false] [i] w fun m w=>lp (α:=Value) (.int .i64 0) w fun c d o w=>Q3 P .lss T.e (.tmp 9) (.tmp 8) d m w fun g w=>X1 g (indexAddr P T.d i d w fun f w=>Q2 P T.c f w fun e w=>W6 P T.c w fun b w=>Z2 P T.c b e w fun _u w=>E6 P T.d i none (some d) none w fun h w=>M5 P (.func F.c0) [] [a,b] w fun l w=>Q0 P F.d [h,l] w fun j w=>X1 j (K (.bool false) w) (Q3 P .add T.e (.tmp 9) (.const (.int .i64 1)) d (.int .i64 1) w fun k w=>c k w)) (K (.bool true) w)
theorem Ke {b a:Value} {w:World} {K:Value→World→Prop} (h:Mk b a w K):Q0 P F.aG [b,a] w K:=Q8 Iy Tryz.func146 rfl (by decide) (by kernel_rfl) h
def Q1G (a:Value) (w:World) (K:Value→World→Prop):Prop:= K a w
theorem Q1z {a:Value} {w:World} {K:Value→World→Prop} (h:Q1G a w K):Q0 P F.bX [a] w K:=Q8 (List.replicate 2 none) Tryz.func147 rfl (by decide) (by kernel_rfl) h
def Qt:V2:=[none,none,none,some ([8],[4,5,8,9,10,11,12,13,14,15,16,17,18]),none,none,none,none,none,none,none]
def R5 (g i:Value) (w:World) (K:Value→World→Prop):Prop:= X5 P .len [T.i] T.e [false] [g] w fun h w=>lp (α:=Value) (.int .i64 0) w fun a b k w=>Q3 P .lss T.e (.tmp 8) (.tmp 7) b h w fun j w=>X1 j (indexAddr P T.i g b w fun c w=>Q2 P T.k c w fun e w=>Y9 P i [e] w fun d w=>X1 d (K b w) (Q3 P .add T.e (.tmp 8) (.const (.int .i64 1)) b (.int .i64 1) w fun f w=>a f w)) (K (.int .i64 (-1)) w)
theorem Xb {b a:Value} {w:World} {K:Value→World→Prop} (h:R5 b a w K):Q0 P F.j [b,a] w K:=Q8 Qt Tryz.func161 rfl (by decide) (by kernel_rfl) h
def H3 (d c:Value) (w:World) (K:Value→World→Prop):Prop:= Q0 P F.j [d,c] w fun a w=>Q3 P .geq T.e (.tmp 7) (.const (.int .i64 0)) a (.int .i64 0) w fun b w=>K b w
theorem T2 {b a:Value} {w:World} {K:Value→World→Prop} (h:H3 b a w K):Q0 P F.f [b,a] w K:=Q8 (List.replicate 2 none) Tryz.func190 rfl (by decide) (by kernel_rfl) h
def Zg (q p r:Value) (w:World) (K:Value→World→Prop):Prop:= box P T.k q w fun b w=>dr w fun a c=>Q6 a (fun f=> ∀w,c w→Q2 P T.a3 p w (dk a f w)) fun f=>Q6 a (fun e=> ∀w,c w→Q2 P T.k b w (dk a e w)) fun e=>Q6 a (fun k=> ∀g d w,c w→f g w→e d w→Y9 P g [d] w (dk a k w)) fun k=>Q6 a (fun j=> ∀w,c w→Q2 P T.a3 p w (dk a j w)) fun j=>Q6 a (fun l=> ∀w,c w→Q2 P T.k r w (dk a l w)) fun l=>∀g d n o m w,c w→f g w→e d w→k n w→j o w→l m w→ Y9 P o [m] w fun h w=>Q3 P .eql T.c (.tmp 7) (.tmp 10) n h w fun i w=>K i w
theorem Ep {b a c:Value} {w:World} {K:Value→World→Prop} (h:Zg b a c w K):Q0 P F.bM [b,a,c] w K:=Q8 (List.replicate 2 none) Tryz.func191 rfl (by decide) (by kernel_rfl) h
def Sj:V2:=[none,none,none,some ([9],[4,5,6,9,10,11,12,13,14,15,16,17,18,19]),none,none,none,none,none,none,none]
def Jq (i n:Value) (w:World) (K:Value→World→Prop):Prop:= box P T.a3 n w fun a w=>X5 P .len [T.i] T.e [false] [i] w fun m w=>lp (α:=Value) (.int .i64 0) w fun c d o w=>Q3 P .lss T.e (.tmp 9) (.tmp 8) d m w fun g w=>X1 g (indexAddr P T.i i d w fun f w=>Q2 P T.k f w fun e w=>W6 P T.k w fun b w=>Z2 P T.k b e w fun _u w=>E6 P T.i i none (some d) none w fun h w=>M5 P (.func F.bM) [] [a,b] w fun l w=>Q0 P F.f [h,l] w fun j w=>X1 j (K (.bool false) w) (Q3 P .add T.e (.tmp 9) (.const (.int .i64 1)) d (.int .i64 1) w fun k w=>c k w)) (K (.bool true) w)
theorem Rv {b a:Value} {w:World} {K:Value→World→Prop} (h:Jq b a w K):Q0 P F.aw [b,a] w K:=Q8 Sj Tryz.func148 rfl (by decide) (by kernel_rfl) h
def Rk (c:Value) (w:World) (K:Value→World→Prop):Prop:= box P T.k c w fun a w=>fieldAddr P T.k a 0 w fun b w=>Q2 P T.c b w fun d w=>K d w
theorem Q1g {a:Value} {w:World} {K:Value→World→Prop} (h:Rk a w K):Q0 P F.bY [a] w K:=Q8 (List.replicate 2 none) Tryz.func149 rfl (by decide) (by kernel_rfl) h
def Ye (q p r:Value) (w:World) (K:Value→World→Prop):Prop:= box P T.b q w fun b w=>dr w fun a c=>Q6 a (fun f=> ∀w,c w→Q2 P T.a2 p w (dk a f w)) fun f=>Q6 a (fun e=> ∀w,c w→Q2 P T.b b w (dk a e w)) fun e=>Q6 a (fun k=> ∀g d w,c w→f g w→e d w→Y9 P g [d] w (dk a k w)) fun k=>Q6 a (fun j=> ∀w,c w→Q2 P T.a2 p w (dk a j w)) fun j=>Q6 a (fun l=> ∀w,c w→Q2 P T.b r w (dk a l w)) fun l=>∀g d n o m w,c w→f g w→e d w→k n w→j o w→l m w→ Y9 P o [m] w fun h w=>Q3 P .eql T.c (.tmp 7) (.tmp 10) n h w fun i w=>K i w
theorem Dj {b a c:Value} {w:World} {K:Value→World→Prop} (h:Ye b a c w K):Q0 P F.bz [b,a,c] w K:=Q8 (List.replicate 2 none) Tryz.func192 rfl (by decide) (by kernel_rfl) h
def Hn:V2:=[none,none,none,some ([9],[4,5,6,9,10,11,12,13,14,15,16,17,18,19]),none,none,none,none,none,none,none]
def Ji (i n:Value) (w:World) (K:Value→World→Prop):Prop:= box P T.a2 n w fun a w=>X5 P .len [T.g] T.e [false] [i] w fun m w=>lp (α:=Value) (.int .i64 0) w fun c d o w=>Q3 P .lss T.e (.tmp 9) (.tmp 8) d m w fun g w=>X1 g (indexAddr P T.g i d w fun f w=>Q2 P T.b f w fun e w=>W6 P T.b w fun b w=>Z2 P T.b b e w fun _u w=>E6 P T.g i none (some d) none w fun h w=>M5 P (.func F.bz) [] [a,b] w fun l w=>Q0 P F.a [h,l] w fun j w=>X1 j (K (.bool false) w) (Q3 P .add T.e (.tmp 9) (.const (.int .i64 1)) d (.int .i64 1) w fun k w=>c k w)) (K (.bool true) w)
theorem Ho {b a:Value} {w:World} {K:Value→World→Prop} (h:Ji b a w K):Q0 P F.am [b,a] w K:=Q8 Hn Tryz.func150 rfl (by decide) (by kernel_rfl) h
def Re (d:Value) (w:World) (K:Value→World→Prop):Prop:= box P T.b d w fun a w=>fieldAddr P T.b a 0 w fun b w=>Q2 P T.c b w fun c w=>K c w
theorem Q1S {a:Value} {w:World} {K:Value→World→Prop} (h:Re a w K):Q0 P F.bZ [a] w K:=Q8 (List.replicate 2 none) Tryz.func151 rfl (by decide) (by kernel_rfl) h
def Yl (d c:Value) (w:World) (K:Value→World→Prop):Prop:= box P T.k d w fun a w=>Q2 P T.a9 c w fun e w=>Q2 P T.k a w fun g w=>Y9 P e [g] w fun f w=>J7 P .not f w fun b w=>K b w
theorem Dc {b a:Value} {w:World} {K:Value→World→Prop} (h:Yl b a w K):Q0 P F.bA [b,a] w K:=Q8 (List.replicate 2 none) Tryz.func193 rfl (by decide) (by kernel_rfl) h
def Je (e d:Value) (w:World) (K:Value→World→Prop):Prop:= box P T.a9 d w fun a w=>M5 P (.func F.bA) [] [a] w fun f w=>Q0 P F.f [e,f] w fun b w=>J7 P .not b w fun c w=>K c w
theorem Hq {b a:Value} {w:World} {K:Value→World→Prop} (h:Je b a w K):Q0 P F.an [b,a] w K:=Q8 (List.replicate 2 none) Tryz.func152 rfl (by decide) (by kernel_rfl) h
def Tj (d:Value) (w:World) (K:Value→World→Prop):Prop:= Q3 P .eql T.c (.tmp 3) (.const (.string ⟨#[105,110,116]⟩)) d (.string ⟨#[105,110,116]⟩) w fun e w=>Q1 e false w (fun w J=>J d w) fun h w=>Q1 e false w (Q3 P .eql T.c (.tmp 6) (.const (.string ⟨#[98,111,111,108]⟩)) h (.string ⟨#[98,111,111,108]⟩)) fun g w=>pick P e (.bool true) g w fun b w=>Q1 b false w (fun w J=>J d w) fun c w=>Q1 b false w (Q3 P .eql T.c (.tmp 10) (.const (.string ⟨#[116,101,120,116]⟩)) c (.string ⟨#[116,101,120,116]⟩)) fun f w=>pick P b (.bool true) f w fun a w=>K a w
theorem Q4Z {a:Value} {w:World} {K:Value→World→Prop} (h:Tj a w K):Q0 P F.ac [a] w K:=Q8 (List.replicate 2 none) Tryz.func40 rfl (by decide) (by kernel_rfl) h
def Jd (h f:Value) (w:World) (K:Value→World→Prop):Prop:= X5 P .len [T.c] T.e [false] [h] w fun o w=>X5 P .len [T.c] T.e [false] [f] w fun n w=>Q3 P .geq T.e (.tmp 6) (.tmp 8) o n w fun a w=>Q1 a true w (fun w J=>J h w) fun m w=>Q1 a true w (fun w J=>J h w) fun d w=>Q1 a true w (X5 P .len [T.c] T.e [false] [d]) fun c w=>Q1 a true w (fun w J=>J f w) fun b w=>Q1 a true w (X5 P .len [T.c] T.e [false] [b]) fun i w=>Q1 a true w (Q3 P .sub T.e (.tmp 13) (.tmp 15) c i) fun e w=>Q1 a true w (E6 P T.c m (some e) none none) fun l w=>Q1 a true w (fun w J=>J f w) fun j w=>Q1 a true w (Q3 P .eql T.c (.tmp 17) (.tmp 18) l j) fun k w=>pick P a k (.bool false) w fun g w=>K g w
theorem Ht {b a:Value} {w:World} {K:Value→World→Prop} (h:Jd b a w K):Q0 P F.a5 [b,a] w K:=Q8 (List.replicate 2 none) Tryz.func183 rfl (by decide) (by kernel_rfl) h
def Lz (c b:Value) (w:World) (K:Value→World→Prop):Prop:= Q0 P F.a5 [c,b] w fun a w=>K a w
theorem Kl {b a:Value} {w:World} {K:Value→World→Prop} (h:Lz b a w K):Q0 P F.bn [b,a] w K:=Q8 (List.replicate 2 none) Tryz.func138 rfl (by decide) (by kernel_rfl) h
def Zl (a f:Value) (w:World) (K:Value→World→Prop):Prop:= Q0 P F.a5 [a,f] w fun g w=>X1 g (X5 P .len [T.c] T.e [false] [a] w fun e w=>X5 P .len [T.c] T.e [false] [f] w fun d w=>Q3 P .sub T.e (.tmp 10) (.tmp 12) e d w fun c w=>E6 P T.c a none (some c) none w fun b w=>K b w) (K a w)
theorem Ey {b a:Value} {w:World} {K:Value→World→Prop} (h:Zl b a w K):Q0 P F.bK [b,a] w K:=Q8 (List.replicate 5 none) Tryz.func184 rfl (by decide) (by kernel_rfl) h
def Ls (c b:Value) (w:World) (K:Value→World→Prop):Prop:= Q0 P F.bK [c,b] w fun a w=>K a w
theorem Bx {b a:Value} {w:World} {K:Value→World→Prop} (h:Ls b a w K):Q0 P F.be [b,a] w K:=Q8 (List.replicate 2 none) Tryz.func139 rfl (by decide) (by kernel_rfl) h
def Q5M:V2:=[none,none,none,some ([0,4],[0,4,5,6,7,8,9,10]),none,none,none]
def Q0y (e:Value) (w:World) (K:Value→World→Prop):Prop:= lp (α:=Value×Value) (e,(.int .i64 0)) w fun a b g w=>Q0 P F.bn [b.1,(.string ⟨#[91,93]⟩)] w fun f w=>X1 f (Q0 P F.be [b.1,(.string ⟨#[91,93]⟩)] w fun d w=>Q3 P .add T.e (.tmp 9) (.const (.int .i64 1)) b.2 (.int .i64 1) w fun c w=>a (d,c) w) (K (.tuple #[b.1,b.2]) w)
theorem Q5t {a:Value} {w:World} {K:Value→World→Prop} (h:Q0y a w K):Q0 P F.c3 [a] w K:=Q8 Q5M Tryz.func91 rfl (by decide) (by kernel_rfl) h
def Pm (l:Value) (w:World) (K:Value→World→Prop):Prop:= Q0 P F.c3 [l] w fun i w=>ext P i 0 w fun j w=>ext P i 1 w fun k w=>Q3 P .leq T.e (.tmp 10) (.const (.int .i64 3)) k (.int .i64 3) w fun a w=>Q1 a true w (fun w J=>J j w) fun d w=>Q1 a true w (Q0 P F.ac [d]) fun c w=>Q1 a true w (fun w J=>J c w) fun b w=>Q1 b false w (fun w J=>J j w) fun e w=>Q1 b false w (Q0 P F.ae [e]) fun h w=>Q1 a true w (pick P b (.bool true) h) fun f w=>pick P a f (.bool false) w fun g w=>K g w
theorem Q3S {a:Value} {w:World} {K:Value→World→Prop} (h:Pm a w K):Q0 P F.a1 [a] w K:=Q8 (List.replicate 3 none) Tryz.func39 rfl (by decide) (by kernel_rfl) h
def Cj (b:Value) (w:World) (K:Value→World→Prop):Prop:= Q0 P F.bF [b] w fun a w=>Q1 a true w (fun w J=>J b w) fun f w=>Q1 a true w (Q0 P F.ae [f]) fun c w=>Q1 a true w (J7 P .not c) fun d w=>pick P a d (.bool false) w fun e w=>K e w
theorem Q2v {a:Value} {w:World} {K:Value→World→Prop} (h:Cj a w K):Q0 P F.bu [a] w K:=Q8 (List.replicate 2 none) Tryz.func154 rfl (by decide) (by kernel_rfl) h
def Hv (h:Value) (w:World) (K:Value→World→Prop):Prop:= box P T.k h w fun a w=>fieldAddr P T.k a 0 w fun f w=>Q2 P T.c f w fun i w=>Q0 P F.bu [i] w fun b w=>Q1 b true w (fieldAddr P T.k a 1) fun d w=>Q1 b true w (Q2 P T.c d) fun e w=>Q1 b true w (Q0 P F.a1 [e]) fun g w=>pick P b g (.bool false) w fun c w=>K c w
theorem Q1L {a:Value} {w:World} {K:Value→World→Prop} (h:Hv a w K):Q0 P F.bi [a] w K:=Q8 (List.replicate 2 none) Tryz.func153 rfl (by decide) (by kernel_rfl) h
def Xn (d c:Value) (w:World) (K:Value→World→Prop):Prop:= box P T.b d w fun a w=>Q2 P T.a7 c w fun e w=>Q2 P T.b a w fun g w=>Y9 P e [g] w fun f w=>J7 P .not f w fun b w=>K b w
theorem Oj {b a:Value} {w:World} {K:Value→World→Prop} (h:Xn b a w K):Q0 P F.bv [b,a] w K:=Q8 (List.replicate 2 none) Tryz.func194 rfl (by decide) (by kernel_rfl) h
def Yy (e d:Value) (w:World) (K:Value→World→Prop):Prop:= box P T.a7 d w fun a w=>M5 P (.func F.bv) [] [a] w fun f w=>Q0 P F.a [e,f] w fun b w=>J7 P .not b w fun c w=>K c w
theorem Ek {b a:Value} {w:World} {K:Value→World→Prop} (h:Yy b a w K):Q0 P F.ai [b,a] w K:=Q8 (List.replicate 2 none) Tryz.func155 rfl (by decide) (by kernel_rfl) h
def Ej (C A:Value) (w:World) (K:Value→World→Prop):Prop:= box P T.n C w fun a w=>fieldAddr P T.n a 0 w fun E w=>Q2 P T.e E w fun H w=>Q3 P .geq T.e (.tmp 5) (.const (.int .i64 0)) H (.int .i64 0) w fun f w=>Q1 f true w (fieldAddr P T.n a 1) fun D w=>Q1 f true w (Q2 P T.e D) fun B w=>Q1 f true w (fieldAddr P T.n a 0) fun h w=>Q1 f true w (Q2 P T.e h) fun i w=>Q1 f true w (Q3 P .gtr T.e (.tmp 9) (.tmp 11) B i) fun n w=>pick P f n (.bool false) w fun b w=>Q1 b true w (fieldAddr P T.n a 1) fun k w=>Q1 b true w (Q2 P T.e k) fun s w=>Q1 b true w (Q2 P T.e A) fun y w=>Q1 b true w (Q3 P .leq T.e (.tmp 16) (.tmp 17) s y) fun t w=>pick P b t (.bool false) w fun d w=>Q1 d true w (fieldAddr P T.n a 2) fun j w=>Q1 d true w (Q2 P T.e j) fun o w=>Q1 d true w (Q3 P .geq T.e (.tmp 22) (.const (.int .i64 0)) o (.int .i64 0)) fun z w=>pick P d z (.bool false) w fun c w=>Q1 c true w (fieldAddr P T.n a 2) fun l w=>Q1 c true w (Q2 P T.e l) fun v w=>Q1 c true w (Q2 P T.e A) fun u w=>Q1 c true w (Q3 P .lss T.e (.tmp 27) (.tmp 28) v u) fun g w=>pick P c g (.bool false) w fun e w=>Q1 e true w (fieldAddr P T.n a 3) fun q w=>Q1 e true w (Q2 P T.c q) fun m w=>Q1 e true w (Q0 P F.ae [m]) fun r w=>pick P e r (.bool false) w fun p w=>K p w
theorem Q0R {b a:Value} {w:World} {K:Value→World→Prop} (h:Ej b a w K):Q0 P F.b0 [b,a] w K:=Q8 (List.replicate 2 none) Tryz.func195 rfl (by decide) (by kernel_rfl) h
def Qr:V2:=[none,none,none,some ([8],[4,5,8,9,10,11,12,13,14,15,16,17,18]),none,none,none,none,none,none,none]
def R4 (g i:Value) (w:World) (K:Value→World→Prop):Prop:= X5 P .len [T.l] T.e [false] [g] w fun h w=>lp (α:=Value) (.int .i64 0) w fun a b k w=>Q3 P .lss T.e (.tmp 8) (.tmp 7) b h w fun j w=>X1 j (indexAddr P T.l g b w fun c w=>Q2 P T.m c w fun e w=>Y9 P i [e] w fun d w=>X1 d (K b w) (Q3 P .add T.e (.tmp 8) (.const (.int .i64 1)) b (.int .i64 1) w fun f w=>a f w)) (K (.int .i64 (-1)) w)
theorem Xc {b a:Value} {w:World} {K:Value→World→Prop} (h:R4 b a w K):Q0 P F.y [b,a] w K:=Q8 Qr Tryz.func224 rfl (by decide) (by kernel_rfl) h
def H2 (d c:Value) (w:World) (K:Value→World→Prop):Prop:= Q0 P F.y [d,c] w fun a w=>Q3 P .geq T.e (.tmp 7) (.const (.int .i64 0)) a (.int .i64 0) w fun b w=>K b w
theorem T4 {b a:Value} {w:World} {K:Value→World→Prop} (h:H2 b a w K):Q0 P F.l [b,a] w K:=Q8 (List.replicate 2 none) Tryz.func213 rfl (by decide) (by kernel_rfl) h
def Xz (d c:Value) (w:World) (K:Value→World→Prop):Prop:= box P T.m d w fun a w=>Q2 P T.ab c w fun e w=>Q2 P T.m a w fun g w=>Y9 P e [g] w fun f w=>J7 P .not f w fun b w=>K b w
theorem Ou {b a:Value} {w:World} {K:Value→World→Prop} (h:Xz b a w K):Q0 P F.bB [b,a] w K:=Q8 (List.replicate 2 none) Tryz.func214 rfl (by decide) (by kernel_rfl) h
def Jh (e d:Value) (w:World) (K:Value→World→Prop):Prop:= box P T.ab d w fun a w=>M5 P (.func F.bB) [] [a] w fun f w=>Q0 P F.l [e,f] w fun b w=>J7 P .not b w fun c w=>K c w
theorem Hr {b a:Value} {w:World} {K:Value→World→Prop} (h:Jh b a w K):Q0 P F.ap [b,a] w K:=Q8 (List.replicate 2 none) Tryz.func196 rfl (by decide) (by kernel_rfl) h
def Zi:V2:=[none,none,none,some ([8],[4,5,8,9,10,11,12,13,14,15,16,17,18]),none,none,none,none,none,none,none]
def B3 (g i:Value) (w:World) (K:Value→World→Prop):Prop:= X5 P .len [T.aj] T.e [false] [g] w fun h w=>lp (α:=Value) (.int .i64 0) w fun a b k w=>Q3 P .lss T.e (.tmp 8) (.tmp 7) b h w fun j w=>X1 j (indexAddr P T.aj g b w fun c w=>Q2 P T.a6 c w fun e w=>Y9 P i [e] w fun d w=>X1 d (K b w) (Q3 P .add T.e (.tmp 8) (.const (.int .i64 1)) b (.int .i64 1) w fun f w=>a f w)) (K (.int .i64 (-1)) w)
theorem Zo {b a:Value} {w:World} {K:Value→World→Prop} (h:B3 b a w K):Q0 P F.q [b,a] w K:=Q8 Zi Tryz.func236 rfl (by decide) (by kernel_rfl) h
def Gv (d c:Value) (w:World) (K:Value→World→Prop):Prop:= box P T.a6 d w fun a w=>fieldAddr P T.a6 a 0 w fun e w=>Q2 P T.c e w fun g w=>Q2 P T.c c w fun f w=>Q3 P .eql T.c (.tmp 5) (.tmp 6) g f w fun b w=>K b w
theorem Q3m {b a:Value} {w:World} {K:Value→World→Prop} (h:Gv b a w K):Q0 P F.cL [b,a] w K:=Q8 (List.replicate 2 none) Tryz.func237 rfl (by decide) (by kernel_rfl) h
def Q0w (c:Value) (w:World) (K:Value→World→Prop):Prop:= box P T.c c w fun a w=>E6 P T.a8 (.pointer (some ⟨G.a,0,none⟩)) none none none w fun b w=>M5 P (.func F.cL) [] [a] w fun d w=>Q0 P F.q [b,d] w fun e w=>K e w
theorem Q5v {a:Value} {w:World} {K:Value→World→Prop} (h:Q0w a w K):Q0 P F.cD [a] w K:=Q8 (List.replicate 2 none) Tryz.func225 rfl (by decide) (by kernel_rfl) h
def Ph (q:Value) (w:World) (K:Value→World→Prop):Prop:= Q0 P F.cD [q] w fun o w=>Q3 P .lss T.e (.tmp 8) (.const (.int .i64 0)) o (.int .i64 0) w fun p w=>X1 p (K (.tuple #[(.bool false),(.bool false),(.bool false)]) w) (dr w fun a l=>Q6 a (fun e=> ∀w,l w→indexAddr P T.a8 (.pointer (some ⟨G.a,0,none⟩)) o w (dk a e w)) fun e=>Q6 a (fun c=> ∀b w,l w→e b w→fieldAddr P T.a6 b 1 w (dk a c w)) fun c=>Q6 a (fun g=> ∀w,l w→indexAddr P T.a8 (.pointer (some ⟨G.a,0,none⟩)) o w (dk a g w)) fun g=>Q6 a (fun i=> ∀d w,l w→g d w→fieldAddr P T.a6 d 2 w (dk a i w)) fun i=>Q6 a (fun k=> ∀f w,l w→c f w→Q2 P T.p f w (dk a k w)) fun k=>Q6 a (fun j=> ∀h w,l w→i h w→Q2 P T.p h w (dk a j w)) fun j=>∀b f d h m n w,l w→e b w→c f w→g d w→i h w→k m w→j n w→ K (.tuple #[m,n,(.bool true)]) w)
theorem Q4C {a:Value} {w:World} {K:Value→World→Prop} (h:Ph a w K):Q0 P F.bU [a] w K:=Q8 (List.replicate 6 none) Tryz.func215 rfl (by decide) (by kernel_rfl) h
def Jg (c b:Value) (w:World) (K:Value→World→Prop):Prop:= Q0 P F.bD [c,b] w fun a w=>K a w
theorem Hs {b a:Value} {w:World} {K:Value→World→Prop} (h:Jg b a w K):Q0 P F.ar [b,a] w K:=Q8 (List.replicate 2 none) Tryz.func223 rfl (by decide) (by kernel_rfl) h
def Ix:V2:=[none,none,none,none,none,none,none,none,none,none,none,none,none,none,none,none,none,some ([8,10],[4,8,10,11,12,13,57,58,59,60,61,62,63,64,65,66,67,68,69,70,71,72,73,74,75,76,77,78,79,80,81,82,83,84,85,86,87,88,89,90,91,92,93,94,95,96,97,98,99,100,101,102,103,104,105,106,107,108,109,110,111,112,113,114,115,116,117,118,119,120,121,122,123,124,125,126,127,128,129,130,131,132,133,134,135,136,137,138,139,140,141,142]),none,none,some ([8],[4,8,11,60,61,62,63,64,65,66,67,68,69,70,71,72,73,74,75,76,77]),none,none,none,none,none,none,none,none,none,none,none,none,none,none,none,none,none,none,none,none,none,none,none]
def Ly (h l:Value) (w:World) (K:Value→World→Prop):Prop:= X5 P .len [T.c] T.e [false] [l] w fun e w=>Q3 P .eql T.e (.tmp 17) (.const (.int .i64 0)) e (.int .i64 0) w fun m w=>Q1 m false w (fun w J=>J l w) fun bb w=>Q1 m false w (fun w J=>J h w) fun ax w=>Q1 m false w (Q3 P .eql T.c (.tmp 20) (.tmp 21) bb ax) fun aj w=>pick P m (.bool true) aj w fun bf w=>X1 bf (K (.int .i64 0) w) (Q3 P .eql T.e (.tmp 25) (.const (.int .i64 1)) e (.int .i64 1) w fun az w=>X1 az (E2 P T.c l (.int .i64 0) w fun aw w=>Q0 P F.ar [h,aw] w fun ah w=>K ah w) (X5 P .len [T.c] T.e [false] [h] w fun ba w=>Q3 P .geq T.e (.tmp 32) (.tmp 34) e ba w fun a5 w=>X1 a5 (K (.int .i64 (-1)) w) (Q2 P T.e (.pointer (some ⟨G.c,0,none⟩)) w fun ak w=>Q3 P .leq T.e (.tmp 37) (.tmp 38) e ak w fun k w=>Q1 k true w (fun w J=>J h w) fun a9 w=>Q1 k true w (X5 P .len [T.c] T.e [false] [a9]) fun af w=>Q1 k true w (Q3 P .leq T.e (.tmp 42) (.const (.int .i64 64)) af (.int .i64 64)) fun ay w=>pick P k ay (.bool false) w fun a6 w=>X1 a6 (Q0 P F.c1 [h,l] w fun be w=>K be w) (E2 P T.c l (.int .i64 0) w fun Q w=>E2 P T.c l (.int .i64 1) w fun a8 w=>X5 P .len [T.c] T.e [false] [h] w fun ab w=>Q3 P .sub T.e (.tmp 53) (.tmp 54) ab e w fun ap w=>Q3 P .add T.e (.tmp 55) (.const (.int .i64 1)) ap (.int .i64 1) w fun q w=>lp (α:=Value×Value) ((.int .i64 0),(.int .i64 0)) w fun j g d_ w=>Q3 P .lss T.e (.tmp 57) (.tmp 58) g.1 q w fun am w=>X1 am (jn (α:=Value) w (fun Z w=>E2 P T.c h g.1 w fun an w=>Q3 P .neq T.w (.tmp 62) (.tmp 63) an Q w fun ad w=>X1 ad (Q3 P .add T.e (.tmp 66) (.const (.int .i64 1)) g.1 (.int .i64 1) w fun a7 w=>E6 P T.c h (some a7) (some q) none w fun a3 w=>Q0 P F.ar [a3,Q] w fun V w=>Q3 P .lss T.e (.tmp 72) (.const (.int .i64 0)) V (.int .i64 0) w fun ao w=>X1 ao (K (.int .i64 (-1)) w) (Q3 P .add T.e (.tmp 75) (.const (.int .i64 1)) V (.int .i64 1) w fun aa w=>Q3 P .add T.e (.tmp 74) (.tmp 76) g.1 aa w fun ar w=>Z ar w)) (Z g.1 w)) fun i d_ w=>Q3 P .add T.e (.tmp 79) (.const (.int .i64 1)) i (.int .i64 1) w fun bc w=>E2 P T.c h bc w fun aq w=>Q3 P .eql T.w (.tmp 81) (.tmp 82) aq a8 w fun b w=>Q1 b true w (fun w J=>J h w) fun ac w=>Q1 b true w (fun w J=>J i w) fun av w=>Q1 b true w (fun w J=>J i w) fun al w=>Q1 b true w (fun w J=>J e w) fun a4 w=>Q1 b true w (Q3 P .add T.e (.tmp 87) (.tmp 88) al a4) fun bd w=>Q1 b true w (E6 P T.c ac (some av) (some bd) none) fun ai w=>Q1 b true w (fun w J=>J l w) fun ag w=>Q1 b true w (Q3 P .eql T.c (.tmp 90) (.tmp 91) ai ag) fun a2 w=>pick P b a2 (.bool false) w fun ae w=>X1 ae (K i w) (Q3 P .add T.e (.tmp 95) (.const (.int .i64 1)) i (.int .i64 1) w fun d w=>Q3 P .add T.e (.tmp 97) (.const (.int .i64 1)) g.2 (.int .i64 1) w fun p w=>Q2 P T.e (.pointer (some ⟨G.c,0,none⟩)) w fun s w=>Q3 P .leq T.e (.tmp 99) (.tmp 100) e s w fun c w=>Q1 c true w (fun w J=>J p w) fun X w=>Q1 c true w (fun w J=>J d w) fun A w=>Q1 c true w (Q0 P F.cP [A]) fun z w=>Q1 c true w (Q3 P .gtr T.e (.tmp 103) (.tmp 105) X z) fun M w=>pick P c M (.bool false) w fun C w=>X1 C (E6 P T.c h (some d) none none w fun v w=>Q0 P F.c1 [v,l] w fun o w=>Q3 P .geq T.e (.tmp 113) (.const (.int .i64 0)) o (.int .i64 0) w fun Y w=>X1 Y (Q3 P .add T.e (.tmp 115) (.tmp 116) o d w fun H w=>K H w) (K (.int .i64 (-1)) w)) (Q2 P T.e (.pointer (some ⟨G.c,0,none⟩)) w fun R w=>Q3 P .gtr T.e (.tmp 118) (.tmp 119) e R w fun a w=>Q1 a true w (fun w J=>J p w) fun r w=>Q1 a true w (fun w J=>J d w) fun U w=>Q1 a true w (Q3 P .shr T.e (.tmp 123) (.const (.int .u64 4)) U (.int .u64 4)) fun W w=>Q1 a true w (Q3 P .add T.e (.const (.int .i64 4)) (.tmp 124) (.int .i64 4) W) fun N w=>Q1 a true w (Q3 P .geq T.e (.tmp 122) (.tmp 125) r N) fun E w=>pick P a E (.bool false) w fun f w=>Q1 f true w (fun w J=>J d w) fun O w=>Q1 f true w (fun w J=>J q w) fun t w=>Q1 f true w (Q3 P .lss T.e (.tmp 129) (.tmp 130) O t) fun D w=>pick P f D (.bool false) w fun B w=>X1 B (E6 P T.c h (some d) none none w fun u w=>Q0 P F.cx [u,l] w fun n w=>Q3 P .lss T.e (.tmp 138) (.const (.int .i64 0)) n (.int .i64 0) w fun L w=>X1 L (K (.int .i64 (-1)) w) (Q3 P .add T.e (.tmp 140) (.tmp 141) d n w fun y w=>K y w)) (j (d,p) w)))) (K (.int .i64 (-1)) w)))))
theorem Kn {b a:Value} {w:World} {K:Value→World→Prop} (h:Ly b a w K):Q0 P F.bp [b,a] w K:=Q8 Ix Tryz.func222 rfl (by decide) (by kernel_rfl) h
def Om (l n:Value) (w:World) (K:Value→World→Prop):Prop:= Q0 P F.bp [l,n] w fun h w=>Q3 P .geq T.e (.tmp 11) (.const (.int .i64 0)) h (.int .i64 0) w fun m w=>X1 m (dr w fun e i=>Q6 e (fun f=> ∀w,i w→E6 P T.c l none (some h) none w (dk e f w)) fun f=>Q6 e (fun a=> ∀w,i w→X5 P .len [T.c] T.e [false] [n] w (dk e a w)) fun a=>Q6 e (fun c=> ∀d w,i w→a d w→Q3 P .add T.e (.tmp 17) (.tmp 19) h d w (dk e c w)) fun c=>Q6 e (fun g=> ∀b w,i w→c b w→E6 P T.c l (some b) none none w (dk e g w)) fun g=>∀j d b k w,i w→f j w→a d w→c b w→g k w→ K (.tuple #[j,k,(.bool true)]) w) (K (.tuple #[l,(.string ⟨#[]⟩),(.bool false)]) w)
theorem Q0l {b a:Value} {w:World} {K:Value→World→Prop} (h:Om b a w K):Q0 P F.cw [b,a] w K:=Q8 (List.replicate 6 none) Tryz.func207 rfl (by decide) (by kernel_rfl) h
def Gw (f e:Value) (w:World) (K:Value→World→Prop):Prop:= Q0 P F.cw [f,e] w fun c w=>ext P c 0 w fun b w=>ext P c 1 w fun d w=>ext P c 2 w fun a w=>K (.tuple #[b,d,a]) w
theorem Q3n {b a:Value} {w:World} {K:Value→World→Prop} (h:Gw b a w K):Q0 P F.cb [b,a] w K:=Q8 (List.replicate 2 none) Tryz.func178 rfl (by decide) (by kernel_rfl) h
def Po (t:Value) (w:World) (K:Value→World→Prop):Prop:= Q0 P F.cb [t,(.string ⟨#[46]⟩)] w fun d w=>ext P d 0 w fun f w=>ext P d 1 w fun e w=>ext P d 2 w fun h w=>J7 P .not h w fun b w=>Q1 b false w (fun w J=>J f w) fun r w=>Q1 b false w (Q0 P F.ae [r]) fun o w=>Q1 b false w (J7 P .not o) fun i w=>pick P b (.bool true) i w fun c w=>Q1 c false w (fun w J=>J e w) fun l w=>Q1 c false w (Q0 P F.bF [l]) fun s w=>Q1 c false w (J7 P .not s) fun k w=>pick P c (.bool true) k w fun a w=>Q1 a false w (fun w J=>J e w) fun q w=>Q1 a false w (E2 P T.c q (.int .i64 0)) fun p w=>Q1 a false w (conv P T.w T.af p) fun g w=>Q1 a false w (Q0 P F.bS [g]) fun j w=>Q1 a false w (J7 P .not j) fun m w=>pick P a (.bool true) m w fun n w=>X1 n (K (.tuple #[(.string ⟨#[]⟩),(.string ⟨#[]⟩),(.int .i64 30)]) w) (K (.tuple #[f,e,(.int .i64 0)]) w)
theorem Q4L {a:Value} {w:World} {K:Value→World→Prop} (h:Po a w K):Q0 P F.cu [a] w K:=Q8 (List.replicate 6 none) Tryz.func130 rfl (by decide) (by kernel_rfl) h
end Go.Proofs.YtfppjenblllfaaaGreatDoor

set_option maxRecDepth 100000
namespace Go.Proofs.YtfppjenblllfaaaGreatDoor
open Go.Emb
def Q0P (d:Value) (w:World) (K:Value→World→Prop):Prop:= Q0 P F.c3 [d] w fun c w=>ext P c 0 w fun f w=>ext P c 1 w fun e w=>Q0 P F.a1 [d] w fun b w=>J7 P .not b w fun a w=>X1 a (K (.int .i64 0) w) (K e w)
theorem Q5f {a:Value} {w:World} {K:Value→World→Prop} (h:Q0P a w K):Q0 P F.cE [a] w K:=Q8 (List.replicate 6 none) Tryz.func228 rfl (by decide) (by kernel_rfl) h
def Q5R:V2:=[none,none,none,none,none,none,none,some ([27],[27,28,29]),none,none,none,none,none,none]
def Q0B (g b:Value) (w:World) (K:Value→World→Prop):Prop:= Q3 P .eql T.c (.tmp 8) (.const (.string ⟨#[119,111,114,100]⟩)) g (.string ⟨#[119,111,114,100]⟩) w fun k w=>X1 k (X5 P .len [T.c] T.e [false] [b] w fun s w=>Q3 P .leq T.e (.tmp 12) (.const (.int .i64 64)) s (.int .i64 64) w fun e w=>Q1 e true w (fun w J=>J b w) fun n w=>Q1 e true w (Q0 P F.bw [n]) fun D w=>pick P e D (.bool false) w fun d w=>Q1 d true w (fun w J=>J b w) fun q w=>Q1 d true w (Q0 P F.cl [q,(.string ⟨#[10]⟩)]) fun E w=>Q1 d true w (J7 P .not E) fun m w=>pick P d m (.bool false) w fun v w=>K v w) (Q3 P .eql T.c (.tmp 8) (.const (.string ⟨#[110,101,119]⟩)) g (.string ⟨#[110,101,119]⟩) w fun u w=>X1 u (Q0 P F.ae [b] w fun p w=>K p w) (jn (α:=Value) w (fun L w=>Q3 P .eql T.c (.tmp 8) (.const (.string ⟨#[105,115]⟩)) g (.string ⟨#[105,115]⟩) w fun h w=>X1 h (L h w) (Q3 P .eql T.c (.tmp 8) (.const (.string ⟨#[99,97,115,116]⟩)) g (.string ⟨#[99,97,115,116]⟩) w fun j w=>L j w)) fun M Q w=>X1 M (Q0 P F.a1 [b] w fun a w=>Q1 a true w (fun w J=>J b w) fun r w=>Q1 a true w (Q0 P F.ac [r]) fun C w=>Q1 a true w (J7 P .not C) fun y w=>pick P a y (.bool false) w fun t w=>K t w) (Q3 P .eql T.c (.tmp 8) (.const (.string ⟨#[97,114,114,97,121]⟩)) g (.string ⟨#[97,114,114,97,121]⟩) w fun A w=>X1 A (Q0 P F.a1 [b] w fun c w=>Q1 c true w (fun w J=>J b w) fun l w=>Q1 c true w (Q0 P F.cE [l]) fun o w=>Q1 c true w (Q3 P .lss T.e (.tmp 43) (.const (.int .i64 3)) o (.int .i64 3)) fun z w=>pick P c z (.bool false) w fun H w=>K H w) (Q0 P F.cu [b] w fun f w=>ext P f 0 w fun O w=>ext P f 1 w fun N w=>ext P f 2 w fun B w=>Q3 P .eql T.s (.tmp 52) (.const (.int .i64 0)) B (.int .i64 0) w fun i w=>K i w))))
theorem Q5U {b a:Value} {w:World} {K:Value→World→Prop} (h:Q0B b a w K):Q0 P F.cC [b,a] w K:=Q8 Q5R Tryz.func216 rfl (by decide) (by kernel_rfl) h
def Q54:V2:=[none,none,none,none,none,some ([16],[16,17,18,19,20,21,22,23,24,25,26,27,28,29,30,31,32,33,34,35,36,37,38,39]),none,none,none,none]
def Tc (A:Value) (w:World) (K:Value→World→Prop):Prop:= box P T.m A w fun a w=>fieldAddr P T.m a 0 w fun B w=>Q2 P T.c B w fun C w=>Q0 P F.bU [C] w fun i w=>ext P i 0 w fun h w=>ext P i 1 w fun b w=>ext P i 2 w fun n w=>J7 P .not n w fun k w=>X1 k (K (.int .i64 40) w) (jn (α:=Value) w (fun o w=>J7 P .not h w fun d w=>Q1 d true w (fieldAddr P T.m a 1) fun u w=>Q1 d true w (Q2 P T.al u) fun j w=>Q1 d true w (Q3 P .neq T.al (.tmp 21) (.const (.int .i64 0)) j (.int .i64 0)) fun q w=>pick P d q (.bool false) w fun f w=>X1 f (o f w) (J7 P .not b w fun c w=>Q1 c true w (fieldAddr P T.m a 2) fun z w=>Q1 c true w (Q2 P T.c z) fun y w=>Q1 c true w (Q3 P .neq T.c (.tmp 28) (.const (.string ⟨#[]⟩)) y (.string ⟨#[]⟩)) fun g w=>pick P c g (.bool false) w fun e w=>X1 e (o e w) (Q1 b true w (fieldAddr P T.m a 0) fun l w=>Q1 b true w (Q2 P T.c l) fun t w=>Q1 b true w (fieldAddr P T.m a 2) fun r w=>Q1 b true w (Q2 P T.c r) fun p w=>Q1 b true w (Q0 P F.cC [t,p]) fun v w=>Q1 b true w (J7 P .not v) fun s w=>pick P b s (.bool false) w fun m w=>o m w))) fun D E w=>X1 D (K (.int .i64 41) w) (K (.int .i64 0) w))
theorem Q3N {a:Value} {w:World} {K:Value→World→Prop} (h:Tc a w K):Q0 P F.cv [a] w K:=Q8 Q54 Tryz.func198 rfl (by decide) (by kernel_rfl) h
def El (c:Value) (w:World) (K:Value→World→Prop):Prop:= box P T.m c w fun a w=>Q2 P T.m a w fun b w=>Q0 P F.cv [b] w fun d w=>Q3 P .eql T.s (.tmp 4) (.const (.int .i64 0)) d (.int .i64 0) w fun e w=>K e w
theorem Q13 {a:Value} {w:World} {K:Value→World→Prop} (h:El a w K):Q0 P F.b1 [a] w K:=Q8 (List.replicate 2 none) Tryz.func197 rfl (by decide) (by kernel_rfl) h
def Qu:V2:=[none,none,none,some ([8],[4,5,8,9,10,11,12,13,14,15,16,17,18]),none,none,none,none,none,none,none]
def R1 (g i:Value) (w:World) (K:Value→World→Prop):Prop:= X5 P .len [T.o] T.e [false] [g] w fun h w=>lp (α:=Value) (.int .i64 0) w fun a b k w=>Q3 P .lss T.e (.tmp 8) (.tmp 7) b h w fun j w=>X1 j (indexAddr P T.o g b w fun c w=>Q2 P T.n c w fun e w=>Y9 P i [e] w fun d w=>X1 d (K b w) (Q3 P .add T.e (.tmp 8) (.const (.int .i64 1)) b (.int .i64 1) w fun f w=>a f w)) (K (.int .i64 (-1)) w)
theorem Qy {b a:Value} {w:World} {K:Value→World→Prop} (h:R1 b a w K):Q0 P F.z [b,a] w K:=Q8 Qu Tryz.func229 rfl (by decide) (by kernel_rfl) h
def H1 (d c:Value) (w:World) (K:Value→World→Prop):Prop:= Q0 P F.z [d,c] w fun a w=>Q3 P .geq T.e (.tmp 7) (.const (.int .i64 0)) a (.int .i64 0) w fun b w=>K b w
theorem T3 {b a:Value} {w:World} {K:Value→World→Prop} (h:H1 b a w K):Q0 P F.m [b,a] w K:=Q8 (List.replicate 2 none) Tryz.func217 rfl (by decide) (by kernel_rfl) h
def Yk (d c:Value) (w:World) (K:Value→World→Prop):Prop:= box P T.n d w fun a w=>Q2 P T.aa c w fun e w=>Q2 P T.n a w fun g w=>Y9 P e [g] w fun f w=>J7 P .not f w fun b w=>K b w
theorem Ov {b a:Value} {w:World} {K:Value→World→Prop} (h:Yk b a w K):Q0 P F.bC [b,a] w K:=Q8 (List.replicate 2 none) Tryz.func218 rfl (by decide) (by kernel_rfl) h
def Jc (e d:Value) (w:World) (K:Value→World→Prop):Prop:= box P T.aa d w fun a w=>M5 P (.func F.bC) [] [a] w fun f w=>Q0 P F.m [e,f] w fun b w=>J7 P .not b w fun c w=>K c w
theorem Hp {b a:Value} {w:World} {K:Value→World→Prop} (h:Jc b a w K):Q0 P F.aq [b,a] w K:=Q8 (List.replicate 2 none) Tryz.func199 rfl (by decide) (by kernel_rfl) h
def Cq (a0:Value) (w:World) (K:Value→World→Prop):Prop:= box P T.b a0 w fun b w=>fieldAddr P T.b b 0 w fun t5 w=>Q2 P T.c t5 w fun t6 w=>Q0 P F.bu [t6] w fun t7 w=>J7 P .not t7 w fun i w=>Q1 i false w (fieldAddr P T.b b 1) fun m w=>Q1 i false w (Q2 P T.d m) fun q w=>Q1 i false w (Q0 P F.a3 [q,(.func (.func F.a1) #[] #[])]) fun M w=>Q1 i false w (J7 P .not M) fun s w=>pick P i (.bool true) s w fun c w=>Q1 c false w (fieldAddr P T.b b 2) fun af w=>Q1 c false w (Q2 P T.c af) fun ak w=>Q1 c false w (Q3 P .neq T.c (.tmp 17) (.const (.string ⟨#[]⟩)) ak (.string ⟨#[]⟩)) fun ah w=>Q1 c false w (fun w J=>J ah w) fun d w=>Q1 d true w (fieldAddr P T.b b 2) fun ag w=>Q1 d true w (Q2 P T.c ag) fun z w=>Q1 d true w (Q0 P F.a1 [z]) fun Q w=>Q1 d true w (J7 P .not Q) fun n w=>Q1 c false w (pick P d n (.bool false)) fun O w=>pick P c (.bool true) O w fun p w=>X1 p (K (.bool false) w) (fieldAddr P T.b b 3 w fun C w=>Q2 P T.p C w fun aj w=>X1 aj (fieldAddr P T.b b 4 w fun B w=>Q2 P T.e B w fun k w=>Q3 P .eql T.e (.tmp 29) (.const (.int .i64 0)) k (.int .i64 0) w fun e w=>Q1 e true w (fieldAddr P T.b b 5) fun Z w=>Q1 e true w (Q2 P T.l Z) fun E w=>Q1 e true w (X5 P .len [T.l] T.e [false] [E]) fun ad w=>Q1 e true w (Q3 P .eql T.e (.tmp 34) (.const (.int .i64 0)) ad (.int .i64 0)) fun U w=>pick P e U (.bool false) w fun f w=>Q1 f true w (fieldAddr P T.b b 6) fun W w=>Q1 f true w (Q2 P T.o W) fun L w=>Q1 f true w (X5 P .len [T.o] T.e [false] [L]) fun l w=>Q1 f true w (Q3 P .eql T.e (.tmp 40) (.const (.int .i64 0)) l (.int .i64 0)) fun ae w=>pick P f ae (.bool false) w fun u w=>K u w) (fieldAddr P T.b b 5 w fun A w=>Q2 P T.l A w fun V w=>X5 P .len [T.l] T.e [false] [V] w fun am w=>W6 P T.e w fun N w=>Z2 P T.e N am w fun _u w=>M5 P (.func F.b0) [] [N] w fun D w=>Q2 P T.e N w fun ai w=>Q3 P .gtr T.e (.tmp 47) (.const (.int .i64 0)) ai (.int .i64 0) w fun a w=>Q1 a true w (fieldAddr P T.b b 4) fun v w=>Q1 a true w (Q2 P T.e v) fun ab w=>Q1 a true w (fieldAddr P T.b b 1) fun o w=>Q1 a true w (Q2 P T.d o) fun j w=>Q1 a true w (X5 P .len [T.d] T.e [false] [j]) fun ac w=>Q1 a true w (Q3 P .gtr T.e (.tmp 51) (.tmp 54) ab ac) fun al w=>pick P a al (.bool false) w fun h w=>Q1 h true w (fieldAddr P T.b b 5) fun t w=>Q1 h true w (Q2 P T.l t) fun X w=>Q1 h true w (Q0 P F.ap [X,(.func (.func F.b1) #[] #[])]) fun H w=>pick P h H (.bool false) w fun g w=>Q1 g true w (fieldAddr P T.b b 6) fun aa w=>Q1 g true w (Q2 P T.o aa) fun r w=>Q1 g true w (fun w J=>J D w) fun y w=>Q1 g true w (Q0 P F.aq [r,y]) fun R w=>pick P g R (.bool false) w fun Y w=>K Y w))
theorem Q2a {a:Value} {w:World} {K:Value→World→Prop} (h:Cq a w K):Q0 P F.aS [a] w K:=Q8 (List.replicate 10 none) Tryz.func156 rfl (by decide) (by kernel_rfl) h
def Gz (a0:Value) (w:World) (K:Value→World→Prop):Prop:= box P T.a a0 w fun b w=>fieldAddr P T.a b 0 w fun t7 w=>Q2 P T.c t7 w fun t8 w=>fieldAddr P T.a b 1 w fun t9 w=>Q2 P T.c t9 w fun ah w=>buildSlice P T.d 2 [(0,t8),(1,ah)] w fun z w=>fieldAddr P T.a b 2 w fun L w=>Q2 P T.d L w fun al w=>X5 P .append [T.d,T.d] T.d [false,false] [z,al] w fun s w=>dr w fun o u=>Q6 o (fun n=> ∀w,u w→E6 P T.d s (some (.int .i64 1)) none none w (dk o n w)) fun n=>Q6 o (fun f=> ∀w,u w→fieldAddr P T.a b 0 w (dk o f w)) fun f=>Q6 o (fun m=> ∀k w,u w→f k w→Q2 P T.c k w (dk o m w)) fun m=>∀q k t w,u w→n q w→f k w→m t w→ Q0 P F.aa [q,t] w fun ar w=>fieldAddr P T.a b 7 w fun a8 w=>Q2 P T.g a8 w fun ap w=>Q0 P F.a [ap,(.func (.func F.bV) #[] #[])] w fun O w=>fieldAddr P T.a b 7 w fun bd w=>Q2 P T.g bd w fun a1 w=>Q0 P F.a [a1,(.func (.func F.bW) #[] #[])] w fun aj w=>Q0 P F.a3 [s,(.func (.func F.ae) #[] #[])] w fun ab w=>J7 P .not ab w fun r w=>Q1 r false w (fun w J=>J ar w) fun Q w=>pick P r (.bool true) Q w fun c w=>Q1 c false w (fieldAddr P T.a b 2) fun a6 w=>Q1 c false w (Q2 P T.d a6) fun a3 w=>Q1 c false w (Q0 P F.aG [a3,(.func (.func F.bX) #[] #[])]) fun M w=>Q1 c false w (J7 P .not M) fun ak w=>pick P c (.bool true) ak w fun R w=>X1 R (K (.bool false) w) (fieldAddr P T.a b 3 w fun ac w=>Q2 P T.p ac w fun a w=>Q1 a true w (fieldAddr P T.a b 4) fun aq w=>Q1 a true w (Q2 P T.p aq) fun a4 w=>Q1 a true w (J7 P .not a4) fun ae w=>Q1 a true w (fun w J=>J ae w) fun g w=>Q1 g false w (fieldAddr P T.a b 1) fun A w=>Q1 g false w (Q2 P T.c A) fun E w=>Q1 g false w (Q3 P .neq T.c (.tmp 48) (.const (.string ⟨#[79,98,106,101,99,116]⟩)) E (.string ⟨#[79,98,106,101,99,116]⟩)) fun ay w=>Q1 a true w (pick P g (.bool true) ay) fun an w=>Q1 a true w (fun w J=>J an w) fun d w=>Q1 d false w (fieldAddr P T.a b 6) fun ai w=>Q1 d false w (Q2 P T.i ai) fun v w=>Q1 d false w (X5 P .len [T.i] T.e [false] [v]) fun W w=>Q1 d false w (Q3 P .gtr T.e (.tmp 54) (.const (.int .i64 0)) W (.int .i64 0)) fun ad w=>Q1 a true w (pick P d (.bool true) ad) fun aa w=>Q1 a true w (fun w J=>J aa w) fun p w=>Q1 p false w (fun w J=>J aj w) fun am w=>Q1 a true w (pick P p (.bool true) am) fun V w=>pick P a V (.bool false) w fun av w=>X1 av (K (.bool false) w) (fieldAddr P T.a b 4 w fun X w=>Q2 P T.p X w fun l w=>Q1 l true w (fieldAddr P T.a b 5) fun C w=>Q1 l true w (Q2 P T.p C) fun N w=>pick P l N (.bool false) w fun i w=>Q1 i false w (fun w J=>J O w) fun az w=>Q1 i false w (fun w J=>J az w) fun h w=>Q1 h true w (fieldAddr P T.a b 4) fun a7 w=>Q1 h true w (Q2 P T.p a7) fun Y w=>Q1 h true w (J7 P .not Y) fun Z w=>Q1 i false w (pick P h Z (.bool false)) fun bc w=>pick P i (.bool true) bc w fun ao w=>X1 ao (K (.bool false) w) (fieldAddr P T.a b 6 w fun af w=>Q2 P T.i af w fun bb w=>Q0 P F.aw [bb,(.func (.func F.bY) #[] #[])] w fun H w=>J7 P .not H w fun e w=>Q1 e false w (fieldAddr P T.a b 7) fun aw w=>Q1 e false w (Q2 P T.g aw) fun ba w=>Q1 e false w (Q0 P F.am [ba,(.func (.func F.bZ) #[] #[])]) fun a5 w=>Q1 e false w (J7 P .not a5) fun y w=>pick P e (.bool true) y w fun ag w=>X1 ag (K (.bool false) w) (fieldAddr P T.a b 6 w fun U w=>Q2 P T.i U w fun a2 w=>Q0 P F.an [a2,(.func (.func F.bi) #[] #[])] w fun j w=>Q1 j true w (fieldAddr P T.a b 7) fun D w=>Q1 j true w (Q2 P T.g D) fun ax w=>Q1 j true w (Q0 P F.ai [ax,(.func (.func F.aS) #[] #[])]) fun B w=>pick P j B (.bool false) w fun a9 w=>K a9 w))))
theorem Q3s {a:Value} {w:World} {K:Value→World→Prop} (h:Gz a w K):Q0 P F.ca [a] w K:=Q8 (List.replicate 15 none) Tryz.func95 rfl (by decide) (by kernel_rfl) h
def Gx (e:Value) (w:World) (K:Value→World→Prop):Prop:= box P T.a e w fun a w=>Q2 P T.a a w fun f w=>Q0 P F.ct [f] w fun g w=>X1 g (K (.int .i64 51) w) (Q2 P T.a a w fun b w=>Q0 P F.ca [b] w fun c w=>J7 P .not c w fun d w=>X1 d (K (.int .i64 50) w) (K (.int .i64 0) w))
theorem Q3q {a:Value} {w:World} {K:Value→World→Prop} (h:Gx a w K):Q0 P F.c8 [a] w K:=Q8 (List.replicate 7 none) Tryz.func45 rfl (by decide) (by kernel_rfl) h
def R9 (a:Value) (w:World) (K:Value→World→Prop):Prop:= Q3 P .eql T.d (.tmp 3) (.const (.slice none 0 0)) a (.slice none 0 0) w fun c w=>X1 c (K (.slice none 0 0) w) (buildSlice P T.d 0 [] w fun d w=>X5 P .append [T.d,T.d] T.d [false,false] [d,a] w fun b w=>K b w)
theorem K1 {a:Value} {w:World} {K:Value→World→Prop} (h:R9 a w K):Q0 P F.b [a] w K:=Q8 (List.replicate 5 none) Tryz.func35 rfl (by decide) (by kernel_rfl) h
def B6 (a:Value) (w:World) (K:Value→World→Prop):Prop:= Q3 P .eql T.i (.tmp 3) (.const (.slice none 0 0)) a (.slice none 0 0) w fun c w=>X1 c (K (.slice none 0 0) w) (buildSlice P T.i 0 [] w fun d w=>X5 P .append [T.i,T.i] T.i [false,false] [d,a] w fun b w=>K b w)
theorem Ys {a:Value} {w:World} {K:Value→World→Prop} (h:B6 a w K):Q0 P F.a6 [a] w K:=Q8 (List.replicate 5 none) Tryz.func96 rfl (by decide) (by kernel_rfl) h
def B4 (a:Value) (w:World) (K:Value→World→Prop):Prop:= Q3 P .eql T.l (.tmp 3) (.const (.slice none 0 0)) a (.slice none 0 0) w fun c w=>X1 c (K (.slice none 0 0) w) (buildSlice P T.l 0 [] w fun d w=>X5 P .append [T.l,T.l] T.l [false,false] [d,a] w fun b w=>K b w)
theorem Yp {a:Value} {w:World} {K:Value→World→Prop} (h:B4 a w K):Q0 P F.a7 [a] w K:=Q8 (List.replicate 5 none) Tryz.func157 rfl (by decide) (by kernel_rfl) h
def B7 (a:Value) (w:World) (K:Value→World→Prop):Prop:= Q3 P .eql T.o (.tmp 3) (.const (.slice none 0 0)) a (.slice none 0 0) w fun c w=>X1 c (K (.slice none 0 0) w) (buildSlice P T.o 0 [] w fun d w=>X5 P .append [T.o,T.o] T.o [false,false] [d,a] w fun b w=>K b w)
theorem Yz {a:Value} {w:World} {K:Value→World→Prop} (h:B7 a w K):Q0 P F.a8 [a] w K:=Q8 (List.replicate 5 none) Tryz.func158 rfl (by decide) (by kernel_rfl) h
def Ib (E:Value) (w:World) (K:Value→World→Prop):Prop:= box P T.b E w fun a w=>W6 P T.b w fun A w=>dr w fun b c=>Q6 b (fun s=> ∀w,c w→fieldAddr P T.b a 1 w (dk b s w)) fun s=>Q6 b (fun m=> ∀w,c w→fieldAddr P T.b a 5 w (dk b m w)) fun m=>Q6 b (fun r=> ∀w,c w→fieldAddr P T.b a 6 w (dk b r w)) fun r=>Q6 b (fun q=> ∀n w,c w→s n w→Q2 P T.d n w (dk b q w)) fun q=>Q6 b (fun y=> ∀o w,c w→q o w→Q0 P F.b [o] w (dk b y w)) fun y=>Q6 b (fun p=> ∀k w,c w→m k w→Q2 P T.l k w (dk b p w)) fun p=>Q6 b (fun t=> ∀l w,c w→p l w→Q0 P F.a7 [l] w (dk b t w)) fun t=>Q6 b (fun e=> ∀j w,c w→r j w→Q2 P T.o j w (dk b e w)) fun e=>Q6 b (fun f=> ∀w,c w→fieldAddr P T.b a 1 w (dk b f w)) fun f=>Q6 b (fun g=> ∀d w,c w→e d w→Q0 P F.a8 [d] w (dk b g w)) fun g=>∀n k j o C l B d i h w,c w→s n w→m k w→r j w→q o w→y C w→p l w→t B w→e d w→f i w→g h w→ Z2 P T.d i C w fun _u w=>fieldAddr P T.b a 5 w fun u w=>Z2 P T.l u B w fun _u w=>fieldAddr P T.b a 6 w fun z w=>Z2 P T.o z h w fun _u w=>Q2 P T.b a w fun v w=>Z2 P T.b A v w fun _u w=>U5 P T.b A w fun D=>K D w
theorem Q3z {a:Value} {w:World} {K:Value→World→Prop} (h:Ib a w K):Q0 P F.bH [a] w K:=Q8 (List.replicate 3 none) Tryz.func97 rfl (by decide) (by kernel_rfl) h
def Q3v:V2:=[none,none,none,none,none,some ([3,17],[3,5,17,18,19,20,21,22,23,24,25,26]),none,none,none,none,none,none]
def Ii (R:Value) (w:World) (K:Value→World→Prop):Prop:= box P T.a R w fun a w=>W6 P T.a w fun N w=>dr w fun b g=>Q6 b (fun q=> ∀w,g w→fieldAddr P T.a a 2 w (dk b q w)) fun q=>Q6 b (fun s=> ∀w,g w→fieldAddr P T.a a 6 w (dk b s w)) fun s=>Q6 b (fun r=> ∀o w,g w→q o w→Q2 P T.d o w (dk b r w)) fun r=>Q6 b (fun v=> ∀p w,g w→r p w→Q0 P F.b [p] w (dk b v w)) fun v=>Q6 b (fun f=> ∀n w,g w→s n w→Q2 P T.i n w (dk b f w)) fun f=>Q6 b (fun h=> ∀w,g w→fieldAddr P T.a a 2 w (dk b h w)) fun h=>Q6 b (fun i=> ∀d w,g w→f d w→Q0 P F.a6 [d] w (dk b i w)) fun i=>∀o n p O d m k w,g w→q o w→s n w→r p w→v O w→f d w→h m w→i k w→ Z2 P T.d m O w fun _u w=>fieldAddr P T.a a 6 w fun y w=>Z2 P T.i y k w fun _u w=>fieldAddr P T.a a 7 w fun B w=>Q2 P T.g B w fun l w=>X5 P .len [T.g] T.e [false] [l] w fun E w=>lp (α:=Value×Value) ((.slice none 0 0),(.int .i64 0)) w fun e j U w=>Q3 P .lss T.e (.tmp 17) (.tmp 16) j.2 E w fun J w=>X1 J (indexAddr P T.g l j.2 w fun A w=>Q2 P T.b A w fun H w=>W6 P T.b w fun c w=>Z2 P T.b c H w fun _u w=>Q2 P T.b c w fun D w=>Q0 P F.bH [D] w fun M w=>buildSlice P T.g 1 [(0,M)] w fun C w=>X5 P .append [T.g,T.g] T.g [false,false] [j.1,C] w fun u w=>Q3 P .add T.e (.tmp 17) (.const (.int .i64 1)) j.2 (.int .i64 1) w fun z w=>e (u,z) w) (fieldAddr P T.a a 7 w fun L w=>Z2 P T.g L j.1 w fun _u w=>Q2 P T.a a w fun t w=>Z2 P T.a N t w fun _u w=>U5 P T.a N w fun Q=>K Q w)
theorem Q3t {a:Value} {w:World} {K:Value→World→Prop} (h:Ii a w K):Q0 P F.c9 [a] w K:=Q8 Q3v Tryz.func46 rfl (by decide) (by kernel_rfl) h
def Lg (r v:Value) (w:World) (K:Value→World→Prop):Prop:= W6 P T.a w fun t w=>dr w fun a h=>Q6 a (fun m=> ∀w,h w→nilCheck P r w (dk a m w)) fun m=>Q6 a (fun n=> ∀k w,h w→m k w→fieldAddr P T.u k 0 w (dk a n w)) fun n=>Q6 a (fun g=> ∀w,h w→nilCheck P r w (dk a g w)) fun g=>Q6 a (fun e=> ∀b w,h w→g b w→fieldAddr P T.u b 1 w (dk a e w)) fun e=>Q6 a (fun o=> ∀l w,h w→n l w→Q2 P T.h l w (dk a o w)) fun o=>Q6 a (fun d=> ∀c w,h w→e c w→Q2 P T.v c w (dk a d w)) fun d=>Q6 a (fun i=> ∀f w,h w→d f w→lookup P T.v f v false w (dk a i w)) fun i=>∀k l b c s f j w,h w→m k w→n l w→g b w→e c w→o s w→d f w→i j w→ indexAddr P T.h s j w fun p w=>Q2 P T.a p w fun q w=>Z2 P T.a t q w fun _u w=>U5 P T.a t w fun u=>K u w
theorem Bt {b a:Value} {w:World} {K:Value→World→Prop} (h:Lg b a w K):Q0 P F.h [b,a] w K:=Q8 (List.replicate 2 none) Tryz.func60 rfl (by decide) (by kernel_rfl) h
def Bc:V2:=[none,none,none,none,none,none,some ([29],[4,6,29,30,31,32,33,34,35,36,37,38,39,40,41,42,43,44]),none,none,none,none,none,none,none]
def Vb (f R:Value) (w:World) (K:Value→World→Prop):Prop:= box P T.a R w fun a w=>fieldAddr P T.a a 1 w fun Q w=>Q2 P T.c Q w fun O w=>Q0 P F.k [f,O] w fun i w=>J7 P .not i w fun b w=>Q1 b false w (fun w J=>J f w) fun k w=>Q1 b false w (fieldAddr P T.a a 1) fun t w=>Q1 b false w (Q2 P T.c t) fun o w=>Q1 b false w (Q0 P F.h [k,o]) fun D w=>Q1 b false w (Lq P T.a D 3) fun M w=>pick P b (.bool true) M w fun d w=>Q1 d false w (fun w J=>J f w) fun E w=>Q1 d false w (fieldAddr P T.a a 1) fun n w=>Q1 d false w (Q2 P T.c n) fun v w=>Q1 d false w (Q0 P F.h [E,v]) fun N w=>Q1 d false w (Lq P T.a N 5) fun u w=>pick P d (.bool true) u w fun j w=>X1 j (K (.int .i64 61) w) (fieldAddr P T.a a 2 w fun q w=>Q2 P T.d q w fun h w=>X5 P .len [T.d] T.e [false] [h] w fun H w=>lp (α:=Value) (.int .i64 0) w fun e m U w=>Q3 P .lss T.e (.tmp 29) (.tmp 28) m H w fun r w=>X1 r (indexAddr P T.d h m w fun y w=>Q2 P T.c y w fun g w=>Q0 P F.k [f,g] w fun z w=>J7 P .not z w fun c w=>Q1 c false w (fun w J=>J f w) fun B w=>Q1 c false w (fun w J=>J g w) fun s w=>Q1 c false w (Q0 P F.h [B,s]) fun L w=>Q1 c false w (Lq P T.a L 3) fun C w=>Q1 c false w (J7 P .not C) fun l w=>pick P c (.bool true) l w fun p w=>X1 p (K (.int .i64 62) w) (Q3 P .add T.e (.tmp 29) (.const (.int .i64 1)) m (.int .i64 1) w fun A w=>e A w)) (K (.int .i64 0) w))
theorem Cz {b a:Value} {w:World} {K:Value→World→Prop} (h:Vb b a w K):Q0 P F.aV [b,a] w K:=Q8 Bc Tryz.func47 rfl (by decide) (by kernel_rfl) h
def Qv:V2:=[none,none,none,some ([8],[4,5,8,9,10,11,12,13,14,15,16,17,18]),none,none,none,none,none,none,none]
def R2 (g i:Value) (w:World) (K:Value→World→Prop):Prop:= X5 P .len [T.h] T.e [false] [g] w fun h w=>lp (α:=Value) (.int .i64 0) w fun a b k w=>Q3 P .lss T.e (.tmp 8) (.tmp 7) b h w fun j w=>X1 j (indexAddr P T.h g b w fun c w=>Q2 P T.a c w fun e w=>Y9 P i [e] w fun d w=>X1 d (K b w) (Q3 P .add T.e (.tmp 8) (.const (.int .i64 1)) b (.int .i64 1) w fun f w=>a f w)) (K (.int .i64 (-1)) w)
theorem Qz {b a:Value} {w:World} {K:Value→World→Prop} (h:R2 b a w K):Q0 P F.n [b,a] w K:=Q8 Qv Tryz.func48 rfl (by decide) (by kernel_rfl) h
def Gn:V2:=[none,none,none,some ([7],[6,7,9,10,11,12,16,17,18,19,20,21,22,23,24,25,26,27,28,29,30,31,32,33,34,35,36,37,38,39,40,41,42,43,44,45,46,47,48,49,50,51,52]),none,none,none,none,none,none,none,none,none,none,none,none,none]
def Wj (R W V:Value) (w:World) (K:Value→World→Prop):Prop:= buildSlice P T.d 1 [(0,W)] w fun B w=>Rr P T.v none w fun q w=>lp (α:=Value) B w fun b y X w=>X5 P .len [T.d] T.e [false] [y] w fun Q w=>Q3 P .gtr T.e (.tmp 17) (.const (.int .i64 0)) Q (.int .i64 0) w fun O w=>X1 O (indexAddr P T.d y (.int .i64 0) w fun N w=>Q2 P T.c N w fun g w=>E6 P T.d y (some (.int .i64 1)) none none w fun u w=>lookup P T.v q g true w fun t w=>ext P t 0 w fun U w=>ext P t 1 w fun d w=>Q1 d false w (fun w J=>J R w) fun H w=>Q1 d false w (fun w J=>J g w) fun A w=>Q1 d false w (Q0 P F.k [H,A]) fun L w=>Q1 d false w (J7 P .not L) fun D w=>pick P d (.bool true) D w fun C w=>X1 C (b u w) (mapUpdate P T.v q g (.int .i64 1) w fun _u w=>Q0 P F.h [R,g] w fun M w=>W6 P T.a w fun a w=>Z2 P T.a a M w fun _u w=>Q2 P T.a a w fun z w=>Y9 P V [z] w fun E w=>X1 E (K (.bool true) w) (dr w fun c p=>Q6 c (fun l=> ∀w,p w→fieldAddr P T.a a 1 w (dk c l w)) fun l=>Q6 c (fun f=> ∀w,p w→fieldAddr P T.a a 2 w (dk c f w)) fun f=>Q6 c (fun j=> ∀h w,p w→l h w→Q2 P T.c h w (dk c j w)) fun j=>Q6 c (fun k=> ∀m w,p w→j m w→buildSlice P T.d 1 [(0,m)] w (dk c k w)) fun k=>Q6 c (fun o=> ∀i w,p w→k i w→X5 P .append [T.d,T.d] T.d [false,false] [u,i] w (dk c o w)) fun o=>Q6 c (fun n=> ∀e w,p w→f e w→Q2 P T.d e w (dk c n w)) fun n=>∀h e m i r s w,p w→l h w→f e w→j m w→k i w→o r w→n s w→ X5 P .append [T.d,T.d] T.d [false,false] [r,s] w fun v w=>b v w))) (K (.bool false) w)
theorem Bp {b a c:Value} {w:World} {K:Value→World→Prop} (h:Wj b a c w K):Q0 P F.t [b,a,c] w K:=Q8 Gn Tryz.func99 rfl (by decide) (by kernel_rfl) h
def Zq (e d:Value) (w:World) (K:Value→World→Prop):Prop:= box P T.a e w fun a w=>fieldAddr P T.a a 0 w fun f w=>Q2 P T.c f w fun h w=>fieldAddr P T.a d 0 w fun g w=>Q2 P T.c g w fun b w=>Q3 P .eql T.c (.tmp 5) (.tmp 7) h b w fun c w=>K c w
theorem Eu {b a:Value} {w:World} {K:Value→World→Prop} (h:Zq b a w K):Q0 P F.bI [b,a] w K:=Q8 (List.replicate 2 none) Tryz.func100 rfl (by decide) (by kernel_rfl) h
def Ju (d c e:Value) (w:World) (K:Value→World→Prop):Prop:= Q2 P T.r c w fun f w=>M5 P (.func F.bI) [] [e] w fun a w=>Q0 P F.t [f,d,a] w fun b w=>K b w
theorem Se {b a c:Value} {w:World} {K:Value→World→Prop} (h:Ju b a c w K):Q0 P F.aR [b,a,c] w K:=Q8 (List.replicate 2 none) Tryz.func98 rfl (by decide) (by kernel_rfl) h
def Vt (l m:Value) (w:World) (K:Value→World→Prop):Prop:= box P T.r l w fun c w=>box P T.a m w fun a w=>M5 P (.func F.aR) [] [c,a] w fun i w=>fieldAddr P T.a a 1 w fun j w=>Q2 P T.c j w fun k w=>Y9 P i [k] w fun b w=>Q1 b false w (fieldAddr P T.a a 2) fun f w=>Q1 b false w (Q2 P T.d f) fun e w=>Q1 b false w (fun w J=>J i w) fun d w=>Q1 b false w (Q0 P F.d [e,d]) fun h w=>pick P b (.bool true) h w fun g w=>K g w
theorem Gs {b a:Value} {w:World} {K:Value→World→Prop} (h:Vt b a w K):Q0 P F.b4 [b,a] w K:=Q8 (List.replicate 3 none) Tryz.func49 rfl (by decide) (by kernel_rfl) h
def Es:V2:=[none,none,none,some ([8],[4,5,8,9,10,11,12,13,14,15,16,17,18]),none,none,none,none,none,none,none]
def Zp (g i:Value) (w:World) (K:Value→World→Prop):Prop:= X5 P .len [T.z] T.e [false] [g] w fun h w=>lp (α:=Value) (.int .i64 0) w fun a b k w=>Q3 P .lss T.e (.tmp 8) (.tmp 7) b h w fun j w=>X1 j (indexAddr P T.z g b w fun c w=>Q2 P T.e c w fun e w=>Q3 P .eql T.e (.tmp 11) (.tmp 15) i e w fun d w=>X1 d (K b w) (Q3 P .add T.e (.tmp 8) (.const (.int .i64 1)) b (.int .i64 1) w fun f w=>a f w)) (K (.int .i64 (-1)) w)
theorem Du {b a:Value} {w:World} {K:Value→World→Prop} (h:Zp b a w K):Q0 P F.bJ [b,a] w K:=Q8 Es Tryz.func160 rfl (by decide) (by kernel_rfl) h
def Ql (d c:Value) (w:World) (K:Value→World→Prop):Prop:= Q0 P F.bJ [d,c] w fun a w=>Q3 P .geq T.e (.tmp 7) (.const (.int .i64 0)) a (.int .i64 0) w fun b w=>K b w
theorem Oa {b a:Value} {w:World} {K:Value→World→Prop} (h:Ql b a w K):Q0 P F.ay [b,a] w K:=Q8 (List.replicate 2 none) Tryz.func103 rfl (by decide) (by kernel_rfl) h
def Sn:V2:=[none,none,none,none,some ([35],[7,35,36,37,38,39,40,41,42,43,44,45,46,47]),none,none,none,none]
def P5 (a0 a1 a2 a3 a4:Value) (w:World) (K:Value→World→Prop):Prop:= Q2 P T.e a1 w fun t9 w=>Q3 P .lss T.e (.tmp 8) (.tmp 9) a0 t9 w fun f w=>Q1 f false w (Q2 P T.z a2) fun am w=>Q1 f false w (fun w J=>J a0 w) fun ah w=>Q1 f false w (Q0 P F.ay [am,ah]) fun al w=>pick P f (.bool true) al w fun aj w=>X1 aj (K (.tuple #[]) w) (dr w fun a b=>Q6 a (fun V=> ∀w,b w→Q2 P T.r a3 w (dk a V w)) fun V=>Q6 a (fun e=> ∀L w,b w→V L w→nilCheck P L w (dk a e w)) fun e=>Q6 a (fun k=> ∀R w,b w→e R w→fieldAddr P T.u R 0 w (dk a k w)) fun k=>Q6 a (fun d=> ∀M w,b w→k M w→Q2 P T.h M w (dk a d w)) fun d=>Q6 a (fun v=> ∀s w,b w→d s w→indexAddr P T.h s a0 w (dk a v w)) fun v=>Q6 a (fun H=> ∀o w,b w→v o w→fieldAddr P T.a o 1 w (dk a H w)) fun H=>Q6 a (fun t=> ∀z w,b w→H z w→Q2 P T.c z w (dk a t w)) fun t=>Q6 a (fun W=> ∀U w,b w→t U w→buildSlice P T.d 1 [(0,U)] w (dk a W w)) fun W=>Q6 a (fun l=> ∀w,b w→Q2 P T.r a3 w (dk a l w)) fun l=>Q6 a (fun E=> ∀i w,b w→l i w→nilCheck P i w (dk a E w)) fun E=>Q6 a (fun c=> ∀q w,b w→E q w→fieldAddr P T.u q 0 w (dk a c w)) fun c=>Q6 a (fun m=> ∀O w,b w→c O w→Q2 P T.h O w (dk a m w)) fun m=>Q6 a (fun C=> ∀p w,b w→m p w→indexAddr P T.h p a0 w (dk a C w)) fun C=>Q6 a (fun B=> ∀u w,b w→C u w→fieldAddr P T.a u 2 w (dk a B w)) fun B=>Q6 a (fun Z=> ∀A w,b w→B A w→Q2 P T.d A w (dk a Z w)) fun Z=>∀L R M s o z U ad i q O p u A ae w,b w→V L w→e R w→k M w→d s w→v o w→H z w→t U w→W ad w→l i w→E q w→c O w→m p w→C u w→B A w→Z ae w→ X5 P .append [T.d,T.d] T.d [false,false] [ad,ae] w fun ab w=>X5 P .len [T.d] T.e [false] [ab] w fun ar w=>lp (α:=Value) (.int .i64 0) w fun h x4 d_ w=>Q3 P .lss T.e (.tmp 35) (.tmp 34) x4 ar w fun an w=>X1 an (indexAddr P T.d ab x4 w fun aw w=>Q2 P T.c aw w fun ao w=>dr w fun a b=>Q6 a (fun Y=> ∀w,b w→Q2 P T.ai a4 w (dk a Y w)) fun Y=>Q6 a (fun y=> ∀w,b w→Q2 P T.r a3 w (dk a y w)) fun y=>Q6 a (fun N=> ∀Q w,b w→y Q w→nilCheck P Q w (dk a N w)) fun N=>Q6 a (fun j=> ∀D w,b w→N D w→fieldAddr P T.u D 1 w (dk a j w)) fun j=>Q6 a (fun g=> ∀n w,b w→j n w→Q2 P T.v n w (dk a g w)) fun g=>Q6 a (fun X=> ∀r w,b w→g r w→lookup P T.v r ao false w (dk a X w)) fun X=>∀ac Q D n r af w,b w→Y ac w→y Q w→N D w→j n w→g r w→X af w→ Y9 P ac [af] w fun az w=>Q3 P .add T.e (.tmp 35) (.const (.int .i64 1)) x4 (.int .i64 1) w fun ax w=>h ax w) (Q2 P T.z a2 w fun ak w=>buildSlice P T.z 1 [(0,a0)] w fun ai w=>X5 P .append [T.z,T.z] T.z [false,false] [ak,ai] w fun aq w=>Z2 P T.z a2 aq w fun _u w=>K (.tuple #[]) w))
theorem Ud {b a d c e:Value} {w:World} {K:Value→World→Prop} (h:P5 b a d c e w K):Q0 P F.u [b,a,d,c,e] w K:=Q8 Sn Tryz.func102 rfl (by decide) (by kernel_rfl) h
def Bk:V2:=[none,none,none,none,none,none,some ([7],[7,10,11,12,13,14,15,16,17,18,19,20,21]),none,none,none,none]
def Wr (q t:Value) (w:World) (K:Value→World→Prop):Prop:= box P T.r q w fun d w=>box P T.e t w fun b w=>W6 P T.z w fun c w=>W6 P T.ai w fun a w=>M5 P (.func F.u) [] [b,c,d,a] w fun r w=>Z2 P T.ai a r w fun _u w=>Q2 P T.e b w fun p w=>lp (α:=Value) p w fun e h u w=>Q2 P T.r d w fun f w=>nilCheck P f w fun l w=>fieldAddr P T.u l 0 w fun g w=>Q2 P T.h g w fun k w=>X5 P .len [T.h] T.e [false] [k] w fun i w=>Q3 P .lss T.e (.tmp 10) (.tmp 15) h i w fun n w=>X1 n (Q2 P T.ai a w fun j w=>Y9 P j [h] w fun s w=>Q3 P .add T.e (.tmp 17) (.const (.int .i64 1)) h (.int .i64 1) w fun o w=>e o w) (Q2 P T.z c w fun m w=>K m w)
theorem Gq {b a:Value} {w:World} {K:Value→World→Prop} (h:Wr b a w K):Q0 P F.b5 [b,a] w K:=Q8 Bk Tryz.func50 rfl (by decide) (by kernel_rfl) h
def Xx:V2:=[none,some ([2,3],[2,3,7,8,9,10,11,12,13,14,15,16,17,18,19,20,21,22,23,24,25,26,27]),none,none,none]
def C5 (j:Value) (w:World) (K:Value→World→Prop):Prop:= X5 P .len [T.h] T.e [false] [j] w fun t w=>Q3 P .sub T.e (.tmp 5) (.const (.int .i64 1)) t (.int .i64 1) w fun s w=>lp (α:=Value×Value) ((.int .i64 0),s) w fun e f u w=>Q3 P .lss T.e (.tmp 7) (.tmp 8) f.1 f.2 w fun r w=>X1 r (dr w fun g m=>Q6 g (fun b=> ∀w,m w→indexAddr P T.h j f.2 w (dk g b w)) fun b=>Q6 g (fun a=> ∀w,m w→indexAddr P T.h j f.1 w (dk g a w)) fun a=>Q6 g (fun i=> ∀d w,m w→b d w→Q2 P T.a d w (dk g i w)) fun i=>Q6 g (fun h=> ∀c w,m w→a c w→Q2 P T.a c w (dk g h w)) fun h=>∀d c l k w,m w→b d w→a c w→i l w→h k w→ indexAddr P T.h j f.1 w fun p w=>Z2 P T.a p l w fun _u w=>indexAddr P T.h j f.2 w fun q w=>Z2 P T.a q k w fun _u w=>Q3 P .add T.e (.tmp 10) (.const (.int .i64 1)) f.1 (.int .i64 1) w fun n w=>Q3 P .sub T.e (.tmp 12) (.const (.int .i64 1)) f.2 (.int .i64 1) w fun o w=>e (n,o) w) (K (.tuple #[]) w)
theorem Xv {a:Value} {w:World} {K:Value→World→Prop} (h:C5 a w K):Q0 P F.o [a] w K:=Q8 Xx Tryz.func167 rfl (by decide) (by kernel_rfl) h
def Im:V2:=[none,none,none,none,some ([5,6],[5,6,8,9,10,11,12,13,14,15,16,17,18,19,20]),none,none,none,none,none]
def Ms (g j:Value) (w:World) (K:Value→World→Prop):Prop:= lp (α:=Value×Value) ((.slice none 0 0),j) w fun a b l w=>Q0 P F.k [g,b.2] w fun e w=>X1 e (Q0 P F.h [g,b.2] w fun h w=>buildSlice P T.h 1 [(0,h)] w fun i w=>X5 P .append [T.h,T.h] T.h [false,false] [b.1,i] w fun f w=>Q0 P F.h [g,b.2] w fun d w=>Lq P T.a d 1 w fun c w=>a (f,c) w) (Q0 P F.o [b.1] w fun k w=>K b.1 w)
theorem Iw {b a:Value} {w:World} {K:Value→World→Prop} (h:Ms b a w K):Q0 P F.aH [b,a] w K:=Q8 Im Tryz.func166 rfl (by decide) (by kernel_rfl) h
def Cg:V2:=[none,none,none,none,some ([5,12],[5,7,12,13,14,15,16,17,18,19,20]),none,none,none,none,none]
def Ux (n m:Value) (w:World) (K:Value→World→Prop):Prop:= Q0 P F.aH [n,m] w fun d w=>X5 P .len [T.h] T.e [false] [d] w fun l w=>lp (α:=Value×Value) ((.slice none 0 0),(.int .i64 0)) w fun b c o w=>Q3 P .lss T.e (.tmp 12) (.tmp 11) c.2 l w fun f w=>X1 f (indexAddr P T.h d c.2 w fun e w=>Q2 P T.a e w fun h w=>W6 P T.a w fun a w=>Z2 P T.a a h w fun _u w=>fieldAddr P T.a a 6 w fun k w=>Q2 P T.i k w fun i w=>X5 P .append [T.i,T.i] T.i [false,false] [c.1,i] w fun j w=>Q3 P .add T.e (.tmp 12) (.const (.int .i64 1)) c.2 (.int .i64 1) w fun g w=>b (j,g) w) (K c.1 w)
theorem Ca {b a:Value} {w:World} {K:Value→World→Prop} (h:Ux b a w K):Q0 P F.aZ [b,a] w K:=Q8 Cg Tryz.func162 rfl (by decide) (by kernel_rfl) h
def Jt (d c:Value) (w:World) (K:Value→World→Prop):Prop:= box P T.k d w fun a w=>fieldAddr P T.k a 0 w fun e w=>Q2 P T.c e w fun g w=>Q2 P T.c c w fun f w=>Q3 P .eql T.c (.tmp 5) (.tmp 6) g f w fun b w=>K b w
theorem Sf {b a:Value} {w:World} {K:Value→World→Prop} (h:Jt b a w K):Q0 P F.bR [b,a] w K:=Q8 (List.replicate 2 none) Tryz.func163 rfl (by decide) (by kernel_rfl) h
def Ww (f d g:Value) (w:World) (K:Value→World→Prop):Prop:= box P T.c g w fun a w=>Q0 P F.aZ [f,d] w fun e w=>M5 P (.func F.bR) [] [a] w fun b w=>Q0 P F.j [e,b] w fun c w=>K c w
theorem Gl {b a c:Value} {w:World} {K:Value→World→Prop} (h:Ww b a c w K):Q0 P F.b9 [b,a,c] w K:=Q8 (List.replicate 2 none) Tryz.func104 rfl (by decide) (by kernel_rfl) h
def P9 (e c:Value) (w:World) (K:Value→World→Prop):Prop:= nilCheck P e w fun a w=>indexAddr P T.a4 a c w fun b w=>Q2 P T.p b w fun d w=>K d w
theorem Lt {b a:Value} {w:World} {K:Value→World→Prop} (h:P9 b a w K):Q0 P F.au [b,a] w K:=Q8 (List.replicate 2 none) Tryz.func135 rfl (by decide) (by kernel_rfl) h
def Hh:V2:=[none,some ([0],[0,5,6,7,8,9,10,11,12,13,14,15,16,17,18,19,20]),some ([0],[0,5,6,7,8,9,10,11,12,13,14,15,16,17,18,19,20]),none,none,none,none,none]
def Zm (l q:Value) (w:World) (K:Value→World→Prop):Prop:= jn (α:=Value) w (fun k w=>lp (α:=Value) l w fun a b p w=>X5 P .len [T.c] T.e [false] [b] w fun m w=>Q3 P .gtr T.e (.tmp 6) (.const (.int .i64 0)) m (.int .i64 0) w fun n w=>X1 n (X5 P .len [T.c] T.e [false] [b] w fun c w=>Q3 P .sub T.e (.tmp 11) (.const (.int .i64 1)) c (.int .i64 1) w fun h w=>E2 P T.c b h w fun d w=>Q0 P F.au [q,d] w fun g w=>J7 P .not g w fun e w=>X1 e (k b w) (X5 P .len [T.c] T.e [false] [b] w fun j w=>Q3 P .sub T.e (.tmp 18) (.const (.int .i64 1)) j (.int .i64 1) w fun f w=>E6 P T.c b none (some f) none w fun i w=>a i w)) (k b w)) fun o p w=>K o w
theorem Hb {b a:Value} {w:World} {K:Value→World→Prop} (h:Zm b a w K):Q0 P F.af [b,a] w K:=Q8 Hh Tryz.func89 rfl (by decide) (by kernel_rfl) h
end Go.Proofs.YtfppjenblllfaaaGreatDoor
