/- Parts of a proof about the given program: its functions as texts of their own, what each computes, plain laws of that. The conditions of each stand in its statement. -/
import Derived.WalkKit
import Derived.Test.YtfppjenblllfaaaGreatDoorProg
import Derived.KernelRfl
set_option linter.unnecessarySimpa false
set_option linter.defProp false
set_option linter.unusedSectionVars false
set_option linter.unusedVariables false
set_option linter.unusedSimpArgs false
namespace Go.Emb
def T6 (P:Program) (s:Sem Next) (w:World) (K:Value→World→Prop):Prop:=
 match s.run P w with
 | .ok (.value v) w'=>K v w'
 | .ok .skip w'=>K undef w'
 | .ok (.enter f a) w'=>Calls P f a w' fun e b=>match e with | .returned v=>K v b | _=>False
 | .ok (.row row a) w'=>Rows P row a w' K
 | _=>False
theorem X05: ∃f:Program→Sem Next→World→(Value→World→Prop)→Prop,f=T6:=⟨_,rfl⟩
noncomputable def op:Program→Sem Next→World→(Value→World→Prop)→Prop:=Classical.choose X05
theorem Qr:op=T6:=Classical.choose_spec X05
theorem X2c {P:Program} {o:Oper} {a:Act} {w:World} {next:Act→World→Prop} {Q:Exit→Act→World→Prop}
 (h:op P (execOp a.eval o) w (fun v w=>next (a.put o.dst v) w)):o.wp P a w next Q:=by
 unfold Oper.wp
 rw[Qr] at h
 unfold T6 at h
 cases c:(execOp a.eval o).run P w with
 | halt x w'=>rw[c] at h;exact h.elim
 | ok n w'=>
  rw[c] at h
  cases n<;>simp only at h<;>try exact h.elim
  ·exact h
  ·exact h
  ·refine Calls.mono h fun e d b=>?_
   cases e<;>first | exact b | exact b.elim
  ·exact h
theorem Dk {P:Program} {s:Sem Next} {K d:Value→World→Prop} {w:World} (a: ∀v w,K v w→d v w) (h:op P s w K):op P s w d:=by
 rw[Qr] at*
 unfold T6 at*
 cases c:s.run P w with
 | halt x w'=>rw[c] at h;exact h.elim
 | ok n w'=>
  rw[c] at h
  cases n<;>simp only at h⊢ <;>try exact h.elim
  ·exact a _ _ h
  ·exact a _ _ h
  ·refine Calls.mono h fun e f b=>?_
   cases e<;>first | exact a _ _ b | exact b.elim
  ·exact h.mono a
def sv (s:Sem Value):Sem Next:=do Pure.pure (.value (←s))
def su (s:Sem Unit):Sem Next:=do s;Pure.pure .skip
section
variable (P : Program)
noncomputable def pick (c a b:Value) (w:World) (K:Value→World→Prop):Prop:=op P (do Pure.pure (.value (if←asBool c then a else b))) w K
noncomputable def W3 (e:TypeId) (w:World) (K:Value→World→Prop):Prop:=op P (sv (Instr.alloc e true (.tuple #[]))) w K
noncomputable def box (e:TypeId) (x:Value) (w:World) (K:Value→World→Prop):Prop:=op P (sv (Instr.box e x)) w K
noncomputable def N1 (t:TypeId) (a:List (Nat×Value)) (w:World) (K:Value→World→Prop):Prop:=op P (sv (Instr.build t a.toArray)) w K
noncomputable def buildSlice (t:TypeId) (n:Nat) (a:List (Nat×Value)) (w:World) (K:Value→World→Prop):Prop:=op P (sv (Instr.buildSlice t n a.toArray)) w K
noncomputable def Q2 (t:TypeId) (a:Value) (w:World) (K:Value→World→Prop):Prop:=op P (sv (Instr.loadAt t a)) w K
noncomputable def Z3 (t:TypeId) (a x:Value) (w:World) (K:Value→World→Prop):Prop:=op P (su (Instr.storeAt t a x)) w K
noncomputable def nilCheck (x:Value) (w:World) (K:Value→World→Prop):Prop:=op P (execOp (fun _=>x) {dst:=none,op:= .nilCheck (.const x),type:=0,pos:= "",after:= #[],guard:=none}) w K
noncomputable def Q3 (o:BinOp) (t:TypeId) (a b:Operand) (x y:Value) (w:World) (K:Value→World→Prop):Prop:=op P (sv (do eqGuard o t a b x y;Go.binOp o t x y)) w K
noncomputable def J0 (o:UnOp) (x:Value) (w:World) (K:Value→World→Prop):Prop:=op P (sv (Op.unary o x)) w K
noncomputable def conv (s d:TypeId) (x:Value) (w:World) (K:Value→World→Prop):Prop:=op P (sv (Go.convert s d x)) w K
noncomputable def X0l (t:TypeId) (x:Value) (w:World) (K:Value→World→Prop):Prop:=op P (sv (Instr.makeInterface t x)) w K
noncomputable def M4 (f:Fn) (first caps:List Value) (w:World) (K:Value→World→Prop):Prop:=op P (sv (Instr.makeFunc f first.toArray caps.toArray)) w K
noncomputable def Re (t:TypeId) (r:Option Value) (w:World) (K:Value→World→Prop):Prop:=op P (sv (Instr.makeMap t r)) w K
noncomputable def Mw (t:TypeId) (n c:Value) (w:World) (K:Value→World→Prop):Prop:=op P (sv (Instr.makeSlice t n c)) w K
noncomputable def H3 (t:TypeId) (x:Value) (a c b:Option Value) (w:World) (K:Value→World→Prop):Prop:=op P (sv (Instr.sliceAt t x a c b)) w K
noncomputable def fieldAddr (t:TypeId) (x:Value) (f:Nat) (w:World) (K:Value→World→Prop):Prop:=op P (sv (Instr.fieldAt t x f)) w K
noncomputable def Vv (t:TypeId) (x:Value) (f:Nat) (w:World) (K:Value→World→Prop):Prop:=op P (sv (Instr.field t x f)) w K
noncomputable def indexAddr (t:TypeId) (x i:Value) (w:World) (K:Value→World→Prop):Prop:=op P (sv (Instr.indexAt t x i)) w K
noncomputable def D9 (t:TypeId) (x i:Value) (w:World) (K:Value→World→Prop):Prop:=op P (sv (Instr.index t x i)) w K
noncomputable def lookup (t:TypeId) (x i:Value) (ok:Bool) (w:World) (K:Value→World→Prop):Prop:=op P (sv (Instr.lookup t x i ok)) w K
noncomputable def mapUpdate (t:TypeId) (m k x:Value) (w:World) (K:Value→World→Prop):Prop:=op P (su (Instr.mapUpdate t m k x)) w K
noncomputable def mapEntry (t:TypeId) (m k:Value) (w:World) (K:Value→World→Prop):Prop:=op P (sv (Instr.mapEntry t m k)) w K
noncomputable def entryStore (t:TypeId) (m s x:Value) (w:World) (K:Value→World→Prop):Prop:=op P (su (Instr.entryStore t m s x)) w K
noncomputable def rng (t:TypeId) (x:Value) (w:World) (K:Value→World→Prop):Prop:=op P (sv (Instr.range t x)) w K
noncomputable def J4 (b:Value) (a:Bool) (t:TypeId) (w:World) (K:Value→World→Prop):Prop:=op P (sv (Instr.next b a t)) w K
noncomputable def Q7a (a:Value) (w:World) (K:Value→World→Prop):Prop:=op P (sv (Instr.entry a)) w K
noncomputable def pnc (x:Value) (w:World) (K:Value→World→Prop):Prop:=op P (sv (Instr.panic x)) w K
noncomputable def ext (x:Value) (i:Nat) (w:World) (K:Value→World→Prop):Prop:=op P (sv (Instr.extract x i)) w K
noncomputable def X6 (b:Builtin) (a:List TypeId) (t:TypeId) (cs:List Bool) (xs:List Value) (w:World) (K:Value→World→Prop):Prop:=op P (Go.builtin b a.toArray t cs.toArray xs.toArray) w K
noncomputable def Q0 (f:FuncId) (xs:List Value) (w:World) (K:Value→World→Prop):Prop:=op P (callFunc f xs.toArray) w K
noncomputable def Z0 (f:Value) (xs:List Value) (w:World) (K:Value→World→Prop):Prop:=op P (do let d←Deferred.ofValue f xs.toArray;invoke d.target d.args) w K
end
def get (l:List Value) (t:Nat):Value:=l.getD t undef
def ev (l:List Value):Operand→Value
 | .tmp t=>get l t
 | .const v=>v
 | .global g=> .pointer (some ⟨g,0,none⟩)
 | .func f=> .func (.func f) #[] #[]
def put (l:List Value) (d:Option Tmp) (v:Value):List Value:=
 match d with
 | some d=>l.set d v
 | none=>l
def Ag (l:List Value) (xs:Array Operand):List Value:=xs.toList.map (ev l)
def evp (l:List Value) (xs:Array (Nat×Operand)):List (Nat×Value):=xs.toList.map fun p=>(p.1,ev l p.2)
def evo (l:List Value) (x:Option Operand):Option Value:=match x with | some x=>some (ev l x) | none=>none
def isC:Operand→Bool | .const _=>true | _=>false
noncomputable def Nc (P:Program) (l:List Value) (o:Oper) (c:Call) (w:World) (K:Value→World→Prop):Prop:=
 match c.callee with
 | .builtin b=>X6 P b c.argTypes.toList o.type (c.args.toList.map isC) (Ag l c.args) w K
 | .value (.func f)=>Q0 P f (Ag l c.args) w K
 | .value f=>Z0 P (ev l f) (Ag l c.args) w K
 | _=>op P (execOp (ev l) o) w K
noncomputable def U9 (P:Program) (l:List Value) (o:Oper) (w:World) (K:Value→World→Prop):Prop:=
 match o.op with
 | .move x=>K (ev l x) w
 | .assign x=>K (ev l x) w
 | .pick c a b=>pick P (ev l c) (ev l a) (ev l b) w K
 | .alloc e=>W3 P e w K
 | .box e x=>box P e (ev l x) w K
 | .build t h=>N1 P t (evp l h) w K
 | .buildSlice t n h=>buildSlice P t n (evp l h) w K
 | .load t a=>Q2 P t (ev l a) w K
 | .store t a x=>Z3 P t (ev l a) (ev l x) w K
 | .nilCheck x=>nilCheck P (ev l x) w K
 | .binOp op t x y _=>Q3 P op t x y (ev l x) (ev l y) w K
 | .unOp op _ x=>J0 P op (ev l x) w K
 | .convert s d x=>conv P s d (ev l x) w K
 | .makeInterface t x=>X0l P t (ev l x) w K
 | .makeFunc f first caps=>M4 P f (Ag l first) (Ag l caps) w K
 | .makeMap t r=>Re P t (evo l r) w K
 | .makeSlice t n c=>Mw P t (ev l n) (ev l c) w K
 | .slice t x q u p=>H3 P t (ev l x) (evo l q) (evo l u) (evo l p) w K
 | .fieldAddr t x f=>fieldAddr P t (ev l x) f w K
 | .field t x f=>Vv P t (ev l x) f w K
 | .indexAddr t x i=>indexAddr P t (ev l x) (ev l i) w K
 | .index t x i=>D9 P t (ev l x) (ev l i) w K
 | .lookup t x i ok=>lookup P t (ev l x) (ev l i) ok w K
 | .mapUpdate t m k x=>mapUpdate P t (ev l m) (ev l k) (ev l x) w K
 | .insert t m k x=>mapUpdate P t (ev l m) (ev l k) (ev l x) w K
 | .mapEntry t m k=>mapEntry P t (ev l m) (ev l k) w K
 | .entryStore t m s x=>entryStore P t (ev l m) (ev l s) (ev l x) w K
 | .range t x=>rng P t (ev l x) w K
 | .next g j=>J4 P (ev l g) j o.type w K
 | .extract x i=>ext P (ev l x) i w K
 | .entry g=>Q7a P (ev l g) w K
 | .panic x=>pnc P (ev l x) w K
 | .call c=>Nc P l o c w K
 | _=>op P (execOp (ev l) o) w K
theorem Q7f {α β:Type} (f:α→β) (a:Array α):a.map f=(a.toList.map f).toArray:=by rw[←Array.toList_map,Array.toArray_toList]
theorem X0G (l:List Value) (x:Option Operand):x.map (ev l)=evo l x:=by cases x<;>rfl
theorem Q45 {P:Program} {l:List Value} {o:Oper} {c:Call} {K g:Value→World→Prop} {w:World} (d: ∀v w,K v w→g v w) (h:Nc P l o c w K):Nc P l o c w g:=by
 obtain ⟨a,e,i⟩:=c
 cases a with
 | builtin b=>exact Dk d h
 | invoke r m=>exact Dk d h
 | value f=>cases f<;>(simp only[Nc,Z0,Q0] at h⊢;exact Dk d h)
theorem B2 {P:Program} {l:List Value} {o:Oper} {K b:Value→World→Prop} {w:World} (a: ∀v w,K v w→b v w) (h:U9 P l o w K):U9 P l o w b:=by
 obtain ⟨d,p,c,pos,e,g⟩:=o
 cases p<;>first | exact a _ _ h | exact Q45 a h | exact Dk a h | (simp only[U9] at h⊢;exact Dk a h)
theorem Q5L {P:Program} {l:List Value} {o:Oper} {K:Value→World→Prop} {w:World} (h:U9 P l o w K):op P (execOp (ev l) o) w K:=by
 unfold U9 at h
 split at h<;>rename_i a
 all_goals first
  | exact h
  | (unfold execOp;rw[a];exact h)
  | (unfold execOp;rw[a];simp only[Q7f,X0G];exact h)
  | (unfold execOp;rw[a,Qr];exact h)
  | skip
 rename_i c
 unfold Nc at h
 split at h<;>rename_i b
 ·unfold execOp;rw[a];simp only[resolve,b,Q7f]
  simp only[pure_bind,invoke]
  unfold X6 at h
  simp only[Array.toArray_toList] at h
  refine (congrArg (fun z=>op P (builtin _ c.argTypes o.type (List.toArray z) _) w K) (List.map_congr_left (fun x _=>?_))).mp h
  cases x<;>rfl
 ·unfold execOp;rw[a];simp only[resolve,b,Q7f]
  simp only[ev,Deferred.ofValue,pure_bind,invoke]
  simpa [Q0,Ag] using h
 ·unfold execOp;rw[a];simp only[resolve,b,Q7f]
  exact h
 ·exact h
def Wk (v:Value) (b:Bool) (w:World) (a:World→(Value→World→Prop)→Prop) (J:Value→World→Prop):Prop:=
 match v with
 | .bool c=>if c=b then a w J else J undef w
 | _=>J undef w
theorem Q8z: ∃f:Value→Bool→World→(World→(Value→World→Prop)→Prop)→(Value→World→Prop)→Prop,f=Wk:=⟨_,rfl⟩
noncomputable def Q1:Value→Bool→World→(World→(Value→World→Prop)→Prop)→(Value→World→Prop)→Prop:=Classical.choose Q8z
theorem Nl:Q1=Wk:=Classical.choose_spec Q8z
def Q1W (v:Value) (t e:Prop):Prop:=
 match v with
 | .bool true=>t
 | .bool false=>e
 | _=>False
theorem Q8o: ∃f:Value→Prop→Prop→Prop,f=Q1W:=⟨_,rfl⟩
noncomputable def X1:Value→Prop→Prop→Prop:=Classical.choose Q8o
theorem Q4L:X1=Q1W:=Classical.choose_spec Q8o
noncomputable def Y3 (P:Program) (ops:List Oper) (next:List Value→World→Prop):List Oper→List Value→World→Prop
 | [],l,w=>next l w
 | o::a,l,w=>
  match o.guard with
  | none=>U9 P l o w (fun v w=>Y3 P ops next a (put l o.dst v) w)
  | some (j,b)=>match (ops[j]?).bind (·.dst) with
   | some d=>Q1 (get l d) b w (U9 P l o) (fun v w=>Y3 P ops next a (put l o.dst v) w)
   | none=>Y3 P ops next a (put l o.dst undef) w
def Gz:Nat→Type
 | 0=>Unit
 | 1=>Value
 | n+2=>Value×Gz (n+1)
def Lw (l:List Value):(a:List Nat)→Gz a.length
 | []=>()
 | [s]=>get l s
 | s::t::r=>(get l s,Lw l (t::r))
def Di (i:Nat) (e:Value):(a:List Nat)→Gz a.length→Value
 | [],_=>e
 | [s],x=>if s=i then x else e
 | s::t::r,x=>if s=i then x.1 else Di i e (t::r) x.2
def N3 (a b:List Nat) (x:Gz a.length) (d:Nat→Value):Nat→List Value→List Value
 | _,[]=>[]
 | i,v::l=>Di i (if b.contains i then d i else v) a x::N3 a b x d (i+1) l
def Q9Y (α:Type) (c:α) (w:World) (a:(α→World→Prop)→α→(Nat→Value)→World→Prop):Prop:=
 ∃(I:α→World→Prop) (μ:α→World→Nat),I c w∧ ∀x d w,I x w→a (fun b w'=>I b w'∧μ b w'<μ x w) x d w
theorem X00: ∃f:(α:Type)→α→World→((α→World→Prop)→α→(Nat→Value)→World→Prop)→Prop,f=Q9Y:=⟨_,rfl⟩
noncomputable def lp {α:Type}:α→World→((α→World→Prop)→α→(Nat→Value)→World→Prop)→Prop:=Classical.choose X00 α
theorem Q9L {α:Type} (b:α) (w:World) (a:(α→World→Prop)→α→(Nat→Value)→World→Prop):lp b w a=Q9Y α b w a:=
 congrFun (congrFun (congrFun (congrFun (Classical.choose_spec X00) α) b) w) a
def X09 (α:Type) (w:World) (A:(α→World→Prop)→World→Prop) (B:α→(Nat→Value)→World→Prop):Prop:=
 ∃I:α→World→Prop,A I w∧ ∀x d w,I x w→B x d w
theorem Q9X: ∃f:(α:Type)→World→((α→World→Prop)→World→Prop)→(α→(Nat→Value)→World→Prop)→Prop,f=X09:=⟨_,rfl⟩
noncomputable def jn {α:Type}:World→((α→World→Prop)→World→Prop)→(α→(Nat→Value)→World→Prop)→Prop:=Classical.choose Q9X α
theorem Q9Z {α:Type} (w:World) (A:(α→World→Prop)→World→Prop) (B:α→(Nat→Value)→World→Prop):jn w A B=X09 α w A B:=
 congrFun (congrFun (congrFun (congrFun (Classical.choose_spec Q9X) α) w) A) B
theorem Zq {α:Type} {w:World} {A:(α→World→Prop)→World→Prop} {B:α→(Nat→Value)→World→Prop} (I:α→World→Prop) (h:A I w) (a: ∀x d w,I x w→B x d w):jn w A B:=by
 rw[Q9Z];exact ⟨I,h,a⟩
theorem Q40 {α:Type} {w:World} {A:(α→World→Prop)→World→Prop} {B:α→(Nat→Value)→World→Prop} (h:jn w A B): ∃I:α→World→Prop,A I w∧ ∀x d w,I x w→B x d w:=by
 rw[Q9Z] at h;exact h
theorem Zv {α:Type} {b:α} {w:World} {a:(α→World→Prop)→α→(Nat→Value)→World→Prop} (I:α→World→Prop) (μ:α→World→Nat) (e:I b w)
 (f: ∀x d w,I x w→a (fun c w'=>I c w'∧μ c w'<μ x w) x d w):lp b w a:=by
 rw[Q9L];exact ⟨I,μ,e,f⟩
theorem Q8A {α:Type} {b:α} {w:World} {a:(α→World→Prop)→α→(Nat→Value)→World→Prop} (h:lp b w a):
 ∃(I:α→World→Prop) (μ:α→World→Nat),I b w∧ ∀x d w,I x w→a (fun c w'=>I c w'∧μ c w'<μ x w) x d w:=by
 rw[Q9L] at h;exact h
def O4 (ops:List Oper):List Nat:=ops.filterMap (·.dst)
def K6:Code→Nat
 | .seq a b=>K6 a+K6 b+1
 | .cond _ a b=>K6 a+K6 b
 | .block _ c=>K6 c
 | .loop c=>K6 c+1
 | .scope c=>K6 c
 | _=>0
def W8 (d:List (Option (List Nat))):Nat→Code→List Nat
 | _, .region _ ops _=>O4 ops.toList
 | k, .seq a b=>(d.getD k none).getD []++(W8 d (k+1) a++W8 d (k+1+K6 a) b)
 | k, .cond _ a b=>W8 d k a++W8 d (k+K6 a) b
 | k, .block _ c=>W8 d k c
 | k, .loop c=>(d.getD k none).getD []++W8 d (k+1) c
 | k, .scope c=>W8 d k c
 | _,_=>[]
abbrev Oj:=Exit→List Value→World→Prop
def thn (next:List Value→World→Prop) (Q:Oj):Oj
 | .normal,a,w=>next a w
 | e,a,w=>Q e a w
def Q1r (id:Nat) (Q:Oj):Oj
 | .exit b,a,w=>if b=id then Q .normal a w else Q (.exit b) a w
 | e,a,w=>Q e a w
noncomputable def Mn (P:Program) (a:List (Option (List Nat))):Nat→Code→Oj→List Value→World→Prop
 | _, .skip,Q,l,w=>Q .normal l w
 | _, .label _,Q,l,w=>Q .normal l w
 | _, .exit id,Q,l,w=>Q (.exit id) l w
 | _, .ret,Q,l,w=>Q .ret l w
 | _, .region _ ops false,Q,l,w=>Y3 P ops.toList (fun l w=>Q .normal l w) ops.toList l w
 | _, .region _ ops true,Q,l,w=> ∀t,Y3 P ops.toList (fun l w=>Q .normal l w) ((Region.schedule (P.follows .mixedOrders) ops t).filterMap (ops[·]?)) l w.drew
 | k, .seq x y,Q,l,w=>match a.getD k none with
  | none=>Mn P a (k+1) x (thn (fun l w=>Mn P a (k+1+K6 x) y Q l w) Q) l w
  | some e=>jn w (fun J w=>Mn P a (k+1) x (thn (fun l' w'=>J (Lw l' e) w') Q) l w)
   (fun z d w=>Mn P a (k+1+K6 x) y Q (N3 e (W8 a (k+1) x) z d 0 l) w)
 | k, .cond c x y,Q,l,w=>X1 (ev l c) (Mn P a k x Q l w) (Mn P a (k+K6 x) y Q l w)
 | k, .block id c,Q,l,w=>Mn P a k c (Q1r id Q) l w
 | k, .loop c,Q,l,w=>
  lp (Lw l ((a.getD k none).getD [])) w (fun b x d w=>Mn P a (k+1) c (thn (fun l' w'=>b (Lw l' ((a.getD k none).getD [])) w') Q) (N3 ((a.getD k none).getD []) (W8 a (k+1) c) x d 0 l) w)
 | _,_,_,_,_=>False
theorem Q7i {ops:List Oper} {l:List Value} {o:Oper} {j:Nat} {b:Bool} (e:o.guard=some (j,b)) {d:Nat} (a:(ops[j]?).bind (·.dst)=some d):
 Region.wanted o (yielded ops.toArray l.toArray)=true↔get l d= .bool b:=by
 unfold Region.wanted yielded
 rw[e]
 simp only[List.getElem?_toArray]
 rw[a]
 simp only[Option.bind_some,get,List.getD_eq_getElem?_getD]
 have key: ∀x:Option Value,((match x with | some (.bool c)=>some c | _=>none)==some b)=true↔x.getD undef= .bool b:=by
  intro x
  cases x with
  | none=>simp[undef]
  | some v=>cases v<;>simp
 exact key _
theorem Q5G {ops:List Oper} {l:List Value} {o:Oper} {j:Nat} {b:Bool} (c:o.guard=some (j,b)) (a:(ops[j]?).bind (·.dst)=none):
 Region.wanted o (yielded ops.toArray l.toArray)=false:=by
 unfold Region.wanted yielded
 rw[c]
 simp only[List.getElem?_toArray]
 rw[a]
 rfl
theorem Uv {v:Value} {b:Bool} {a:World→(Value→World→Prop)→Prop} {J:Value→World→Prop} {w:World} (h:Q1 v b w a J):
 (v= .bool b∧a w J)∨(v≠ .bool b∧J undef w):=by
 rw[Nl] at h
 unfold Wk at h
 split at h
 ·split at h
  ·rename_i c;subst c;exact .inl ⟨rfl,h⟩
  ·rename_i c;exact .inr ⟨by simp[c],h⟩
 ·rename_i d;exact .inr ⟨d b,h⟩
theorem Ty {v:Value} {b:Bool} {a:World→(Value→World→Prop)→Prop} {J:Value→World→Prop} {w:World}
 (h:(v= .bool b∧a w J)∨(v≠ .bool b∧J undef w)):Q1 v b w a J:=by
 rw[Nl]
 unfold Wk
 split
 ·split
  ·rename_i c;subst c
   rcases h with h | h
   ·exact h.2
   ·exact absurd rfl h.1
  ·rename_i c
   rcases h with h | h
   ·exact absurd (Value.bool.inj h.1) c
   ·exact h.2
 ·rename_i d
  rcases h with h | h
  ·exact absurd h.1 (d b)
  ·exact h.2
theorem Q2n (a:Act):a.eval=ev a.tmps.toList:=by
 funext x
 cases x<;>simp[Act.eval,ev,get,List.getD_eq_getElem?_getD]
theorem Q6P (a:Act) (d:Option Tmp) (v:Value):(a.put d v).tmps.toList=put a.tmps.toList d v:=by
 cases d<;>simp[Act.put,put]
theorem Q6W (a:Act) (d:Option Tmp) (v:Value):(a.put d v).defers=a.defers:=by
 cases d<;>simp[Act.put]
def lift (Q:Oj):Exit→Act→World→Prop:=fun e a w=>a.defers=[]∧Q e a.tmps.toList w
theorem Tx (P:Program) (ops:Array Oper) (Q:Exit→Act→World→Prop) (next:List Value→World→Prop)
 (u: ∀a w,a.defers=[]→next a.tmps.toList w→Q .normal a w) (is:List Nat) (r: ∀i∈is,i<ops.size):
 ∀(a:Act) (w:World),a.defers=[]→Y3 P ops.toList next (is.filterMap (ops[·]?)) a.tmps.toList w→wpOps P ops Q is a w:=by
 induction is with
 | nil=>intro a w p h;exact u a w p h
 | cons i is t=>
  intro a w p h
  have o:=r i (by simp)
  have k:ops[i]? =some ops[i]:=by simp[o]
  rw[List.filterMap_cons,k] at h
  simp only[Y3] at h
  simp only[wpOps,k]
  have q:ops.toList.toArray=ops:=by simp
  have s:a.tmps.toList.toArray=a.tmps:=by simp
  have e: ∀{v w},Y3 P ops.toList next (is.filterMap (ops[·]?)) (put a.tmps.toList ops[i].dst v) w→wpOps P ops Q is (a.put ops[i].dst v) w:=by
   intro v w f
   refine t (fun j y=>r j (by simp[y])) _ _ (by rw[Q6W];exact p) ?_
   rw[Q6P];exact f
  have m:U9 P a.tmps.toList ops[i] w (fun v w=>Y3 P ops.toList next (is.filterMap (ops[·]?)) (put a.tmps.toList ops[i].dst v) w)→
   ops[i].wp P a w (wpOps P ops Q is) Q:=by
   intro h
   refine X2c ?_
   rw[Q2n]
   exact Dk (fun v w f=>e f) (Q5L h)
  split at h
  ·rename_i n
   rw[if_pos (by simp[Region.wanted,n])]
   exact .inl (m h)
  ·rename_i j b n
   split at h
   ·rename_i d c
    have g:=Q7i (ops:=ops.toList) (l:=a.tmps.toList) n c
    rw[q,s] at g
    rcases Uv h with ⟨f,h⟩ | ⟨f,h⟩
    ·rw[if_pos (g.2 f)];exact .inl (m h)
    ·rw[if_neg (fun h=>f (g.1 h))];exact e h
   ·rename_i c
    have g:=Q5G (ops:=ops.toList) (l:=a.tmps.toList) n c
    rw[q,s] at g
    rw[if_neg (by rw[g];simp)];exact e h
theorem Is (ops:Array Oper):(List.range ops.size).filterMap (ops[·]?)=ops.toList:=by
 apply List.ext_getElem?
 intro i
 rw[←Array.length_toList]
 have: ∀l:List Oper,(List.range l.length).filterMap (l[·]?)=l:=by
  intro l
  induction l with
  | nil=>rfl
  | cons x l a=>
   rw[List.length_cons,List.range_succ_eq_map,List.filterMap_cons]
   simp only[List.getElem?_cons_zero,List.filterMap_map]
   congr 1
 have h:=this ops.toList
 simp only[Array.getElem?_toList] at h
 rw[h]
theorem Q0p (b:Bool) (ops:Array Oper) (t:Nat): ∀i∈Region.schedule b ops t,i<ops.size:=by
 have key: ∀m c t a e,(∀i∈e,i<ops.size)→ ∀i∈Region.linearise.go m ops c t a e,i<ops.size:=by
  intro m c
  induction c with
  | zero=>intro t a e h i d;simp[Region.linearise.go] at d;exact h i d
  | succ c f=>
   intro t a e h i d
   simp only[Region.linearise.go] at d
   split at d
   ·rename_i j g
    refine f _ _ _ ?_ i d
    intro k hk
    rcases List.mem_cons.1 hk with rfl | hk
    ·have:=List.mem_of_getElem? g
     simp only[List.mem_filter,List.mem_range] at this
     exact this.1
    ·exact h k hk
   ·simp at d;exact h i d
 intro i d
 unfold Region.schedule at d
 split at d
 ·exact key _ _ _ _ _ (by simp) i d
 ·exact key _ _ _ _ _ (by simp) i d
def I6 (W:List Nat) (l l':List Value):Prop:=l'.length=l.length∧ ∀i,W.contains i=false→l'[i]? =l[i]?
theorem I6.refl (W:List Nat) (l:List Value):I6 W l l:=⟨rfl,fun _ _=>rfl⟩
theorem I6.trans {W:List Nat} {a b c:List Value} (h:I6 W a b) (k:I6 W b c):I6 W a c:=
 ⟨k.1.trans h.1,fun i d=>(k.2 i d).trans (h.2 i d)⟩
theorem Hc (a c:List Nat) (x:Gz a.length) (d:Nat→Value) (l:List Value): ∀i,(N3 a c x d i l).length=l.length:=by
 induction l with
 | nil=>intro i;rfl
 | cons v l b=>intro i;simp[N3,b]
theorem Ri (a b:List Nat) (x:Gz a.length) (d:Nat→Value) (l:List Value): ∀i j,(N3 a b x d i l)[j]? =(l[j]?).map fun v=>Di (i+j) (if b.contains (i+j) then d (i+j) else v) a x:=by
 induction l with
 | nil=>intro i j;simp[N3]
 | cons v l c=>
  intro i j
  cases j with
  | zero=>simp[N3]
  | succ j=>simp only[N3,List.getElem?_cons_succ,c];rw[show i+1+j=i+(j+1) from by omega]
theorem Jx (i:Nat) (e:Value): ∀(b:List Nat) (x:Gz b.length),b.contains i=false→Di i e b x=e
 | [],_,_=>rfl
 | [s],x,h=>by
  have a: ¬s=i:=by intro a;subst a;simp at h
  exact if_neg a
 | s::t::r,x,h=>by
  simp only[Di]
  split
  ·rename_i a;subst a;simp at h
  ·refine Jx i e (t::r) x.2 ?_
   simp only[List.contains_cons,Bool.or_eq_false_iff] at h⊢
   exact h.2
theorem Q3P (l:List Value) (i:Nat) (e c:Value): ∀(a:List Nat),a.contains i=true→Di i e a (Lw l a)=get l i
 | [],h=>by simp at h
 | [s],h=>by
  simp only[List.contains_cons,List.contains_nil,Bool.or_false,beq_iff_eq] at h
  subst h;simp[Di,Lw]
 | s::t::r,h=>by
  simp only[Di,Lw]
  split
  ·rename_i b;subst b;rfl
  ·rename_i b
   refine Q3P l i e c (t::r) ?_
   simp only[List.contains_cons,Bool.or_eq_true,beq_iff_eq] at h⊢
   rcases h with h | h
   ·exact absurd h.symm b
   ·exact h
theorem Fo (a c:List Nat) (l l':List Value) (j:l'.length=l.length)
 (h: ∀i,a.contains i=false→c.contains i=false→l'[i]? =l[i]?):l'=N3 a c (Lw l' a) (get l') 0 l:=by
 apply List.ext_getElem?
 intro i
 rw[Ri]
 simp only[Nat.zero_add]
 cases e:l[i]? with
 | none=>
  have:=List.getElem?_eq_none_iff.1 e
  simp only[Option.map_none]
  exact List.getElem?_eq_none (by omega)
 | some v=>
  have m:i<l.length:=(List.getElem?_eq_some_iff.1 e).1
  have k:l'[i]? =some (get l' i):=by
   simp only[get,List.getD_eq_getElem?_getD]
   rw[List.getElem?_eq_getElem (by omega)];rfl
  rw[k]
  simp only[Option.map_some,Option.some.injEq]
  by_cases g:a.contains i=true
  ·rw[Q3P l' i _ undef a g]
  ·have b:a.contains i=false:=by simpa using g
   rw[Jx _ _ _ _ b]
   by_cases d:c.contains i=true
   ·rw[if_pos d]
   ·have f:c.contains i=false:=by simpa using d
    rw[if_neg d]
    have:=h i b f
    rw[k,e] at this
    exact Option.some.inj this
theorem Q3e {v:Value} {t e b a:Prop} (d:t→b) (c:e→a) (h:X1 v t e):X1 v b a:=by
 rw[Q4L] at*
 unfold Q1W at*
 split at h
 ·exact d h
 ·exact c h
 ·exact h.elim
theorem Ym (P:Program) (c:List Oper) (next a:List Value→World→Prop) (W:List Nat) (j:List Value): ∀(ops:List Oper) (l:List Value) (w:World),
 (∀o∈ops,∀d,o.dst=some d→W.contains d=true)→I6 W j l→(∀l w,next l w→I6 W j l→a l w)→Y3 P c next ops l w→Y3 P c a ops l w
 | [],l,w,_,k,p,h=>p l w h k
 | o::f,l,w,q,k,p,h=>by
  have g: ∀v,I6 W j (put l o.dst v):=by
   intro v
   cases t:o.dst with
   | none=>exact k
   | some d=>
    have s:=q o (by simp) d t
    refine k.trans ⟨by simp[put],fun i r=>?_⟩
    have:d≠i:=by intro e;subst e;rw[s] at r;cases r
    simp[put,this]
  have b: ∀v w,Y3 P c next f (put l o.dst v) w→Y3 P c a f (put l o.dst v) w:=fun v w u=>
   Ym P c next a W j f _ w (fun o y=>q o (by simp[y])) (g v) p u
  simp only[Y3] at h⊢
  split at h
  ·exact B2 b h
  ·split at h
   ·refine Ty ((Uv h).imp (fun ⟨n,m⟩=>⟨n,B2 b m⟩) (fun ⟨n,m⟩=>⟨n,b _ _ m⟩))
   ·exact b _ _ h
theorem Q2D {α:Type} {e:α} {c b:(α→World→Prop)→α→(Nat→Value)→World→Prop} {w:World}
 (g: ∀a x d w,c a x d w→b a x d w) (h:lp e w c):lp e w b:=by
 obtain ⟨I,μ,i,j⟩:=Q8A h
 exact Zv I μ i fun x d w f=>g _ _ _ _ (j x d w f)
theorem G0 {a b:List Nat} {i:Nat} (h:a.contains i=true):(a++b).contains i=true:=by simp at h⊢;exact .inl h
theorem O6 {a b:List Nat} {i:Nat} (h:b.contains i=true):(a++b).contains i=true:=by simp at h⊢;exact .inr h
theorem Q2E (P:Program) (q:List (Option (List Nat))) (c:Code): ∀(k:Nat) (Q A:Oj) (W:List Nat) (m l:List Value) (w:World),
 (∀i,(W8 q k c).contains i=true→W.contains i=true)→I6 W m l→
 (∀e l w,Q e l w→I6 W m l→A e l w)→Mn P q k c Q l w→Mn P q k c A l w:=by
 induction c with
 | skip=>intro k Q A W m l w _ g j h;exact j _ _ _ h g
 | label n=>intro k Q A W m l w _ g j h;exact j _ _ _ h g
 | exit id=>intro k Q A W m l w _ g j h;exact j _ _ _ h g
 | ret=>intro k Q A W m l w _ g j h;exact j _ _ _ h g
 | goto n=>intro k Q A W m l w _ g j h;exact h.elim
 | refuse s=>intro k Q A W m l w _ g j h;exact h.elim
 | scope c=>intro k Q A W m l w _ g j h;exact h.elim
 | rangeFunc f p a b=>intro k Q A W m l w _ g j h;exact h.elim
 | region id ops N=>
  intro k Q A W m l w B g j h
  have O: ∀o∈ops.toList,∀d,o.dst=some d→W.contains d=true:=by
   intro o R d hd
   refine B d ?_
   simp only[W8,O4,List.contains_eq_mem,List.mem_filterMap,decide_eq_true_eq]
   exact ⟨o,R,hd⟩
  cases N with
  | false=>exact Ym P _ _ _ W m _ _ _ O g (fun l w hn g=>j _ _ _ hn g) h
  | true=>
   intro t
   refine Ym P _ _ _ W m _ _ _ ?_ g (fun l w hn g=>j _ _ _ hn g) (h t)
   intro o R
   simp only[List.mem_filterMap] at R
   obtain ⟨i,_,r⟩:=R
   exact O o (by simpa using Array.mem_of_getElem? r)
 | seq x y D E=>
  intro k Q A W m l w B g j h
  have Z: ∀i,(W8 q (k+1) x).contains i=true→W.contains i=true:=fun i r=>B i (O6 (G0 r))
  have hy: ∀i,(W8 q (k+1+K6 x) y).contains i=true→W.contains i=true:=fun i r=>B i (O6 (O6 r))
  simp only[Mn] at h⊢
  split at h
  ·refine D _ _ _ W m l w Z g ?_ h
   intro e l' w' C u
   cases e with
   | normal=>exact E _ _ _ W m l' w' hy u j C
   | _=>exact j _ _ _ C u
  ·rename_i sl X
   obtain ⟨J,M,L⟩:=Q40 h
   refine Zq J (D _ _ _ W m l w Z g ?_ M) fun z d w hz=>?_
   ·intro e l' w' C u
    cases e with
    | normal=>exact C
    | _=>exact j _ _ _ C u
   ·refine E _ _ _ W m _ w hy (g.trans ⟨Hc _ _ _ _ _ _,fun i r=>?_⟩) j (L z d w hz)
    rw[Ri]
    have M:sl.contains i=false:=by
     cases H:sl.contains i with
     | false=>rfl
     | true=>rw[B i (G0 (by rw[X];exact H))] at r;cases r
    have L:(W8 q (k+1) x).contains i=false:=by
     cases H:(W8 q (k+1) x).contains i with
     | false=>rfl
     | true=>rw[Z i H] at r;cases r
    simp only[Nat.zero_add]
    cases hl:l[i]? with
    | none=>rfl
    | some v=>simp only[Option.map_some,Jx _ _ _ _ M,L,Bool.false_eq_true,if_false]
 | cond c x y D E=>
  intro k Q A W m l w B g j h
  exact Q3e (D k _ _ W m l w (fun i r=>B i (G0 r)) g j) (E _ _ _ W m l w (fun i r=>B i (O6 r)) g j) h
 | block id c V=>
  intro k Q A W m l w B g j h
  refine V k _ _ W m l w B g ?_ h
  intro e l' w' C u
  cases e with
  | exit ag=>simp only[Q1r] at C⊢;split<;>rename_i Y<;>simp only[Y,if_true,if_false] at C<;>exact j _ _ _ C u
  | _=>exact j _ _ _ C u
 | loop c V=>
  intro k Q A W m l w B g j h
  refine Q2D (fun U x d w hb=>?_) h
  refine V _ _ _ W m _ _ (fun i r=>B i (O6 r)) ?_ ?_ hb
  ·refine g.trans ⟨Hc _ _ _ _ _ _,fun i r=>?_⟩
   rw[Ri]
   have M:((q.getD k none).getD []).contains i=false:=by
    cases H:((q.getD k none).getD []).contains i with
    | false=>rfl
    | true=>rw[B i (G0 H)] at r;cases r
   have L:(W8 q (k+1) c).contains i=false:=by
    cases H:(W8 q (k+1) c).contains i with
    | false=>rfl
    | true=>rw[B i (O6 H)] at r;cases r
   simp only[Nat.zero_add]
   cases hl:l[i]? with
   | none=>rfl
   | some v=>simp only[Option.map_some,Jx _ _ _ _ M,L,Bool.false_eq_true,if_false]
  ·intro e l' w' C u
   cases e with
   | normal=>exact C
   | _=>exact j _ _ _ C u
theorem Q8I (P:Program) (g:List (Option (List Nat))) (c:Code): ∀(k:Nat) (Q:Oj) (a:Act) (w:World),
 a.defers=[]→Mn P g k c Q a.tmps.toList w→c.wp P (lift Q) a w:=by
 induction c with
 | skip=>intro k Q a w j h;exact wp_skip ⟨j,h⟩
 | label n=>intro k Q a w j h;exact wp_label ⟨j,h⟩
 | exit id=>intro k Q a w j h;exact wp_exit ⟨j,h⟩
 | ret=>intro k Q a w j h;exact wp_ret ⟨j,h⟩
 | goto n=>intro k Q a w j h;exact h.elim
 | refuse s=>intro k Q a w j h;exact h.elim
 | scope c=>intro k Q a w j h;exact h.elim
 | rangeFunc f p a b=>intro k Q a w j h;exact h.elim
 | region id ops D=>
  intro k Q a w j h
  cases D with
  | false=>
   refine wp_region (Tx P ops _ _ (fun a w j h=>⟨j,h⟩) _ (by simp) a w j ?_)
   rw[Is];exact h
  | true=>
   refine wp_region_draw fun t=>?_
   exact Tx P ops _ _ (fun a w j h=>⟨j,h⟩) _ (Q0p _ _ _) a _ j (h t)
 | seq x y r u=>
  intro k Q a w j h
  simp only[Mn] at h
  split at h
  ·refine wp_seq (wp_mono (r _ _ a w j h) ?_)
   intro e o w' ⟨m,q⟩
   cases e with
   | normal=>exact u _ _ o w' m q
   | _=>exact ⟨m,q⟩
  ·rename_i Y aa
   obtain ⟨J,U,z⟩:=Q40 h
   have H:=Q2E P g x (k+1) _ (fun e l' w'=>thn (fun l' w'=>J (Lw l' Y) w') Q e l' w'∧I6 (W8 g (k+1) x) a.tmps.toList l') (W8 g (k+1) x) a.tmps.toList a.tmps.toList w (fun _ h=>h) (I6.refl _ _) (fun e l w h M=>⟨h,M⟩) U
   refine wp_seq (wp_mono (r (k+1) _ a w j H) ?_)
   intro e o w' ⟨m,q,C⟩
   cases e with
   | normal=>
    refine u (k+1+K6 x) _ o w' m ?_
    rw[Fo Y (W8 g (k+1) x) a.tmps.toList o.tmps.toList C.1 (fun i _ h=>C.2 i h)]
    exact z _ _ _ q
   | _=>exact ⟨m,q⟩
 | cond c x y r u=>
  intro k Q a w j h
  simp only[Mn,Q4L,Q1W] at h
  split at h
  ·rename_i X
   exact wp_cond_true (by rw[Q2n];exact X) (r _ _ _ _ j h)
  ·rename_i X
   exact wp_cond_false (by rw[Q2n];exact X) (u _ _ _ _ j h)
  ·exact h.elim
 | block id c R=>
  intro k Q a w j h
  refine wp_block (wp_mono (R k _ a w j h) ?_)
  intro e o w' ⟨m,q⟩
  cases e with
  | exit ab=>
   simp only[Q1r,Exit.inBlock] at q⊢
   split<;>rename_i V<;>simp only[V,if_true,if_false] at q<;>exact ⟨m,q⟩
  | _=>exact ⟨m,q⟩
 | loop c R=>
  intro k Q a w j h
  obtain ⟨I,μ,h0,hr⟩:=Q8A h
  refine wp_loop (fun o w'=>o.defers=[]∧(∃d,o.tmps.toList=N3 ((g.getD k none).getD []) (W8 g (k+1) c) (Lw o.tmps.toList ((g.getD k none).getD [])) d 0 a.tmps.toList)∧I (Lw o.tmps.toList ((g.getD k none).getD [])) w') (fun o w'=>μ (Lw o.tmps.toList ((g.getD k none).getD [])) w') ⟨j,⟨get a.tmps.toList,Fo _ _ _ _ rfl (fun _ _ _=>rfl)⟩,h0⟩ ?_
  intro E w1 ⟨N,⟨Z,v⟩,L⟩
  have O:=hr _ Z w1 L
  dsimp only at O
  rw[←v] at O
  have W:=Q2E P g c (k+1) _ (fun e l' w'=>thn (fun l' w'=>I (Lw l' ((g.getD k none).getD [])) w'∧μ (Lw l' ((g.getD k none).getD [])) w'<μ (Lw E.tmps.toList ((g.getD k none).getD [])) w1) Q e l' w'∧I6 (W8 g (k+1) c) E.tmps.toList l') (W8 g (k+1) c) E.tmps.toList E.tmps.toList w1 (fun _ h=>h) (I6.refl _ _) (fun e l w h M=>⟨h,M⟩) O
  refine wp_mono (R _ _ E w1 N W) ?_
  intro e a2 w2 ⟨A,z,B⟩
  cases e with
  | normal=>
   refine ⟨⟨A,⟨get a2.tmps.toList,Fo _ _ _ _ ?_ ?_⟩,z.1⟩,z.2⟩
   ·rw[B.1,v,Hc]
   ·intro i U H
    rw[B.2 i H,v,Ri]
    simp only[Nat.zero_add,Jx _ _ _ _ U,H,Bool.false_eq_true,if_false,Option.map_id']
  | _=>exact ⟨A,z⟩
def Q76:List Value→Nat→Value→(List Value→Prop)→Prop
 | [],_,_,k=>k []
 | _::l,0,v,k=>k (v::l)
 | x::l,n+1,v,k=>Q76 l n v (fun l'=>k (x::l'))
def Q2c (l:List Value) (d:Option Tmp) (v:Value) (k:List Value→Prop):Prop:=
 match d with
 | some d=>Q76 l d v k
 | none=>k l
def Q6S:List Value→Nat→(Value→Prop)→Prop
 | [],_,k=>k undef
 | x::_,0,k=>k x
 | _::l,n+1,k=>Q6S l n k
def evK (l:List Value) (o:Operand) (k:Value→Prop):Prop:=
 match o with
 | .tmp t=>Q6S l t k
 | .const v=>k v
 | .global g=>k (.pointer (some ⟨g,0,none⟩))
 | .func f=>k (.func (.func f) #[] #[])
def Q1x (i:Nat) (e:Value):(a:List Nat)→Gz a.length→(Value→Prop)→Prop
 | [],_,k=>k e
 | [s],x,k=>if s=i then k x else k e
 | s::t::r,x,k=>if s=i then k x.1 else Q1x i e (t::r) x.2 k
def Sv (a b:List Nat) (x:Gz a.length) (d:Nat→Value):Nat→List Value→(List Value→Prop)→Prop
 | _,[],k=>k []
 | i,v::l,k=>match b.contains i with
  | true=>Q1x i (d i) a x (fun u=>Sv a b x d (i+1) l (fun l'=>k (u::l')))
  | false=>Q1x i v a x (fun u=>Sv a b x d (i+1) l (fun l'=>k (u::l')))
theorem X0w (l:List Value): ∀(n:Nat) (v:Value) (k:List Value→Prop),Q76 l n v k=k (l.set n v):=by
 induction l with
 | nil=>intro n v k;rfl
 | cons x l a=>intro n v k;cases n with
  | zero=>rfl
  | succ n=>simp only[Q76,a,List.set_cons_succ]
theorem Q5T (l:List Value) (d:Option Tmp) (v:Value) (k:List Value→Prop):Q2c l d v k=k (put l d v):=by
 cases d with
 | none=>rfl
 | some d=>exact X0w l d v k
theorem X0z (l:List Value): ∀(n:Nat) (k:Value→Prop),Q6S l n k=k (get l n):=by
 induction l with
 | nil=>intro n k;rfl
 | cons x l a=>intro n k;cases n with
  | zero=>rfl
  | succ n=>simp only[Q6S,a];rfl
theorem X1p (l:List Value) (o:Operand) (k:Value→Prop):evK l o k=k (ev l o):=by
 cases o with
 | tmp t=>exact X0z l t k
 | _=>rfl
theorem Ak (i:Nat) (e:Value) (k:Value→Prop): ∀(a:List Nat) (x:Gz a.length),Q1x i e a x k=k (Di i e a x)
 | [],_=>rfl
 | [s],x=>by
  by_cases h:s=i
  ·exact (if_pos h).trans (congrArg k (if_pos h).symm)
  ·exact (if_neg h).trans (congrArg k (if_neg h).symm)
 | s::t::r,x=>by
  by_cases h:s=i
  ·exact (if_pos h).trans (congrArg k (if_pos h).symm)
  ·exact ((if_neg h).trans (Ak i e k (t::r) x.2)).trans (congrArg k (if_neg h).symm)
theorem Q2S (a c:List Nat) (x:Gz a.length) (d:Nat→Value) (l:List Value): ∀(i:Nat) (k:List Value→Prop),Sv a c x d i l k=k (N3 a c x d i l):=by
 induction l with
 | nil=>intro i k;rfl
 | cons v l b=>
  intro i k
  simp only[Sv,N3]
  split
  ·rename_i h;rw[Ak,b,if_pos h]
  ·rename_i h;rw[Ak,b,if_neg (by rw[h];simp)]
theorem Ra (b c a:List Nat) (h: ∀i,c.contains i=a.contains i) (x:Gz b.length) (d:Nat→Value) (l:List Value): ∀i,N3 b c x d i l=N3 b a x d i l:=by
 induction l with
 | nil=>intro i;rfl
 | cons v l e=>intro i;simp only[N3,e,h]
noncomputable def B8 (P:Program) (ops:List Oper) (next:List Value→World→Prop):List Oper→List Value→World→Prop
 | [],l,w=>next l w
 | o::a,l,w=>
  match o.guard with
  | none=>match o.op with
   | .move x=>evK l x fun v=>Q2c l o.dst v fun l=>B8 P ops next a l w
   | .assign x=>evK l x fun v=>Q2c l o.dst v fun l=>B8 P ops next a l w
   | _=>U9 P l o w (fun v w=>Q2c l o.dst v fun l=>B8 P ops next a l w)
  | some (j,b)=>match (ops[j]?).bind (·.dst) with
   | some d=>Q1 (get l d) b w (U9 P l o) (fun v w=>Q2c l o.dst v fun l=>B8 P ops next a l w)
   | none=>Q2c l o.dst undef fun l=>B8 P ops next a l w
theorem Db (P:Program) (ops:List Oper) (next:List Value→World→Prop) (os:List Oper): ∀(l:List Value) (w:World),B8 P ops next os l w=Y3 P ops next os l w:=by
 induction os with
 | nil=>intro l w;rfl
 | cons o c a=>
  intro l w
  obtain ⟨dst,p,d,pos,e,g⟩:=o
  cases g with
  | none=>cases p<;>simp only[B8,Y3,Q5T,X1p,a,U9]
  | some q=>obtain ⟨j,b⟩:=q;simp only[B8,Y3,Q5T,a]
def K1 (T:World→World→Prop) (φ:Value→World→Prop):Prop:= ∀v w w',φ v w→T w w'→φ v w'
def dk (T:World→World→Prop) (φ:Value→World→Prop) (w:World):Value→World→Prop:=fun v w'=>T w w'∧φ v w'
def Q4F (T:World→World→Prop) (A:(Value→World→Prop)→Prop) (a:(Value→World→Prop)→Prop):Prop:=
 ∃φ,K1 T φ∧A φ∧a φ
theorem Q8r: ∃f:(World→World→Prop)→((Value→World→Prop)→Prop)→((Value→World→Prop)→Prop)→Prop,f=Q4F:=⟨_,rfl⟩
noncomputable def Q7:(World→World→Prop)→((Value→World→Prop)→Prop)→((Value→World→Prop)→Prop)→Prop:=Classical.choose Q8r
theorem Q7y:Q7=Q4F:=Classical.choose_spec Q8r
def Q7t (w:World) (A:(World→World→Prop)→(World→Prop)→Prop):Prop:= ∃T B,B w.drew∧(∀w w',B w→T w w'→B w')∧A T B
theorem X01: ∃f:World→((World→World→Prop)→(World→Prop)→Prop)→Prop,f=Q7t:=⟨_,rfl⟩
noncomputable def dr:World→((World→World→Prop)→(World→Prop)→Prop)→Prop:=Classical.choose X01
theorem X03:dr=Q7t:=Classical.choose_spec X01
theorem Q09 {w:World} {A:(World→World→Prop)→(World→Prop)→Prop} (T:World→World→Prop) (B:World→Prop) (h:B w.drew) (a: ∀w w',B w→T w w'→B w') (b:A T B):dr w A:=by
 rw[X03];exact ⟨T,B,h,a,b⟩
theorem W7 {T:World→World→Prop} {A a:(Value→World→Prop)→Prop} (φ:Value→World→Prop) (b:K1 T φ) (h:A φ) (c:a φ):Q7 T A a:=by
 rw[Q7y];exact ⟨φ,b,h,c⟩
def Q2o (T:World→World→Prop) (A a:(List Value→Value→World→Prop)→Prop):Prop:=
 ∃φ,(∀xs,K1 T (φ xs))∧A φ∧a φ
theorem Q5X: ∃f:(World→World→Prop)→((List Value→Value→World→Prop)→Prop)→((List Value→Value→World→Prop)→Prop)→Prop,f=Q2o:=⟨_,rfl⟩
noncomputable def Q19:(World→World→Prop)→((List Value→Value→World→Prop)→Prop)→((List Value→Value→World→Prop)→Prop)→Prop:=Classical.choose Q5X
theorem Q62:Q19=Q2o:=Classical.choose_spec Q5X
theorem Q6b {T:World→World→Prop} {A a:(List Value→Value→World→Prop)→Prop} (φ:List Value→Value→World→Prop) (b: ∀xs,K1 T (φ xs)) (h:A φ) (c:a φ):Q19 T A a:=by
 rw[Q62];exact ⟨φ,b,h,c⟩
abbrev Iv:=Nat×Nat
def Ap (a:Nat→Iv):Prop:= ∀i j,i≠j→(a i).2≤(a j).1∨(a j).2≤(a i).1
def dkR (T:World→World→Prop) (φ:Iv→Value→World→Prop) (w:World):Value→World→Prop:=fun v w'=>T w w'∧φ (w.heap.size,w'.heap.size) v w'
def Q2m (T:World→World→Prop) (A a:(Iv→Value→World→Prop)→Prop):Prop:=
 ∃φ,(∀p,K1 T (φ p))∧A φ∧a φ
theorem Q5Z: ∃f:(World→World→Prop)→((Iv→Value→World→Prop)→Prop)→((Iv→Value→World→Prop)→Prop)→Prop,f=Q2m:=⟨_,rfl⟩
noncomputable def Q2i:(World→World→Prop)→((Iv→Value→World→Prop)→Prop)→((Iv→Value→World→Prop)→Prop)→Prop:=Classical.choose Q5Z
theorem Q6n:Q2i=Q2m:=Classical.choose_spec Q5Z
theorem Q5W {T:World→World→Prop} {A a:(Iv→Value→World→Prop)→Prop} (φ:Iv→Value→World→Prop) (b: ∀p,K1 T (φ p)) (h:A φ) (c:a φ):Q2i T A a:=by
 rw[Q6n];exact ⟨φ,b,h,c⟩
def Q4h (w:World) (A:(World→World→Prop)→(World→Prop)→Prop):Prop:= ∃T B,B w.drew∧(∀w w',B w→T w w'→B w')∧(∀w w',T w w'→w.heap.size≤w'.heap.size)∧A T B
theorem Q8g: ∃f:World→((World→World→Prop)→(World→Prop)→Prop)→Prop,f=Q4h:=⟨_,rfl⟩
noncomputable def drR:World→((World→World→Prop)→(World→Prop)→Prop)→Prop:=Classical.choose Q8g
theorem Q8a:drR=Q4h:=Classical.choose_spec Q8g
theorem X1e {w:World} {A:(World→World→Prop)→(World→Prop)→Prop} (T:World→World→Prop) (B:World→Prop) (h:B w.drew) (a: ∀w w',B w→T w w'→B w') (b: ∀w w',T w w'→w.heap.size≤w'.heap.size) (c:A T B):drR w A:=by
 rw[Q8a];exact ⟨T,B,h,a,b,c⟩
def Rt:Bool→((Nat→Iv)→Prop)→Prop
 | false,k=>k fun _=>(0,0)
 | true,k=> ∀a:Nat→Iv,Ap a→k a
def OkI:Bool→(Nat→Iv)→Prop
 | false,a=>a=fun _=>(0,0)
 | true,a=>Ap a
def Mt:Bool→World→Nat
 | false,_=>0
 | true,w=>w.heap.size
theorem Q55 {r:Bool} {k:(Nat→Iv)→Prop} (h:Rt r k) {a:Nat→Iv} (b:OkI r a):k a:=by
 cases r with
 | false=>have b:a=_:=b;subst b;exact h
 | true=>exact h a b
def Rf (r:Bool) (a:Nat→Iv) (w:World):Prop:=OkI r a∧ ∀q,(a q).2≤Mt r w
theorem Rf.init {r:Bool} {w:World}:Rf r (fun _=>(0,0)) w:=⟨by cases r<;>first | rfl | exact fun _ _ _=> .inl (Nat.le_refl _),fun _=>Nat.zero_le _⟩
theorem Rf.step {r:Bool} {c:Nat→Iv} {w w':World} (h:Rf r c w) (g:Mt r w≤Mt r w') (q:Nat):Rf r (fun n=>if n=q then (Mt r w,Mt r w') else c n) w':=by
 obtain ⟨a,d⟩:=h
 refine ⟨?_,fun n=>?_⟩
 ·cases r with
  | false=>
   have a:c=_:=a
   subst a
   funext n
   simp[Mt]
  | true=>
   intro i j b
   have a:Ap c:=a
   simp only
   by_cases e:i=q
   ·subst e
    rw[if_pos rfl,if_neg (Ne.symm b)]
    exact .inr (d j)
   ·rw[if_neg e]
    by_cases f:j=q
    ·subst f
     rw[if_pos rfl]
     exact .inl (d i)
    ·rw[if_neg f]
     exact a i j b
 ·simp only
  split
  ·exact Nat.le_refl _
  ·exact Nat.le_trans (d n) g
noncomputable def runOp (P:Program) (ops:List Oper) (l:List Value) (o:Oper) (w:World) (K:Value→World→Prop):Prop:=
 match o.guard with
 | none=>U9 P l o w K
 | some (j,b)=>match (ops[j]?).bind (·.dst) with
  | some d=>Q1 (get l d) b w (U9 P l o) K
  | none=>False
inductive Ent where
  | val (v : Value)
  | ref (j : Nat)
def Ent.at (u:Nat→Value):Ent→Value
 | .val v=>v
 | .ref j=>u j
def F9 (u:Nat→Value) (S:List Ent):List Value:=S.map (Ent.at u)
def getE:List Ent→Nat→Ent
 | [],_=> .val undef
 | x::_,0=>x
 | _::l,n+1=>getE l n
def entOf (S:List Ent):Operand→Ent
 | .tmp t=>getE S t
 | .const v=> .val v
 | .global g=> .val (.pointer (some ⟨g,0,none⟩))
 | .func f=> .val (.func (.func f) #[] #[])
def mv (o:Oper):Option Operand:=
 match o.guard with
 | some _=>none
 | none=>match o.op with
  | .move x=>some x
  | .assign x=>some x
  | _=>none
def Q0P:List Ent→Nat→Ent→List Ent
 | [],_,_=>[]
 | _::l,0,e=>e::l
 | x::l,n+1,e=>x::Q0P l n e
def putE (S:List Ent) (d:Option Nat) (e:Ent):List Ent:=
 match d with
 | some d=>Q0P S d e
 | none=>S
def E2 (o:Oper):List Nat:=o.op.operands.toList.filterMap fun | .tmp t=>some t | _=>none
def N6 (ops:List Oper) (o:Oper):List Nat:=
 match o.guard with
 | none=>[]
 | some (j,_)=>match (ops[j]?).bind (·.dst) with | some d=>[d] | none=>[]
def Q0c:List Nat→List Nat
 | []=>[]
 | x::l=>x::(Q0c l).filter (fun y=> !(y==x))
def Q3G:Ent→List Nat
 | .ref j=>[j]
 | .val _=>[]
def Q0a (S:List Ent):List Nat→List Nat
 | []=>[]
 | s::l=>Q3G (getE S s)++Q0a S l
def refs (ops:List Oper) (S:List Ent) (o:Oper):List Nat:=Q0c (Q0a S (N6 ops o++E2 o))
def Ev:List Nat→(Nat→Value)→((Nat→Value)→Prop)→Prop
 | [],u,k=>k u
 | j::a,u,k=> ∀t:Value,Ev a (fun n=>if n=j then t else u n) k
abbrev Ex:=List (Nat×List Nat×(List Value→Iv→Value→World→Prop))
def Zy:Ex→Nat→Option (List Nat×(List Value→Iv→Value→World→Prop))
 | [],_=>none
 | (i,φ)::l,j=>if i=j then some φ else Zy l j
def Ez (c:Ex) (u:Nat→Value) (b:Nat→Iv) (w:World) (a:Prop):List Nat→Prop
 | []=>a
 | j::d=>match Zy c j with
  | some ([],φ)=>φ [] (b j) (u j) w→Ez c u b w a d
  | _=>Ez c u b w a d
def Ax (c:Ex) (u:Nat→Value) (b:Nat→Iv) (w:World) (a:Prop):List Nat→Prop
 | []=>a
 | j::d=>match Zy c j with
  | some (R,φ)=>φ (R.map u) (b j) (u j) w→Ax c u b w a d
  | none=>Ax c u b w a d
def Q48 (o:Oper):Bool:=match o.op with | .store .. =>true | _=>false
def Tk (o:Oper):Bool:=match o.op with | .call c=>(match c.callee with | .value (.func _)=>true | _=>false) | _=>false
def Q6H (r:Bool) (o:Oper):Bool:=match r with | true=>Tk o | false=>false
noncomputable def chain (P:Program) (r:Bool) (ops:List Oper) (T:World→World→Prop) (B:World→Prop) (J4:List Value→World→Prop) (tail:List Oper):Nat→List Oper→List Ent→Ex→List Nat→Prop
 | _,[],S,b,done=>Ev done (fun _=>undef) fun u=>Rt r fun c=> ∀w,B w→Ax b u c w (B8 P ops J4 tail (F9 u S) w) done
 | i,o::a,S,b,done=>
  match mv o with
  | some x=>chain P r ops T B J4 tail (i+1) a (putE S o.dst (entOf S x)) b done
  | none=>match Q48 o with
   | true=>Q19 T (fun φ=>Ev (refs ops S o) (fun _=>undef) fun u=>Rt r fun c=> ∀w,B w→Ez b u c w (runOp P ops (F9 u S) o w (dk T (φ ((refs ops S o).map u)) w)) (refs ops S o))
    (fun φ=>chain P r ops T B J4 tail (i+1) a (putE S o.dst (.ref i)) (b++[(i,refs ops S o,fun xs (_:Iv)=>φ xs)]) (done++[i]))
   | false=>match Q6H r o with
    | true=>Q2i T (fun φ=>Ev (refs ops S o) (fun _=>undef) fun u=>Rt r fun c=> ∀w,B w→Ez b u c w (runOp P ops (F9 u S) o w (dkR T φ w)) (refs ops S o))
     (fun φ=>chain P r ops T B J4 tail (i+1) a (putE S o.dst (.ref i)) (b++[(i,[],fun (_:List Value)=>φ)]) (done++[i]))
    | false=>Q7 T (fun φ=>Ev (refs ops S o) (fun _=>undef) fun u=>Rt r fun c=> ∀w,B w→Ez b u c w (runOp P ops (F9 u S) o w (dk T φ w)) (refs ops S o))
     (fun φ=>chain P r ops T B J4 tail (i+1) a (putE S o.dst (.ref i)) (b++[(i,[],fun (_:List Value) (_:Iv)=>φ)]) (done++[i]))
def T8:Op→Bool
 | .ready _ | .waits _ | .sliceToArrayPointer .. | .makeChan .. | .typeAssert .. | .go _ | .defer _ | .send .. | .recv .. | .select .. =>false
 | .call c=>match c.callee with | .invoke .. =>false | _=>true
 | _=>true
theorem Rj {l l':List Value} {x:Option Operand} (h: ∀y∈x.toArray,ev l y=ev l' y):evo l x=evo l' x:=by
 cases x with
 | none=>rfl
 | some y=>simp only[evo];rw[h y (by simp)]
theorem Tz {l l':List Value} {xs:Array Operand} (h: ∀y∈xs,ev l y=ev l' y):Ag l xs=Ag l' xs:=by
 unfold Ag;exact List.map_congr_left fun y a=>h y (by simpa using a)
theorem Q30 {l l':List Value} {xs:Array (Nat×Operand)} (h: ∀y∈(xs.toList.map (·.2)).toArray,ev l y=ev l' y):evp l xs=evp l' xs:=by
 unfold evp
 refine List.map_congr_left fun y a=>?_
 rw[h y.2 (by simp;exact ⟨y.1,by simpa using a⟩)]
theorem Nj {P:Program} {l l':List Value} {o:Oper} (q:T8 o.op=true) (h: ∀x∈o.op.operands,ev l x=ev l' x):U9 P l o=U9 P l' o:=by
 obtain ⟨d,p,B,pos,C,g⟩:=o
 funext w K
 cases p with
 | call c=>
  obtain ⟨j,i,D⟩:=c
  have k:Ag l i=Ag l' i:=Tz fun y e=>h y (by simp[Op.operands,Call.operands];exact .inr e)
  cases j with
  | invoke r m=>simp[T8] at q
  | builtin b=>simp only[U9,Nc,k]
  | value f=>
   have v:ev l f=ev l' f:=h f (by simp[Op.operands,Call.operands])
   cases f<;>simp only[U9,Nc,k,v]
 | build t A=>simp only[U9];rw[Q30 h]
 | buildSlice t n A=>simp only[U9];rw[Q30 h]
 | makeFunc f a b=>
  simp only[U9]
  rw[Tz (xs:=a) fun y e=>h y (by simp[Op.operands];exact .inl e),Tz (xs:=b) fun y e=>h y (by simp[Op.operands];exact .inr e)]
 | makeMap t r=>simp only[U9];rw[Rj h]
 | slice t x u z s=>
  simp only[U9]
  rw[h x (by simp[Op.operands]),Rj (x:=u) fun y e=>h y (by simp[Op.operands] at e⊢;simp[e]),Rj (x:=z) fun y e=>h y (by simp[Op.operands] at e⊢;simp[e]),Rj (x:=s) fun y e=>h y (by simp[Op.operands] at e⊢;simp[e])]
 | _=>first
  | (simp[T8] at q;done)
  | (simp only[Op.operands,List.mem_toArray,List.mem_cons,List.not_mem_nil,or_false,forall_eq_or_imp,forall_eq] at h;simp only[U9,h];done)
  | rfl
def Bv:List Oper→List Nat→List Nat
 | [],acc=>acc
 | o::a,acc=>Bv a (acc++[(o.after.toList.filter (Region.binds .any)).foldl (fun s e=>s ||| 2 ^ e.on ||| acc.getD e.on 0) 0])
def K8 (a b:Oper):Bool:=
 match a.dst with
 | some d=>(E2 b).contains d||b.dst==some d
 | none=>false
def Q2k (a:List Nat) (ops:List Oper):Bool:=
 ops.zipIdx.all fun (o,j)=>ops.zipIdx.all fun (q,i)=> !(decide (i<j))|| !(K8 q o||K8 o q)||(a.getD j 0).testBit i
def Zx (ops:List Oper):Bool:=
 ops.zipIdx.all fun (o,i)=>T8 o.op&&(o.after.toList.filter (Region.binds .any)).all (fun e=>decide (e.on<i))&&
  match o.guard with | none=>true | some (j,_)=>(o.after.toList.filter (Region.binds .any)).any (fun e=>e.on==j)
def Q3F (m:Region.Mode) (ops:List Oper):List Nat→List Nat→Bool
 | [],_=>true
 | j::L,seen=>((ops[j]?.map fun o=>o.after.toList).getD []).all (fun e=> !Region.binds m e||seen.contains e.on)&&Q3F m ops L (j::seen)
def G3 (m:Region.Mode) (ops:List Oper) (L:List Nat):Bool:=
 Q3F m ops L []&&(List.range ops.length).all (L.contains ·)&&ops.all (fun o=>o.after.toList.all fun e=> !Region.binds m e||decide (e.on<ops.length))
def Q9b (m:Region.Mode) (ops:List Oper):Nat→List Nat→List Nat→List Nat
 | 0,_,seen=>seen.reverse
 | n+1,a,seen=>
  match a.find? (fun j=>((ops[j]?.map fun o=>o.after.toList).getD []).all (fun e=> !Region.binds m e||seen.contains e.on)) with
  | some j=>Q9b m ops n (a.erase j) (j::seen)
  | none=>seen.reverse
def Ql:List Nat→Bool
 | []=>true
 | x::l=> !l.contains x&&Ql l
def G7 (ops:List Oper) (j:Nat):List Nat:=(ops[j]?.map fun o=>(o.after.toList.filter (Region.binds .any)).map (·.on)).getD []
def Es (ops:List Oper) (L:List Nat):Prop:= ∀b j a,L=b++j::a→ ∀i∈G7 ops j,i∈b
theorem Q3Y (f:Edge→Nat) (l:List Edge): ∀(s i:Nat),(l.foldl (fun s e=>s ||| 2 ^ e.on ||| f e) s).testBit i=true→
 s.testBit i=true∨ ∃e∈l,e.on=i∨(f e).testBit i=true:=by
 induction l with
 | nil=>intro s i h;exact .inl h
 | cons e l b=>
  intro s i h
  rcases b _ _ h with h | ⟨c,a,h⟩
  ·simp only[Nat.testBit_or,Bool.or_eq_true] at h
   rcases h with (h | h) | h
   ·exact .inl h
   ·rw[Nat.testBit_two_pow] at h
    exact .inr ⟨e,by simp, .inl (by simpa using h)⟩
   ·exact .inr ⟨e,by simp, .inr h⟩
  ·exact .inr ⟨c,by simp[a],h⟩
theorem Q3g (a:List Oper): ∀(b:List Oper) (acc:List Nat),acc.length+b.length=a.length→(∀k,acc.length≤k→a[k]? =b[k-acc.length]?)→
 (∀j i,j<acc.length→(acc.getD j 0).testBit i=true→ ∃k∈G7 a j,k=i∨(k<j∧(acc.getD k 0).testBit i=true))→
 (∀j,j<a.length→ ∀k∈G7 a j,k<j)→
 ∀j i,j<a.length→((Bv b acc).getD j 0).testBit i=true→ ∃k∈G7 a j,k=i∨(k<j∧((Bv b acc).getD k 0).testBit i=true)
 | [],acc,q,_,c,_=>by
  intro j i t h
  exact c j i (by simp at q;omega) h
 | o::b,acc,q,f,c,n=>by
  have z:a[acc.length]? =some o:=by rw[f _ (Nat.le_refl _)];simp
  refine Q3g a b _ (by simp at q⊢;omega) ?_ ?_ n
  ·intro k g
   simp only[List.length_append,List.length_cons,List.length_nil] at g⊢
   rw[f k (by omega)]
   obtain ⟨m,w⟩: ∃m,k-acc.length=m+1:=⟨k-acc.length-1,by omega⟩
   rw[w,List.getElem?_cons_succ]
   congr 1;omega
  ·intro j i t h
   simp only[List.length_append,List.length_cons,List.length_nil] at t
   have d: ∀k,k<acc.length→(acc++[(o.after.toList.filter (Region.binds .any)).foldl (fun s e=>s ||| 2 ^ e.on ||| acc.getD e.on 0) 0]).getD k 0=acc.getD k 0:=by
    intro k g
    simp only[List.getD_eq_getElem?_getD]
    rw[List.getElem?_append_left g]
   by_cases p:j<acc.length
   ·rw[d j p] at h
    obtain ⟨k,g,h⟩:=c j i p h
    exact ⟨k,g,h.imp id fun ⟨y,u⟩=>⟨y,by rw[d k (by omega)];exact u⟩⟩
   ·have r:j=acc.length:=by omega
    subst r
    simp only[List.getD_eq_getElem?_getD,List.getElem?_append_right (Nat.le_refl _),Nat.sub_self,List.getElem?_cons_zero,Option.getD_some] at h
    rcases Q3Y (fun e=>acc.getD e.on 0) _ _ _ (by simpa only[List.getD_eq_getElem?_getD] using h) with h | ⟨e,v,h⟩
    ·simp at h
    ·have l:e.on∈G7 a acc.length:=by
      unfold G7;rw[z];simp only[Option.map_some,Option.getD_some,List.mem_map];exact ⟨e,v,rfl⟩
     refine ⟨e.on,l,h.imp id fun h=>?_⟩
     have g:=n acc.length (by simp at q;omega) _ l
     exact ⟨g,by rw[d _ g];exact h⟩
theorem Bi {ops:List Oper} (h:Zx ops=true): ∀j,j<ops.length→ ∀k∈G7 ops j,k<j:=by
 intro j b k a
 simp only[Zx,List.all_eq_true,Bool.and_eq_true] at h
 unfold G7 at a
 rw[List.getElem?_eq_getElem b] at a
 simp only[Option.map_some,Option.getD_some,List.mem_map] at a
 obtain ⟨e,c,rfl⟩:=a
 have:=(h (ops[j],j) (by rw[List.mem_zipIdx_iff_getElem?];simp[b])).1.2 e c
 simpa using this
theorem Q4q {ops:List Oper} (m:Zx ops=true) {L:List Nat} (p:Es ops L): ∀(j:Nat),j<ops.length→ ∀i b a,L=b++j::a→((Bv ops []).getD j 0).testBit i=true→i∈b:=by
 intro j
 induction j using Nat.strongRecOn with
 | _ j n=>
  intro e i b a f g
  obtain ⟨k,l,h⟩:=Q3g ops ops [] (by simp) (by simp) (by intro j i e;simp at e) (Bi m) j i e g
  have c:=p b j a f k l
  rcases h with rfl | ⟨d,h⟩
  ·exact c
  ·obtain ⟨o,q,rfl⟩:=List.append_of_mem c
   have:=n k d (by omega) i o (q++j::a) (by rw[f];simp) h
   exact List.mem_append_left _ this
theorem Ul: ∀(n:Nat) (a:List Nat),(∀k,k<n→k∈a)→n≤a.length
 | 0,_,_=>Nat.zero_le _
 | n+1,a,h=>by
  have b:=Ul n (a.erase n) fun k d=>(List.mem_erase_of_ne (by omega)).2 (h k (by omega))
  have e:=List.length_erase_of_mem (h n (by omega))
  have c:=List.length_pos_of_mem (h n (by omega))
  omega
theorem R9: ∀(n:Nat) (l:List Nat),l.Nodup→(∀k∈l,k<n)→l.length≤n
 | 0,l,_,h=>by
  cases l with
  | nil=>simp
  | cons x l=>exact absurd (h x (by simp)) (by omega)
 | n+1,l,c,h=>by
  by_cases b:n∈l
  ·have g:=R9 n (l.erase n) (c.erase n) fun k a=>by
    have f:=h k (List.mem_of_mem_erase a)
    have d:k≠n:=fun e=>by subst e;exact (List.Nodup.not_mem_erase c) a
    omega
   have f:=List.length_erase_of_mem b
   have d:=List.length_pos_of_mem b
   omega
  ·have:=R9 n l c fun k a=>by
    have f:=h k a
    have d:k≠n:=fun e=>by subst e;exact b a
    omega
   omega
theorem Q7M {m:Region.Mode} {e:Edge} (h:Region.binds .any e=true):Region.binds m e=true:=by
 unfold Region.binds at h⊢
 cases a:e.ground<;>rw[a] at h<;>first | rfl | (exact absurd h (by simp<;>rfl)) | (simp at h;cases h)
theorem Q70 {m:Region.Mode} {ops:List Oper} {L:List Nat} (h:G3 m ops L=true) (k:Nat) (b:k<ops.length): ∀e∈(ops[k]?.map fun o=>o.after.toList).getD [],Region.binds m e=true→e.on<ops.length:=by
 intro e a c
 simp only[G3,Bool.and_eq_true,List.all_eq_true] at h
 rw[List.getElem?_eq_getElem b] at a
 have:=h.2 ops[k] (List.getElem_mem b) e (by simpa using a)
 rw[c] at this
 simpa using this
theorem Q3R {m:Region.Mode} {ops:List Oper} {L:List Nat} (h:G3 m ops L=true): ∀k,k<ops.length→k∈L:=by
 intro k a
 simp only[G3,Bool.and_eq_true,List.all_eq_true] at h
 simpa using h.1.2 k (by simpa using a)
theorem Q6g (m:Region.Mode) (ops:Array Oper) (Q:Zx ops.toList=true) (L0:List Nat) (R:G3 m ops.toList L0=true): ∀(fuel t:Nat) (listed:Array Bool) (a:List Nat),
 fuel+a.length=ops.size→listed.size=ops.size→(∀i,i<ops.size→(listed.getD i true=true↔i∈a))→a.Nodup→(∀i∈a,i<ops.size)→Es ops.toList a.reverse→
 (Region.linearise.go m ops fuel t listed a).Nodup∧(Region.linearise.go m ops fuel t listed a).length=ops.size∧Es ops.toList (Region.linearise.go m ops fuel t listed a)
 | 0,t,listed,a,hf,_,_,hn,_,hr=>by
  simp only[Region.linearise.go]
  exact ⟨List.pairwise_reverse.2 (hn.imp fun h=>Ne.symm h),by simp;omega,hr⟩
 | fuel+1,t,listed,a,hf,H,A,hn,v,hr=>by
  -- one that isn't listed may come
  have V: ∃k,k<ops.size∧k∉a:=by
   refine Classical.byContradiction fun W=>?_
   have M: ∀k,k<ops.size→k∈a:=fun k hk=>Classical.byContradiction fun h=>W ⟨k,hk,h⟩
   have:=Ul ops.size a M
   omega
  simp only[Region.linearise.go]
  split
  ·rename_i i hi
   have l:=List.mem_of_getElem? hi
   simp only[List.mem_filter,List.mem_range,Bool.and_eq_true,Bool.not_eq_true'] at l
   obtain ⟨d,D,r⟩:=l
   have w:i∉a:=fun h=>by rw[(A i d).2 h] at D;cases D
   refine Q6g m ops Q L0 R fuel _ _ _ (by simp;omega) (by simp[H]) ?_ (List.nodup_cons.2 ⟨w,hn⟩) ?_ ?_
   ·intro j hj
    by_cases p:i=j
    ·subst p;simp[Array.getD,H,d]
    ·have:(listed.setIfInBounds i true).getD j true=listed.getD j true:=by
      simp only[Array.getD_eq_getD_getElem?]
      rw[Array.getElem?_setIfInBounds_ne p]
     rw[this,A j hj]
     simp[Ne.symm p]
   ·intro j hj
    rcases List.mem_cons.1 hj with rfl | hj
    ·exact d
    ·exact v j hj
   ·rw[List.reverse_cons]
    intro Z j B hL k hk
    rcases List.eq_nil_or_concat B with rfl | ⟨q,x,rfl⟩
    ·have hh:=List.append_inj' hL rfl
     obtain ⟨h1,h2⟩:=hh
     simp only[List.cons.injEq,and_true] at h2
     subst h2;subst h1
     have af:=hk
     unfold G7 at hk
     rw[show ops.toList[i]? =some ops[i] by simp[d]] at hk
     simp only[Option.map_some,Option.getD_some,List.mem_map,List.mem_filter] at hk
     obtain ⟨e,⟨g,aa⟩,rfl⟩:=hk
     rw[show ops[i]? =some ops[i] by simp[d]] at r
     simp only[Option.map_some,Option.getD_some,Array.all_eq_true'] at r
     have h4:=r e (by simpa using g)
     simp only[Bool.or_eq_true,Bool.not_eq_true'] at h4
     rcases h4 with h4 | h4
     ·rw[Q7M aa] at h4;cases h4
     ·have ao:=Bi Q i (by simpa using d) e.on af
      have:listed.getD e.on true=true:=by
       simp only[Array.getD_eq_getD_getElem?] at h4⊢
       rw[Array.getElem?_eq_getElem (by omega)] at h4⊢
       simpa using h4
      simpa using (A e.on (by omega)).1 this
    ·rw[List.concat_eq_append,←List.cons_append,←List.append_assoc] at hL
     have hh:=List.append_inj' hL rfl
     exact hr Z j q hh.1 k hk
  ·rename_i n
   exfalso
   obtain ⟨k0,E,J⟩:=V
   have y:=R
   simp only[G3,Bool.and_eq_true] at y
   -- every number of L0 that is none of an operation's has no edges: it may stand there, but isn't looked at
   have f: ∃k,k<ops.size∧k∉a∧ ∀e∈(ops.toList[k]?.map fun o=>o.after.toList).getD [],Region.binds m e=true→e.on∈a∨ops.size≤e.on:=by
    -- the first of L0 that is an operation's number and isn't listed
    have key: ∀(L b:List Nat),Q3F m ops.toList L b=true→(∀k∈b,k∈a∨ops.size≤k)→(∃k∈L,k<ops.size∧k∉a)→
     ∃k,k<ops.size∧k∉a∧ ∀e∈(ops.toList[k]?.map fun o=>o.after.toList).getD [],Region.binds m e=true→e.on∈a∨ops.size≤e.on:=by
     intro L
     induction L with
     | nil=>rintro b _ _ ⟨k,hk,_⟩;simp at hk
     | cons j L ih=>
      rintro b h hs ⟨k,hk,Y,u⟩
      simp only[Q3F,Bool.and_eq_true,List.all_eq_true] at h
      by_cases hj:j∈a∨ops.size≤j
      ·refine ih (j::b) h.2 (fun x hx=>by rcases List.mem_cons.1 hx with rfl | hx;exact hj;exact hs x hx) ⟨k,?_,Y,u⟩
       rcases List.mem_cons.1 hk with rfl | hk
       ·rcases hj with hj | hj
        ·exact absurd hj u
        ·omega
       ·exact hk
      ·have U:j<ops.size:=by
        refine Nat.lt_of_not_le fun h=>hj (.inr h)
       refine ⟨j,U,fun h=>hj (.inl h),fun e Q O=>?_⟩
       have:=h.1 e Q
       rw[O] at this
       exact hs _ (by simpa using this)
    exact key L0 [] y.1.1 (by simp) ⟨k0,Q3R R k0 (by simpa using E),E,J⟩
   obtain ⟨k,c,X,s⟩:=f
   by_cases z:k∈(List.range ops.size).filter fun i=> !listed.getD i true&&((ops[i]?).map (·.after.all fun e=> !Region.binds m e||listed.getD e.on false)).getD false
   ·have C:=List.length_pos_of_mem z
    have:=List.getElem?_eq_none_iff.1 n
    have:=Nat.mod_lt t C
    omega
   ·refine z ?_
    simp only[List.mem_filter,List.mem_range,Bool.and_eq_true,Bool.not_eq_true']
    refine ⟨c,?_,?_⟩
    ·cases hc:listed.getD k true with
     | false=>rfl
     | true=>exact absurd ((A k c).1 hc) X
    ·rw[show ops[k]? =some ops[k] by simp[c]]
     simp only[Option.map_some,Option.getD_some,Array.all_eq_true']
     intro e g
     simp only[Bool.or_eq_true,Bool.not_eq_true']
     cases O:Region.binds m e with
     | false=>exact .inl rfl
     | true=>
      right
      rw[show ops.toList[k]? =some ops[k] by simp[c]] at s
      rcases s e (by simpa using g) O with h | h
      ·have N:=v _ h
       have:=(A e.on N).2 h
       simp only[Array.getD_eq_getD_getElem?] at this⊢
       rw[Array.getElem?_eq_getElem (by omega)] at this⊢
       simpa using this
      ·exact absurd h (by
        have:=Q70 R k (by simpa using c) e (by rw[show ops.toList[k]? =some ops[k] by simp[c]];simpa using g) O
        simp at this;omega)
theorem Q3m (b:Bool) (ops:Array Oper) (t:Nat) (c:Zx ops.toList=true) (f: ∀m,∃L,G3 m ops.toList L=true):
 (Region.schedule b ops t).Nodup∧(Region.schedule b ops t).length=ops.size∧Es ops.toList (Region.schedule b ops t):=by
 have key: ∀m t,(Region.linearise m ops t).Nodup∧(Region.linearise m ops t).length=ops.size∧Es ops.toList (Region.linearise m ops t):=by
  intro m t
  obtain ⟨L,d⟩:=f m
  refine Q6g m ops c L d _ _ _ _ (by simp) (by simp) ?_ List.nodup_nil (by simp) ?_
  ·intro i g;simp[Array.getD,g]
  ·intro e j a h;simp at h
 unfold Region.schedule
 split<;>exact key _ _
theorem Qx: ∀(ops:List Oper),Ql (O4 ops)=true→ ∀(i j:Nat) (a b:Oper) (d:Nat),ops[i]? =some a→ops[j]? =some b→a.dst=some d→b.dst=some d→i=j
 | [],_,i,j,a,b,d,h,_,_,_=>by simp at h
 | o::c,l,i,j,a,b,d,m,n,p,r=>by
  have f: ∀(k:Nat) (q:Oper),c[k]? =some q→q.dst=some d→d∈O4 c:=by
   intro k q s u
   simp only[O4,List.mem_filterMap]
   exact ⟨q,List.mem_of_getElem? s,u⟩
  have g:Ql (O4 c)=true:=by
   simp only[O4,List.filterMap_cons] at l
   split at l
   ·exact l
   ·simp only[Ql,Bool.and_eq_true] at l;exact l.2
  have e:o.dst=some d→d∉O4 c:=by
   intro v
   simp only[O4,List.filterMap_cons,v,Ql,Bool.and_eq_true,Bool.not_eq_true'] at l
   intro t
   have:=l.1
   simp only[List.contains_eq_mem,decide_eq_false_iff_not] at this
   exact this t
  cases i with
  | zero=>
   simp only[List.getElem?_cons_zero,Option.some.injEq] at m
   subst m
   cases j with
   | zero=>rfl
   | succ j=>exact absurd (f j b (by simpa using n) r) (e p)
  | succ i=>
   cases j with
   | zero=>
    simp only[List.getElem?_cons_zero,Option.some.injEq] at n
    subst n
    exact absurd (f i a (by simpa using m) p) (e r)
   | succ j=>rw[Qx c g i j a b d (by simpa using m) (by simpa using n) p r]
theorem Gl (u:Nat→Value): ∀(S:List Ent) (s:Nat),get (F9 u S) s=(getE S s).at u
 | [],s=>by simp[F9,get,getE,Ent.at]
 | e::S,0=>rfl
 | e::S,s+1=>Gl u S s
theorem Cy: ∀(S:List Ent) (s:Nat),getE S s=(S[s]?).getD (.val undef)
 | [],s=>by simp[getE]
 | e::S,0=>rfl
 | e::S,s+1=>by simp only[getE,List.getElem?_cons_succ];exact Cy S s
theorem Aw: ∀(S:List Ent) (n:Nat) (e:Ent),Q0P S n e=S.set n e
 | [],n,e=>by simp[Q0P]
 | x::S,0,e=>rfl
 | x::S,n+1,e=>by simp only[Q0P,List.set_cons_succ,Aw S n e]
theorem Q2K {x:Nat}: ∀{l:List Nat},x∈l→x∈Q0c l
 | y::l,h=>by
  simp only[Q0c,List.mem_cons,List.mem_filter]
  by_cases e:x=y
  ·exact .inl e
  ·exact .inr ⟨Q2K ((List.mem_cons.1 h).resolve_left e),by simpa using e⟩
theorem Hz {x:Nat}: ∀{l:List Nat},x∈Q0c l→x∈l
 | y::l,h=>by
  simp only[Q0c,List.mem_cons,List.mem_filter] at h⊢
  exact h.imp id fun h=>Hz h.1
theorem Q32 {S:List Ent} {j:Nat}: ∀{l:List Nat} {s:Nat},s∈l→getE S s= .ref j→j∈Q0a S l
 | x::l,s,h,e=>by
  simp only[Q0a,List.mem_append]
  rcases List.mem_cons.1 h with rfl | h
  ·left;rw[e];simp[Q3G]
  ·right;exact Q32 h e
theorem Rd {S:List Ent} {j:Nat}: ∀{l:List Nat},j∈Q0a S l→ ∃s∈l,getE S s= .ref j
 | x::l,h=>by
  simp only[Q0a,List.mem_append] at h
  rcases h with h | h
  ·refine ⟨x,by simp,?_⟩
   cases a:getE S x with
   | val v=>rw[a] at h;simp[Q3G] at h
   | ref k=>rw[a] at h;simp[Q3G] at h;rw[h]
  ·obtain ⟨s,b,e⟩:=Rd h
   exact ⟨s,by simp[b],e⟩
theorem Q11: ∀(a:List Nat) (c u:Nat→Value) (k:(Nat→Value)→Prop),Ev a c k→ ∃b,k b∧ ∀x,(x∈a→b x=u x)∧(x∉a→b x=c x)
 | [],c,u,k,h=>⟨c,h,fun x=>⟨fun h=>by simp at h,fun _=>rfl⟩⟩
 | j::a,c,u,k,h=>by
  obtain ⟨b,g,f⟩:=Q11 a _ u k (h (u j))
  refine ⟨b,g,fun x=>⟨fun hx=>?_,fun hx=>?_⟩⟩
  ·by_cases d:x∈a
   ·exact (f x).1 d
   ·rw[(f x).2 d]
    rcases List.mem_cons.1 hx with rfl | hx
    ·simp
    ·exact absurd hx d
  ·rw[(f x).2 (fun h=>hx (List.mem_cons_of_mem _ h))]
   have:x≠j:=fun e=>hx (by simp[e])
   simp[this]
theorem Q17 {f:Ex} {u:Nat→Value} {e:Nat→Iv} {w:World} {a:Prop}: ∀{c:List Nat},Ez f u e w a c→(∀j∈c,∀φ,Zy f j=some ([],φ)→φ [] (e j) (u j) w)→a
 | [],h,_=>h
 | j::c,h,b=>by
  simp only[Ez] at h
  split at h
  ·rename_i φ g
   exact Q17 (h (b j (by simp) φ g)) fun k d=>b k (by simp[d])
  ·exact Q17 h fun k d=>b k (by simp[d])
theorem Kw {f:Ex} {u:Nat→Value} {e:Nat→Iv} {w:World} {a:Prop}: ∀{c:List Nat},Ax f u e w a c→(∀j∈c,∀R φ,Zy f j=some (R,φ)→φ (R.map u) (e j) (u j) w)→a
 | [],h,_=>h
 | j::c,h,b=>by
  simp only[Ax] at h
  split at h
  ·rename_i R φ g
   exact Kw (h (b j (by simp) R φ g)) fun k d=>b k (by simp[d])
  ·exact Kw h fun k d=>b k (by simp[d])
theorem Gr {a:Ex} {i j:Nat} {φ:List Nat×(List Value→Iv→Value→World→Prop)} (h:i≠j):Zy (a++[(i,φ)]) j=Zy a j:=by
 induction a with
 | nil=>simp[Zy,h]
 | cons p a b=>obtain ⟨k,ψ⟩:=p;simp only[List.cons_append,Zy,b]
theorem Wy {a:Ex} {i:Nat} {φ:List Nat×(List Value→Iv→Value→World→Prop)} (h:Zy a i=none):Zy (a++[(i,φ)]) i=some φ:=by
 induction a with
 | nil=>simp[Zy]
 | cons p a b=>
  obtain ⟨k,ψ⟩:=p
  simp only[Zy] at h
  split at h
  ·cases h
  ·rename_i c;simp only[List.cons_append,Zy,c,if_false];exact b h
def Du (S:List Ent) (i:Nat) (o:Oper):Ent:=match mv o with | some x=>entOf S x | none=> .ref i
def W9 (S:List Ent):Nat→List Oper→List Ent
 | _,[]=>S
 | i,o::a=>W9 (putE S o.dst (Du S i o)) (i+1) a
theorem Q2G: ∀(a:List Oper) (S:List Ent) (i k:Nat) (o:Oper),a[k]? =some o→
 W9 S i (a.take (k+1))=putE (W9 S i (a.take k)) o.dst (Du (W9 S i (a.take k)) (i+k) o)
 | [],_,_,_,_,h=>by simp at h
 | x::a,S,i,0,o,h=>by
  simp only[List.getElem?_cons_zero,Option.some.injEq] at h
  subst h
  simp[W9]
 | x::a,S,i,k+1,o,h=>by
  simp only[List.getElem?_cons_succ] at h
  have:=Q2G a (putE S x.dst (Du S i x)) (i+1) k o h
  simp only[List.take_succ_cons,W9]
  rw[this,show i+1+k=i+(k+1) from by omega]
def Xn (S:List Ent) (D:List Nat):Prop:= ∀e∈S,∀j,e= .ref j→j∈D
theorem Xn.getE {S:List Ent} {D:List Nat} (h:Xn S D) {s j:Nat} (e:Go.Emb.getE S s= .ref j):j∈D:=by
 rw[Cy] at e
 cases a:S[s]? with
 | none=>rw[a] at e;cases e
 | some x=>rw[a] at e;exact h x (List.mem_of_getElem? a) j e
theorem Xn.putE {S:List Ent} {D:List Nat} (h:Xn S D) (d:Option Nat) {e:Ent} (c: ∀j,e= .ref j→j∈D):Xn (Go.Emb.putE S d e) D:=by
 cases d with
 | none=>exact h
 | some d=>
  intro x a j b
  simp only[Go.Emb.putE,Aw] at a
  rcases List.mem_or_eq_of_mem_set a with a | rfl
  ·exact h x a j b
  ·exact c j b
theorem Xn.mono {S:List Ent} {D a:List Nat} (h:Xn S D) (c: ∀j∈D,j∈a):Xn S a:=fun e b j d=>c j (h e b j d)
theorem Xn.entOf {S:List Ent} {D:List Nat} (h:Xn S D) (x:Operand) {j:Nat} (e:Go.Emb.entOf S x= .ref j):j∈D:=by
 cases x with
 | tmp t=>exact h.getE e
 | _=>cases e
theorem Q6C {S:List Ent} {D:List Nat} (h:Xn S D) {u a:Nat→Value} (c: ∀j∈D,a j=u j):F9 a S=F9 u S:=by
 unfold F9
 refine List.map_congr_left fun e b=>?_
 cases e with
 | val v=>rfl
 | ref j=>exact c j (h _ b j rfl)
theorem Q0s {P:Program} {ops:List Oper} {l l':List Value} {o:Oper} (c:T8 o.op=true) (h: ∀s∈N6 ops o++E2 o,get l s=get l' s):runOp P ops l o=runOp P ops l' o:=by
 funext w K
 unfold runOp
 rw[Nj c fun x f=>by
  cases x with
  | tmp s=>exact h s (List.mem_append_right _ (by simp only[E2,List.mem_filterMap];exact ⟨.tmp s,by simpa using f,rfl⟩))
  | _=>rfl]
 cases a:o.guard with
 | none=>rfl
 | some q=>
  obtain ⟨j,b⟩:=q
  simp only
  cases e:(ops[j]?).bind (·.dst) with
  | none=>rfl
  | some d=>simp only;rw[h d (List.mem_append_left _ (by simp[N6,a,e]))]
theorem Q1I {P:Program} {ops:List Oper} {l:List Value} {o:Oper} {w:World} {K d:Value→World→Prop} (b: ∀v w,K v w→d v w) (h:runOp P ops l o w K):runOp P ops l o w d:=by
 unfold runOp at*
 split at h
 ·exact B2 b h
 ·split at h
  ·exact Ty ((Uv h).imp (fun ⟨a,c⟩=>⟨a,B2 b c⟩) (fun ⟨a,c⟩=>⟨a,b _ _ c⟩))
  ·exact h.elim
theorem Q1H {P:Program} {ops:List Oper} {J4:List Value→World→Prop} {o:Oper} {a:List Oper} {l:List Value} {w:World}
 (h:runOp P ops l o w (fun v w=>Y3 P ops J4 a (put l o.dst v) w)):Y3 P ops J4 (o::a) l w:=by
 simp only[Y3]
 unfold runOp at h
 cases e:o.guard with
 | none=>simp only[e] at h⊢;exact h
 | some q=>
  obtain ⟨j,b⟩:=q
  simp only[e] at h⊢
  split at h
  ·rename_i d c
   first | exact h | (simp only[c];exact h) | (rw[c];exact h)
  ·exact h.elim
structure Whole (P : Program) (r : Bool) (ops : List Oper) (T : World → World → Prop) (B : World → Prop) (J4 : List Value → World → Prop) (tail : List Oper) (Φ : Nat → (Nat → Value) → Iv → World → Prop) (S : List Ent) (i : Nat) (rest : List Oper) (D : List Nat) : Prop where
  stable : ∀ k o, rest[k]? = some o → mv o = none → ∀ u p w w', Φ (i + k) u p w → T w w' → Φ (i + k) u p w'
  loc : ∀ k o, rest[k]? = some o → mv o = none → ∀ u u', (∀ r ∈ (i + k) :: refs ops (W9 S i (rest.take k)) o, u r = u' r) → Φ (i + k) u = Φ (i + k) u'
  run : ∀ k o, rest[k]? = some o → mv o = none → T8 o.op = true → ∀ u iv w, OkI r iv → B w → (∀ j ∈ refs ops (W9 S i (rest.take k)) o, Φ j u (iv j) w) →
    runOp P ops (F9 u (W9 S i (rest.take k))) o w (fun v w' => T w w' ∧ ∀ u', (∀ r ∈ refs ops (W9 S i (rest.take k)) o, u' r = u r) → u' (i + k) = v → Φ (i + k) u' (Mt r w, Mt r w') w')
  last : ∀ u iv w, OkI r iv → B w → (∀ j ∈ D, Φ j u (iv j) w) → (∀ k o, rest[k]? = some o → mv o = none → Φ (i + k) u (iv (i + k)) w) → Y3 P ops J4 tail (F9 u (W9 S i rest)) w
theorem Pg (P:Program) (r:Bool) (ops:List Oper) (T:World→World→Prop) (B:World→Prop) (J4:List Value→World→Prop) (tail:List Oper): ∀(d:List Oper) (i:Nat) (S:List Ent) (m:Ex) (done:List Nat),
 Xn S done→(∀j,j∈done→j<i∧ ∃φ,Zy m j=some φ)→(∀j φ,Zy m j=some φ→j<i∧ ∀r∈φ.1,r∈done)→chain P r ops T B J4 tail i d S m done→
 ∃Φ:Nat→(Nat→Value)→Iv→World→Prop,(∀j R φ,Zy m j=some (R,φ)→Φ j=fun u p w=>φ (R.map u) p (u j) w)∧Whole P r ops T B J4 tail Φ S i d done
 | [],i,S,m,done,O,Y,L,h=>by
  refine ⟨fun j u p w=>match Zy m j with | some (R,φ)=>φ (R.map u) p (u j) w | none=>True,fun j R φ hj=>by simp[hj],⟨by simp,by simp,by simp,?_⟩⟩
  intro u y w A hB M _
  obtain ⟨C,n,g⟩:=Q11 done _ u _ h
  have q:=Kw (Q55 n A w hB) fun j hj R φ V=>by
   have:=M j hj
   simp only[V] at this
   rw[(g j).1 hj,show R.map C=R.map u from List.map_congr_left fun r f=>(g r).1 ((L j _ V).2 r f)];exact this
  rw[Q6C O fun j hj=>(g j).1 hj,Db] at q
  exact q
 | o::d,i,S,m,done,O,Y,L,h=>by
  simp only[chain] at h
  cases z:mv o with
  | some x=>
   simp only[z] at h
   have c:Du S i o=entOf S x:=by simp[Du,z]
   obtain ⟨Φ,n,g⟩:=Pg P r ops T B J4 tail d (i+1) _ m done (O.putE _ fun j hj=>O.entOf x hj) (fun j hj=>⟨by have:=(Y j hj).1;omega,(Y j hj).2⟩) (fun j φ hj=>⟨by have:=(L j φ hj).1;omega,(L j φ hj).2⟩) h
   refine ⟨Φ,n,⟨?_,?_,?_,?_⟩⟩
   ·intro k l b a
    cases k with
    | zero=>simp only[List.getElem?_cons_zero,Option.some.injEq] at b;subst b;rw[z] at a;cases a
    | succ k=>have:=g.stable k l (by simpa using b) a;rwa [show i+1+k=i+(k+1) from by omega] at this
   ·intro k l b a u C N
    cases k with
    | zero=>simp only[List.getElem?_cons_zero,Option.some.injEq] at b;subst b;rw[z] at a;cases a
    | succ k=>
     simp only[List.take_succ_cons,W9,c] at N
     have:=g.loc k l (by simpa using b) a u C (by rwa [show i+1+k=i+(k+1) from by omega])
     rwa [show i+1+k=i+(k+1) from by omega] at this
   ·intro k l b a D u y w A hB f
    cases k with
    | zero=>simp only[List.getElem?_cons_zero,Option.some.injEq] at b;subst b;rw[z] at a;cases a
    | succ k=>
     simp only[List.take_succ_cons,W9,c] at f⊢
     have:=g.run k l (by simpa using b) a D u y w A hB f
     rwa [show i+1+k=i+(k+1) from by omega] at this
   ·intro u y w A hB M X
    simp only[W9,c]
    refine g.last u y w A hB M fun k l b a=>?_
    have:=X (k+1) l (by simpa using b) a
    rwa [show i+(k+1)=i+1+k from by omega] at this
  | none=>
   have h': ∃(R:List Nat) (φ:List Value→Iv→Value→World→Prop),(∀r∈R,r∈refs ops S o)∧(∀xs p,K1 T (φ xs p))∧
    (Ev (refs ops S o) (fun _=>undef) fun u=>Rt r fun y=> ∀w,B w→Ez m u y w (runOp P ops (F9 u S) o w (fun v w'=>T w w'∧φ (R.map u) (Mt r w,Mt r w') v w')) (refs ops S o))∧
    chain P r ops T B J4 tail (i+1) d (putE S o.dst (.ref i)) (m++[(i,R,φ)]) (done++[i]):=by
    cases Q:Q48 o with
    | true=>
     simp only[z,Q,Q62,Q2o] at h
     obtain ⟨φ,n,g,q⟩:=h
     exact ⟨_,fun xs _=>φ xs,fun _ h=>h,fun xs _=>n xs,g,q⟩
    | false=>
     cases hn:Q6H r o with
     | true=>
      simp only[z,Q,hn,Q6n,Q2m] at h
      obtain ⟨φ,n,g,q⟩:=h
      cases r with
      | false=>cases hn
      | true=>exact ⟨[],fun _=>φ,by simp,fun _=>n,g,q⟩
     | false=>
      simp only[z,Q,hn,Q7y,Q4F] at h
      obtain ⟨φ,n,g,q⟩:=h
      exact ⟨[],fun _ _=>φ,by simp,fun _ _=>n,g,q⟩
   clear h
   obtain ⟨R,φ,Z,aa,U,h⟩:=h'
   have ad: ∀r∈refs ops S o,r∈done:=fun r f=>by
    obtain ⟨s,_,he⟩:=Rd (Hz f)
    exact O.entOf (.tmp s) he
   have c:Du S i o= .ref i:=by simp[Du,z]
   have t:Zy m i=none:=by
    cases M:Zy m i with
    | none=>rfl
    | some ψ=>have:=(L i ψ M).1;omega
   obtain ⟨Φ,n,g⟩:=Pg P r ops T B J4 tail d (i+1) _ (m++[(i,R,φ)]) (done++[i])
    ((O.mono fun j hj=>List.mem_append_left _ hj).putE _ fun j hj=>by cases hj;simp)
    (fun j hj=>by
     rcases List.mem_append.1 hj with hj | hj
     ·obtain ⟨q,ψ,H⟩:=Y j hj
      exact ⟨by omega,ψ,by rw[Gr (by omega)];exact H⟩
     ·simp at hj;subst hj;exact ⟨by omega,(R,φ),Wy t⟩)
    (fun j ψ hj=>by
     by_cases e:i=j
     ·subst e
      rw[Wy t] at hj;cases hj
      exact ⟨by omega,fun r f=>List.mem_append_left _ (ad r (Z r f))⟩
     ·rw[Gr e] at hj
      obtain ⟨q,H⟩:=L j ψ hj
      exact ⟨by omega,fun r f=>List.mem_append_left _ (H r f)⟩) h
   have J:Φ i=fun u p w=>φ (R.map u) p (u i) w:=n i R φ (Wy t)
   have E: ∀j W ψ,Zy m j=some (W,ψ)→Φ j=fun u p w=>ψ (W.map u) p (u j) w:=fun j W ψ hj=>n j W ψ (by rw[Gr (by have:=(L j _ hj).1;omega)];exact hj)
   refine ⟨Φ,E,⟨?_,?_,?_,?_⟩⟩
   ·intro k l b a
    cases k with
    | zero=>
     intro u p w w' ha hT
     rw[Nat.add_zero,J] at ha⊢
     exact aa _ _ _ _ _ ha hT
    | succ k=>have:=g.stable k l (by simpa using b) a;rwa [show i+1+k=i+(k+1) from by omega] at this
   ·intro k l b a u C N
    cases k with
    | zero=>
     simp only[List.getElem?_cons_zero,Option.some.injEq] at b
     subst b
     simp only[List.take_zero,W9,Nat.add_zero] at N
     rw[Nat.add_zero,J]
     funext p w
     show φ (R.map u) p (u i) w=φ (R.map C) p (C i) w
     rw[show R.map u=R.map C from List.map_congr_left fun r f=>N r (List.mem_cons_of_mem _ (Z r f)),N i (by simp)]
    | succ k=>
     simp only[List.take_succ_cons,W9,c] at N
     have:=g.loc k l (by simpa using b) a u C (by rwa [show i+1+k=i+(k+1) from by omega])
     rwa [show i+1+k=i+(k+1) from by omega] at this
   ·intro k l b a D u y w A hB f
    cases k with
    | zero=>
     simp only[List.getElem?_cons_zero,Option.some.injEq] at b
     subst b
     simp only[List.take_zero,W9,Nat.add_zero] at f⊢
     obtain ⟨C,q,H⟩:=Q11 _ _ u _ U
     have h5:=Q17 (Q55 q A w hB) fun j hj ψ hψ=>by
      have h6:=f j hj
      rw[E j [] ψ hψ] at h6
      rw[(H j).1 hj];exact h6
     rw[Q0s D (l':=F9 u S)] at h5
     ·refine Q1I ?_ h5
      rintro v w' ⟨hT,hf⟩
      refine ⟨hT,fun u2 ac hi=>?_⟩
      rw[J]
      show φ (R.map u2) (Mt r w,Mt r w') (u2 i) w'
      rw[hi,show R.map u2=R.map C from List.map_congr_left fun r f=>by rw[ac r (Z r f),(H r).1 (Z r f)]]
      exact hf
     ·intro s Q
      rw[Gl,Gl]
      cases he:getE S s with
      | val v=>rfl
      | ref j=>exact (H j).1 (Q2K (Q32 Q he))
    | succ k=>
     simp only[List.take_succ_cons,W9,c] at f⊢
     have:=g.run k l (by simpa using b) a D u y w A hB f
     rwa [show i+1+k=i+(k+1) from by omega] at this
   ·intro u y w A hB M X
    simp only[W9,c]
    refine g.last u y w A hB (fun j hj=>?_) fun k l b a=>?_
    ·rcases List.mem_append.1 hj with hj | hj
     ·exact M j hj
     ·simp at hj;subst hj
      have:=X 0 o (by simp) z
      simpa using this
    ·have:=X (k+1) l (by simpa using b) a
     rwa [show i+(k+1)=i+1+k from by omega] at this
def K3 (os:List Oper) (S0:List Ent) (q:Nat):Ent:=
 match os[q]? with
 | some o=>Du (W9 S0 0 (os.take q)) q o
 | none=> .val undef
theorem Q64 {os:List Oper} {S0:List Ent} {q:Nat} {o:Oper} (h:os[q]? =some o):W9 S0 0 (os.take (q+1))=putE (W9 S0 0 (os.take q)) o.dst (K3 os S0 q):=by
 rw[Q2G os S0 0 q o h]
 simp[K3,h]
theorem Q5p (S:List Ent) (d:Option Nat) (e:Ent):(putE S d e).length=S.length:=by
 cases d with
 | none=>rfl
 | some d=>simp[putE,Aw]
theorem Fw (os:List Oper) (S0:List Ent): ∀q,q≤os.length→(W9 S0 0 (os.take q)).length=S0.length
 | 0,_=>by simp[W9]
 | q+1,h=>by rw[Q64 (List.getElem?_eq_getElem (by omega)),Q5p,Fw os S0 q (by omega)]
theorem Dp {os:List Oper} {S0:List Ent} (u:Ql (O4 os)=true) (t: ∀d∈O4 os,d<S0.length): ∀q,q≤os.length→
 (∀p,p<q→ ∀o d,os[p]? =some o→o.dst=some d→(W9 S0 0 (os.take q))[d]? =some (K3 os S0 p))∧
  (∀s,(∀p,p<q→ ∀o,os[p]? =some o→o.dst≠some s)→(W9 S0 0 (os.take q))[s]? =S0[s]?)
 | 0,_=>⟨fun p j=>absurd j (by omega),fun s _=>by simp[W9]⟩
 | q+1,h=>by
  obtain ⟨r,n⟩:=Dp u t q (by omega)
  have k:os[q]? =some os[q]:=List.getElem?_eq_getElem (by omega)
  have i:=Fw os S0 q (by omega)
  rw[Q64 k]
  cases c:os[q].dst with
  | none=>
   refine ⟨fun p j o d a b=>?_,fun s l=>n s fun p j=>l p (by omega)⟩
   by_cases e:p=q
   ·subst e;rw[k] at a;cases a;rw[c] at b;cases b
   ·exact r p (by omega) o d a b
  | some g=>
   have m:g<S0.length:=t g (by simp only[O4,List.mem_filterMap];exact ⟨os[q],List.getElem_mem _,c⟩)
   simp only[putE,Aw]
   refine ⟨fun p j o d a b=>?_,fun s l=>?_⟩
   ·by_cases e:p=q
    ·subst e;rw[k] at a;cases a;rw[c] at b;cases b
     rw[List.getElem?_set_self (by rw[i];exact m)]
    ·have f:g≠d:=by
      rintro rfl
      exact e (Qx os u p q o os[q] g a k b c)
     rw[List.getElem?_set_ne f]
     exact r p (by omega) o d a b
   ·have f:g≠s:=fun e=>l q (by omega) os[q] k (by rw[c,e])
    rw[List.getElem?_set_ne f]
    exact n s fun p j=>l p (by omega)
def Lh (os:List Oper) (p:Nat):Bool:=
 match os[p]? with
 | some o=>match mv o with
  | some (.tmp s)=> !(O4 os).contains s
  | some _=>true
  | none=>false
 | none=>false
theorem X1I {P:Program} {o:Oper} {x:Operand} (h:mv o=some x) (l:List Value) (w:World) (K:Value→World→Prop):o.guard=none∧U9 P l o w K=K (ev l x) w:=by
 unfold mv at h
 split at h
 ·cases h
 ·rename_i b
  refine ⟨b,?_⟩
  split at h
  ·rename_i y a;cases h;simp only[U9,a]
  ·rename_i y a;cases h;simp only[U9,a]
  ·cases h
theorem Q5H {P:Program} {ops:List Oper} {J4:List Value→World→Prop} {o:Oper} {c a:List Oper} {l l':List Value} {w:World} (p:T8 o.op=true) (m: ∀s∈N6 ops o++E2 o,get l' s=get l s)
 (f: ∀v w,Y3 P ops J4 c (put l o.dst v) w→Y3 P ops J4 a (put l' o.dst v) w) (h:Y3 P ops J4 (o::c) l w):Y3 P ops J4 (o::a) l' w:=by
 have n:U9 P l' o=U9 P l o:=Nj p fun x r=>by
  cases x with
  | tmp s=>exact m s (List.mem_append_right _ (by simp only[E2,List.mem_filterMap];exact ⟨.tmp s,by simpa using r,rfl⟩))
  | _=>rfl
 simp only[Y3] at h⊢
 cases e:o.guard with
 | none=>simp only[e] at h⊢;rw[n];exact B2 f h
 | some q=>
  obtain ⟨j,b⟩:=q
  simp only[e] at h⊢
  cases k:(ops[j]?).bind (·.dst) with
  | none=>simp only[k] at h⊢;exact f _ _ h
  | some d=>
   simp only[k] at h⊢
   rw[m d (List.mem_append_left _ (by simp[N6,e,k])),n]
   exact Ty ((Uv h).imp (fun ⟨i,g⟩=>⟨i,B2 f g⟩) (fun ⟨i,g⟩=>⟨i,f _ _ g⟩))
structure At (os : List Oper) (l0 : List Value) (pre : List Nat) (l : List Value) (u : Nat → Value) : Prop where
  len : l.length = l0.length
  done : ∀ p ∈ pre, ∀ o d, os[p]? = some o → o.dst = some d → l[d]? = some ((K3 os (l0.map .val) p).at u)
  rest : ∀ s, (∀ p ∈ pre, ∀ o, os[p]? = some o → o.dst ≠ some s) → l[s]? = l0[s]?
  refs : ∀ p ∈ pre, ∀ r, K3 os (l0.map .val) p = .ref r → r ∈ pre ∧ ∃ o, os[r]? = some o ∧ mv o = none
theorem X2w {P:Program} {r0:Bool} {ops os:List Oper} {T:World→World→Prop} {B:World→Prop} {J4:List Value→World→Prop} {m:Nat} {C:List Value} {Φ:Nat→(Nat→Value)→Iv→World→Prop}
 (bit:Nat→Nat→Bool) (bs: ∀o∈os,T8 o.op=true) (hn:Ql (O4 os)=true) (hd: ∀d∈O4 os,d<C.length)
 (af: ∀p q a b,p<q→os[p]? =some a→os[q]? =some b→(K8 a b||K8 b a)=true→bit p q=true)
 (hg: ∀q o j b,os[q]? =some o→o.guard=some (j,b)→ ∃p,p<q∧os[p]? =ops[j]? ∧bit p q=true)
 (hm:m≤os.length) (al: ∀q,m≤q→q<os.length→ ∀p,p<q→bit p q=true∨(p<m∧Lh os p=true))
 (hT: ∀w w',B w→T w w'→B w') (hM: ∀w w',T w w'→Mt r0 w≤Mt r0 w') (hW:Whole P r0 ops T B J4 (os.drop m) Φ (C.map .val) 0 (os.take m) [])
 (L:List Nat) (H:L.Nodup) (b2:L.length=os.length) (ac: ∀q∈L,q<os.length)
 (hC: ∀c q f,L=c++q::f→ ∀p,bit p q=true→p<os.length→p∈c):
 ∀(f c:List Nat),L=c++f→(∀q∈c,q<m)→ ∀(l:List Value) (u:Nat→Value) (iv:Nat→Iv) (w:World),Rf r0 iv w→At os C c l u→B w→
  (∀r∈c,∀o,os[r]? =some o→mv o=none→Φ r u (iv r) w∧ ∀j∈refs ops (W9 (C.map .val) 0 (os.take r)) o,j∈c)→Y3 P ops J4 (f.filterMap (os[·]?)) l w:=by
 have bc: ∀d∈O4 os,d<(C.map Ent.val).length:=by simpa using hd
 have a1: ∀q,q≤m→(os.take m).take q=os.take q:=fun q hq=>by rw[List.take_take,Nat.min_eq_left hq]
 have W: ∀q,q<m→(os.take m)[q]? =os[q]? :=fun q hq=>by rw[List.getElem?_take_of_lt hq]
 -- when all of the first part is done
 have ct: ∀(c f:List Nat),L=c++f→(∀q∈c,q<m)→(∀q,q<m→q∈c)→ ∀l u iv w,Rf r0 iv w→At os C c l u→B w→
  (∀r∈c,∀o,os[r]? =some o→mv o=none→Φ r u (iv r) w∧ ∀j∈refs ops (W9 (C.map .val) 0 (os.take r)) o,j∈c)→Y3 P ops J4 (f.filterMap (os[·]?)) l w:=by
  intro c f E D ao l u iv w hI hA hB hΦ
  have cg: ∀(f c:List Nat),L=c++f→m≤c.length→(∀q,q∈c↔q<c.length)→f.filterMap (os[·]?)=os.drop c.length:=by
   intro f
   induction f with
   | nil=>
    intro c E _ _
    rw[List.append_nil] at E
    rw[←E,b2];simp
   | cons q f ih=>
    intro c E c8 a4
    have cw:q∉c:=by
     rw[E] at H
     intro h
     exact (List.nodup_append.1 H).2.2 q h q (by simp) rfl
    have cv:c.length≤q:=Nat.le_of_not_lt fun h=>cw ((a4 q).2 h)
    have X:=ac q (by rw[E];simp)
    have cy:q=c.length:=by
     refine Nat.le_antisymm (Nat.le_of_not_lt fun h=>?_) cv
     have:=hC c q f E c.length ((al q (by omega) X _ h).resolve_right (by omega)) (by omega)
     have:=(a4 _).1 this
     omega
    subst cy
    rw[List.filterMap_cons,List.getElem?_eq_getElem X]
    simp only
    rw[ih (c++[c.length]) (by rw[E];simp) (by simp;omega) (by intro x;simp only[List.mem_append,a4,List.mem_singleton,List.length_append,List.length_cons,List.length_nil];omega)]
    simp only[List.length_append,List.length_cons,List.length_nil]
    rw[←List.drop_eq_getElem_cons X]
  have bh:c.length=m:=by
   have J:=R9 m c (by rw[E] at H;exact (List.nodup_append.1 H).1) D
   have R:=Ul m c ao
   omega
  have J:=cg f c E (by omega) (fun q=>by rw[bh];exact ⟨D q,ao q⟩)
  rw[J,bh]
  have R:=hW.last u iv w hI.1 hB (by simp) fun k o hk t=>by
   have a5:k<m:=by
    have:=(List.getElem?_eq_some_iff.1 hk).1
    simp at this;omega
   rw[Nat.zero_add]
   rw[W k a5] at hk
   exact (hΦ k (ao k a5) o hk t).1
  have h3:l=F9 u (W9 (C.map .val) 0 (os.take m)):=by
   obtain ⟨g1,g2⟩:=Dp hn bc m hm
   apply List.ext_getElem?
   intro s
   rw[F9,List.getElem?_map]
   by_cases hs: ∃p,p<m∧ ∃o,os[p]? =some o∧o.dst=some s
   ·obtain ⟨p,hp,o,i,z⟩:=hs
    rw[hA.done p (ao p hp) o s i z,g1 p hp o s i z];rfl
   ·have ae: ∀p,p<m→ ∀o,os[p]? =some o→o.dst≠some s:=fun p hp o i z=>hs ⟨p,hp,o,i,z⟩
    rw[hA.rest s (fun p hp=>ae p (D p hp)),g2 s ae,List.getElem?_map]
    cases C[s]? <;>rfl
  rw[h3];exact R
 -- moves that come late, among the tail
 have ce: ∀(f c:List Nat) (k:Nat),L=c++f→m≤k→k≤os.length→(∀q,m≤q→(q∈c↔q<k))→(∀p∈f,p<m→Lh os p=true)→
  ∀(l lf:List Value) (w:World),l.length=C.length→lf.length=C.length→(∀s,(∀p∈f,p<m→ ∀o,os[p]? =some o→o.dst≠some s)→l[s]? =lf[s]?)→
   (∀p∈f,p<m→ ∀o d x,os[p]? =some o→mv o=some x→o.dst=some d→lf[d]? =some (ev C x))→(∀s,(O4 os).contains s=false→l[s]? =C[s]?)→
   Y3 P ops J4 (os.drop k) lf w→Y3 P ops J4 (f.filterMap (os[·]?)) l w:=by
  intro f
  induction f with
  | nil=>
   intro c k E a9 bw ab _ l lf w hl a8 av _ _ h
   rw[List.append_nil] at E
   have hk:k=os.length:=by
    refine Nat.le_antisymm bw (Nat.le_of_not_lt fun D=>?_)
    have cu:k∉c:=fun e=>by have:=(ab k a9).1 e;omega
    have J:=R9 os.length (k::c) (List.nodup_cons.2 ⟨cu,E▸H⟩) (fun x hx=>by
     rcases List.mem_cons.1 hx with rfl | hx
     ·exact D
     ·exact ac x (by rw[E];exact hx))
    simp at J
    rw[E] at b2;omega
   have:l=lf:=List.ext_getElem? fun s=>av s (by simp)
   rw[this]
   rw[hk,List.drop_length] at h
   exact h
  | cons q f ih=>
   intro c k E a9 bw ab am l lf w hl a8 av ay aa h
   have O:q∉c:=by
    rw[E] at H
    intro h
    exact (List.nodup_append.1 H).2.2 q h q (by simp) rfl
   have cm:q∉f:=by
    rw[E] at H
    exact (List.nodup_cons.1 (List.nodup_append.1 H).2.1).1
   have X:=ac q (by rw[E];simp)
   have A:os[q]? =some os[q]:=List.getElem?_eq_getElem X
   have cf:L=(c++[q])++f:=by rw[E];simp
   rw[List.filterMap_cons,A]
   simp only
   by_cases Y:q<m
   ·-- a late move
    have D:=am q (by simp) Y
    unfold Lh at D
    rw[A] at D
    simp only at D
    cases t:mv os[q] with
    | none=>rw[t] at D;cases D
    | some x=>
     rw[t] at D
     have hx:ev l x=ev C x:=by
      cases x with
      | tmp s=>
       simp only[Bool.not_eq_true'] at D
       simp only[ev,get,List.getD_eq_getElem?_getD,aa s D]
      | _=>rfl
     obtain ⟨ba,ax⟩:=X1I (P:=P) t l w (fun v w=>Y3 P ops J4 (f.filterMap (os[·]?)) (put l os[q].dst v) w)
     simp only[Y3,ba]
     rw[ax,hx]
     refine ih (c++[q]) k cf a9 bw (fun q' a3=>?_) (fun p hp=>am p (by simp[hp])) _ lf w ?_ a8 (fun s hs=>?_) (fun p hp=>ay p (by simp[hp])) (fun s hs=>?_) h
     ·rw[←ab q' a3];simp only[List.mem_append,List.mem_singleton]
      exact ⟨fun e=>e.resolve_right (by omega), .inl⟩
     ·cases g:os[q].dst<;>simp[put,hl]
     ·cases g:os[q].dst with
      | none=>
       refine av s fun p hp M o i=>?_
       rcases List.mem_cons.1 hp with rfl | hp
       ·rw[A] at i;cases i;rw[g];simp
       ·exact hs p hp M o i
      | some d=>
       have ap:d<C.length:=hd d (by simp only[O4,List.mem_filterMap];exact ⟨os[q],List.getElem_mem _,g⟩)
       simp only[put]
       by_cases e:d=s
       ·subst e
        rw[List.getElem?_set_self (by rw[hl];exact ap)]
        exact (ay q (by simp) Y os[q] d x A t g).symm
       ·rw[List.getElem?_set_ne e]
        refine av s fun p hp M o i=>?_
        rcases List.mem_cons.1 hp with rfl | hp
        ·rw[A] at i;cases i;rw[g];simpa using e
        ·exact hs p hp M o i
     ·cases g:os[q].dst with
      | none=>exact aa s hs
      | some d=>
       have aj:(O4 os).contains d=true:=by
        rw[List.contains_iff_mem];simp only[O4,List.mem_filterMap];exact ⟨os[q],List.getElem_mem _,g⟩
       simp only[put]
       rw[List.getElem?_set_ne (by rintro rfl;rw[hs] at aj;cases aj)]
       exact aa s hs
   ·have Y:m≤q:=by omega
    have cx:q=k:=by
     have J:k≤q:=Nat.le_of_not_lt fun e=>O ((ab q Y).2 e)
     refine Nat.le_antisymm (Nat.le_of_not_lt fun e=>?_) J
     have:=hC c q f E k ((al q Y X k e).resolve_right (by omega)) (by omega)
     have:=(ab k a9).1 this
     omega
    subst cx
    rw[List.drop_eq_getElem_cons X] at h
    have b5: ∀p∈f,p<m→bit p q=true→False:=fun p hp M hb=>by
     have:=hC c q f E p hb (by omega)
     rw[E] at H
     exact (List.nodup_append.1 H).2.2 p this p (by simp[hp]) rfl
    refine Q5H (bs _ (List.getElem_mem _)) (fun s hs=>?_) (fun v w' hv=>?_) h
    ·have:l[s]? =lf[s]? :=av s fun p hp M o i z=>by
      rcases List.mem_cons.1 hp with rfl | hp
      ·omega
      refine b5 p hp M ?_
      rcases List.mem_append.1 hs with hs | hs
      ·unfold N6 at hs
       split at hs
       ·simp at hs
       ·rename_i j b bo
        split at hs
        ·rename_i d b1
         simp only[List.mem_singleton] at hs
         subst hs
         obtain ⟨p',aq,br,hb⟩:=hg q os[q] j b A bo
         obtain ⟨o',bq,cl⟩:=Option.bind_eq_some_iff.1 b1
         have:=Qx os hn p' p o' o s (by rw[br,bq]) i cl z
         subst this;exact hb
        ·simp at hs
      ·exact af p q o os[q] (by omega) i A (by simp only[K8,z,Bool.or_eq_true];left;left;simpa using hs)
     simp only[get,List.getD_eq_getElem?_getD,this]
    ·refine ih (c++[q]) (q+1) cf (by omega) (by omega) (fun q' a3=>?_) (fun p hp=>am p (by simp[hp])) _ _ w' ?_ ?_ (fun s hs=>?_) (fun p hp M o d x i bb z=>?_) (fun s hs=>?_) hv
     ·simp only[List.mem_append,List.mem_singleton,ab q' a3];omega
     ·cases g:os[q].dst<;>simp[put,hl]
     ·cases g:os[q].dst<;>simp[put,a8]
     ·have hb:l[s]? =lf[s]? ∨os[q].dst=some s:=by
       left
       refine av s fun p hp M o i=>?_
       rcases List.mem_cons.1 hp with rfl | hp
       ·omega
       ·exact hs p hp M o i
      cases g:os[q].dst with
      | none=>
       rcases hb with hb | hb
       ·exact hb
       ·rw[g] at hb;cases hb
      | some d=>
       simp only[put]
       by_cases e:d=s
       ·subst e
        have ap:d<C.length:=hd d (by simp only[O4,List.mem_filterMap];exact ⟨os[q],List.getElem_mem _,g⟩)
        rw[List.getElem?_set_self (by rw[hl];exact ap),List.getElem?_set_self (by rw[a8];exact ap)]
       ·rw[List.getElem?_set_ne e,List.getElem?_set_ne e]
        rcases hb with hb | hb
        ·exact hb
        ·rw[g] at hb;cases hb;exact absurd rfl e
     ·have ck:=ay p (by simp[hp]) M o d x i bb z
      cases g:os[q].dst with
      | none=>exact ck
      | some d'=>
       have Z:d'≠d:=by
        rintro rfl
        have:=Qx os hn p q o os[q] d' i A z g
        omega
       simp only[put]
       rw[List.getElem?_set_ne Z];exact ck
     ·cases g:os[q].dst with
      | none=>exact aa s hs
      | some d=>
       have aj:(O4 os).contains d=true:=by
        rw[List.contains_iff_mem];simp only[O4,List.mem_filterMap];exact ⟨os[q],List.getElem_mem _,g⟩
       simp only[put]
       rw[List.getElem?_set_ne (by rintro rfl;rw[hs] at aj;cases aj)]
       exact aa s hs
 intro f
 induction f with
 | nil=>
  intro c E D l u iv w hI hA hB hΦ
  refine ct c [] E D ?_ l u iv w hI hA hB hΦ
  intro q hq
  rw[List.append_nil] at E
  refine Classical.byContradiction fun aw=>?_
  have J:=R9 os.length (q::c) (List.nodup_cons.2 ⟨aw,E▸H⟩) (fun k hk=>by
   rcases List.mem_cons.1 hk with rfl | hk
   ·omega
   ·exact ac k (by rw[E];exact hk))
  simp at J
  rw[E] at b2;omega
 | cons q f ih=>
  intro c E D l u iv w hI hA hB hΦ
  have O:q∉c:=by
   rw[E] at H
   intro h
   exact (List.nodup_append.1 H).2.2 q h q (by simp) rfl
  have X:=ac q (by rw[E];simp)
  by_cases Y:m≤q
  ·-- the tail begins
   have ak: ∀p,p<m→p∉c→Lh os p=true:=fun p hp b0=>by
    rcases al q Y X p (by omega) with h | h
    ·exact absurd (hC c q f E p h (by omega)) b0
    ·exact h.2
   have bf: ∀p,Lh os p=true→ ∀o,os[p]? =some o→ ∃x,mv o=some x∧ ∀s,x= .tmp s→(O4 os).contains s=false:=by
    intro p hp o i
    unfold Lh at hp
    rw[i] at hp
    simp only at hp
    cases N:mv o with
    | none=>rw[N] at hp;cases hp
    | some x=>
     refine ⟨x,rfl,fun s hs=>?_⟩
     subst hs
     rw[N] at hp;simpa using hp
   obtain ⟨g1,g2⟩:=Dp hn bc m hm
   have bl: ∀s,(O4 os).contains s=false→ ∀(p:Nat) o,os[p]? =some o→o.dst≠some s:=by
    intro s hs p o i z
    have:(O4 os).contains s=true:=by
     rw[List.contains_iff_mem];simp only[O4,List.mem_filterMap]
     exact ⟨o,List.mem_of_getElem? i,z⟩
    rw[hs] at this;cases this
   refine ce (q::f) c m E (Nat.le_refl _) hm (fun q' a3=>⟨fun e=>D q' e,fun e=>absurd a3 (by omega)⟩) (fun p hp M=>ak p M fun e=>by
    rw[E] at H
    exact (List.nodup_append.1 H).2.2 p e p hp rfl) l (F9 u (W9 (C.map .val) 0 (os.take m))) w hA.len (by simp[F9,Fw os _ m hm]) (fun s hs=>?_) (fun p hp M o d x i bb z=>?_) (fun s hs=>?_) ?_
   ·rw[F9,List.getElem?_map]
    by_cases ar: ∃p,p<m∧ ∃o,os[p]? =some o∧o.dst=some s
    ·obtain ⟨p,hp,o,i,z⟩:=ar
     by_cases V:p∈c
     ·rw[hA.done p V o s i z,g1 p hp o s i z];rfl
     ·exfalso
      have cb:p∈L:=by
       refine Classical.byContradiction fun aw=>?_
       have J:=R9 os.length (p::L) (List.nodup_cons.2 ⟨aw,H⟩) (fun k hk=>by
        rcases List.mem_cons.1 hk with rfl | hk
        ·omega
        ·exact ac k hk)
       simp at J;omega
      rw[E] at cb
      rcases List.mem_append.1 cb with h | h
      ·exact V h
      ·exact hs p h hp o i z
    ·have ae: ∀p,p<m→ ∀o,os[p]? =some o→o.dst≠some s:=fun p hp o i z=>ar ⟨p,hp,o,i,z⟩
     rw[hA.rest s (fun p hp=>ae p (D p hp)),g2 s ae,List.getElem?_map]
     cases C[s]? <;>rfl
   ·have V:p∉c:=fun e=>by
     rw[E] at H
     exact (List.nodup_append.1 H).2.2 p e p hp rfl
    rw[F9,List.getElem?_map,g1 p M o d i z]
    simp only[Option.map_some,Option.some.injEq]
    have U:K3 os (C.map .val) p=entOf (W9 (C.map .val) 0 (os.take p)) x:=by simp[K3,i,Du,bb]
    rw[U]
    obtain ⟨x',cc,cs⟩:=bf p (ak p M V) o i
    rw[bb] at cc;cases cc
    cases x with
    | tmp s=>
     have hs:=cs s rfl
     obtain ⟨_,k2⟩:=Dp (S0:=C.map .val) hn bc p (by omega)
     simp only[entOf]
     rw[Cy,k2 s (fun p' _ o' bq=>bl s hs p' o' bq),List.getElem?_map]
     simp only[ev,get,List.getD_eq_getElem?_getD]
     cases C[s]? <;>rfl
    | _=>rfl
   ·exact hA.rest s fun p _ o i=>bl s hs p o i
   ·refine hW.last u iv w hI.1 hB (by simp) fun k o hk t=>?_
    have a5:k<m:=by
     have:=(List.getElem?_eq_some_iff.1 hk).1
     simp at this;omega
    rw[Nat.zero_add]
    rw[W k a5] at hk
    refine (hΦ k (Classical.byContradiction fun b0=>?_) o hk t).1
    obtain ⟨x,hx,_⟩:=bf k (ak k a5 b0) o hk
    rw[t] at hx;cases hx
  ·have Y:q<m:=by omega
   have A:os[q]? =some os[q]:=List.getElem?_eq_getElem X
   obtain ⟨g1,g2⟩:=Dp (S0:=C.map .val) hn bc q (by omega)
   -- what a slot holds that this operation reads
   have ad: ∀s,(∃p o,os[p]? =some o∧o.dst=some s∧p<q∧bit p q=true)∨s∈E2 os[q]→
    get l s=(getE (W9 (C.map .val) 0 (os.take q)) s).at u∧ ∀r,getE (W9 (C.map .val) 0 (os.take q)) s= .ref r→r∈c∧ ∃o,os[r]? =some o∧mv o=none:=by
    intro s hs
    have ae:(∀p∈c,∀o,os[p]? =some o→o.dst≠some s)→(∀p,p<q→ ∀o,os[p]? =some o→o.dst≠some s)→
     get l s=(getE (W9 (C.map .val) 0 (os.take q)) s).at u∧ ∀r,getE (W9 (C.map .val) 0 (os.take q)) s= .ref r→r∈c∧ ∃o,os[r]? =some o∧mv o=none:=by
     intro J R
     rw[Cy,g2 s R,List.getElem?_map]
     simp only[get,List.getD_eq_getElem?_getD,hA.rest s J]
     cases C[s]? with
     | none=>exact ⟨rfl,fun r hr=>by cases hr⟩
     | some v=>exact ⟨rfl,fun r hr=>by cases hr⟩
    have bk: ∀p o,os[p]? =some o→o.dst=some s→p<q→p∈c→
     get l s=(getE (W9 (C.map .val) 0 (os.take q)) s).at u∧ ∀r,getE (W9 (C.map .val) 0 (os.take q)) s= .ref r→r∈c∧ ∃o,os[r]? =some o∧mv o=none:=by
     intro p o hp i aq V
     rw[Cy,g1 p aq o s hp i]
     simp only[get,List.getD_eq_getElem?_getD,hA.done p V o s hp i,Option.getD_some]
     first | exact ⟨rfl,hA.refs p V⟩ | exact ⟨trivial,hA.refs p V⟩
    rcases hs with ⟨p,o,hp,i,aq,hb⟩ | hs
    ·exact bk p o hp i aq (hC c q f E p hb (by omega))
    ·by_cases ar: ∃(p:Nat) (o:Oper),os[p]? =some o∧o.dst=some s
     ·obtain ⟨p,o,hp,i⟩:=ar
      have c3:=(List.getElem?_eq_some_iff.1 hp).1
      have aa: ∀p' o',os[p']? =some o'→o'.dst=some s→p'=p:=fun p' o' J R=>Qx os hn p' p o' o s J hp R i
      rcases Nat.lt_trichotomy p q with h | h | h
      ·have hb:=af p q o os[q] h hp A (by simp only[K8,i,Bool.or_eq_true];left;left;simpa using hs)
       exact bk p o hp i h (hC c q f E p hb (by omega))
      ·subst h
       exact ae (fun p' ai o' J R=>by rw[aa p' o' J R] at ai;exact O ai) (fun p' ai o' J R=>by rw[aa p' o' J R] at ai;omega)
      ·refine ae (fun p' ai o' J R=>?_) (fun p' ai o' J R=>by rw[aa p' o' J R] at ai;omega)
       have e:=aa p' o' J R
       subst e
       have hb:=af q p' os[q] o' h A J (by simp only[K8,R,Bool.or_eq_true];right;left;simpa using hs)
       obtain ⟨p1,p2,V⟩:=List.append_of_mem ai
       have:=hC p1 p' (p2++q::f) (by rw[E,V];simp) q hb X
       exact O (by rw[V];exact List.mem_append_left _ this)
     ·exact ae (fun p _ o J R=>ar ⟨p,o,J,R⟩) (fun p _ o J R=>ar ⟨p,o,J,R⟩)
   have bp: ∀s∈N6 ops os[q]++E2 os[q],(∃p o,os[p]? =some o∧o.dst=some s∧p<q∧bit p q=true)∨s∈E2 os[q]:=by
    intro s hs
    rcases List.mem_append.1 hs with hs | hs
    ·left
     unfold N6 at hs
     split at hs
     ·simp at hs
     ·rename_i j b bo
      split at hs
      ·rename_i d b1
       simp only[List.mem_singleton] at hs
       subst hs
       obtain ⟨p,aq,br,hb⟩:=hg q os[q] j b A bo
       obtain ⟨o,i,z⟩:=Option.bind_eq_some_iff.1 b1
       exact ⟨p,o,by rw[br,i],z,aq,hb⟩
      ·simp at hs
    ·exact .inr hs
   have a2:=W q Y
   rw[A] at a2
   rw[List.filterMap_cons,A]
   simp only
   -- the state behind it
   have step: ∀(v:Value) (u':Nat→Value) (a7:Nat→Iv) (w':World),Rf r0 a7 w'→(∀p∈c,(K3 os (C.map .val) p).at u'=(K3 os (C.map .val) p).at u)→v=(K3 os (C.map .val) q).at u'→
    (∀r,K3 os (C.map .val) q= .ref r→r∈q::c∧ ∃o,os[r]? =some o∧mv o=none)→B w'→(∀r∈q::c,∀o,os[r]? =some o→mv o=none→Φ r u' (a7 r) w'∧ ∀j∈refs ops (W9 (C.map .val) 0 (os.take r)) o,j∈q::c)→
    Y3 P ops J4 (f.filterMap (os[·]?)) (put l os[q].dst v) w':=by
    intro v u' a7 w' c0 hu hv hr cr b7
    have Q: ∀x,x∈c++[q]↔x∈q::c:=by intro x;simp[or_comm]
    refine ih (c++[q]) (by rw[E];simp) (fun x hx=>by rcases List.mem_cons.1 ((Q x).1 hx) with rfl | hx;exact Y;exact D x hx) _ u' a7 w' c0 ?_ cr (fun r hr o i N=>⟨(b7 r ((Q r).1 hr) o i N).1,fun j hj=>(Q j).2 ((b7 r ((Q r).1 hr) o i N).2 j hj)⟩)
    have az: ∀p∈c++[q],∀r,K3 os (C.map .val) p= .ref r→r∈c++[q]∧ ∃o,os[r]? =some o∧mv o=none:=by
     intro p hp r bu
     rcases List.mem_cons.1 ((Q p).1 hp) with rfl | hp
     ·exact ⟨(Q r).2 (hr r bu).1,(hr r bu).2⟩
     ·obtain ⟨J,R⟩:=hA.refs p hp r bu
      exact ⟨List.mem_append_left _ J,R⟩
    cases g:os[q].dst with
    | none=>
     refine ⟨hA.len,?_,?_,az⟩
     ·intro p hp o d i z
      rcases List.mem_cons.1 ((Q p).1 hp) with rfl | hp
      ·rw[A] at i;cases i;rw[g] at z;cases z
      ·rw[hu p hp];exact hA.done p hp o d i z
     ·intro s hs;exact hA.rest s fun p hp=>hs p (List.mem_append_left _ hp)
    | some d0=>
     have ap:d0<C.length:=hd d0 (by simp only[O4,List.mem_filterMap];exact ⟨os[q],List.getElem_mem _,g⟩)
     refine ⟨by simp[put,hA.len],?_,?_,az⟩
     ·intro p hp o d i z
      rcases List.mem_cons.1 ((Q p).1 hp) with rfl | hp2
      ·rw[A] at i;cases i
       rw[g] at z;cases z
       simp only[put]
       rw[List.getElem?_set_self (by rw[hA.len];exact ap),hv]
      ·have Z:d0≠d:=by
        rintro rfl
        have:=Qx os hn p q o os[q] d0 i A z g
        subst this;exact O hp2
       simp only[put]
       rw[List.getElem?_set_ne Z,hu p hp2]
       exact hA.done p hp2 o d i z
     ·intro s hs
      have Z:d0≠s:=fun e=>hs q (by simp) os[q] A (by rw[g,e])
      simp only[put]
      rw[List.getElem?_set_ne Z]
      exact hA.rest s fun p hp=>hs p (List.mem_append_left _ hp)
   cases t:mv os[q] with
   | some x=>
    have U:K3 os (C.map .val) q=entOf (W9 (C.map .val) 0 (os.take q)) x:=by simp[K3,A,Du,t]
    -- a move: what the operand holds
    have hx:ev l x=(entOf (W9 (C.map .val) 0 (os.take q)) x).at u∧ ∀r,entOf (W9 (C.map .val) 0 (os.take q)) x= .ref r→r∈c∧ ∃o,os[r]? =some o∧mv o=none:=by
     cases x with
     | tmp s=>
      have hs:s∈E2 os[q]:=by
       unfold mv at t
       split at t
       ·cases t
       ·simp only[E2,List.mem_filterMap]
        split at t
        ·rename_i y hy;cases t;exact ⟨.tmp s,by rw[hy];simp[Op.operands],rfl⟩
        ·rename_i y hy;cases t;exact ⟨.tmp s,by rw[hy];simp[Op.operands],rfl⟩
        ·cases t
      exact ad s (.inr hs)
     | _=>exact ⟨rfl,fun r hr=>by cases hr⟩
    have ba:os[q].guard=none:=by
     unfold mv at t
     split at t
     ·cases t
     ·assumption
    simp only[Y3,ba]
    have ax:U9 P l os[q] w (fun v w=>Y3 P ops J4 (f.filterMap (os[·]?)) (put l os[q].dst v) w)=Y3 P ops J4 (f.filterMap (os[·]?)) (put l os[q].dst (ev l x)) w:=by
     unfold mv at t
     rw[ba] at t
     simp only at t
     split at t
     ·rename_i y hy;cases t;simp only[U9,hy]
     ·rename_i y hy;cases t;simp only[U9,hy]
     ·cases t
    rw[ax]
    refine step _ u iv w hI (fun _ _=>rfl) (by rw[U];exact hx.1) (fun r hr=>by
     rw[U] at hr
     obtain ⟨J,R⟩:=hx.2 r hr
     exact ⟨List.mem_cons_of_mem _ J,R⟩) hB (fun r hr o i N=>by
     rcases List.mem_cons.1 hr with rfl | hr
     ·rw[A] at i;cases i;rw[t] at N;cases N
     ·exact ⟨(hΦ r hr o i N).1,fun j hj=>List.mem_cons_of_mem _ ((hΦ r hr o i N).2 j hj)⟩)
   | none=>
    have U:K3 os (C.map .val) q= .ref q:=by simp[K3,A,Du,t]
    have bi:=hW.run q os[q] a2 t (bs _ (List.getElem_mem _)) u iv w hI.1 hB
    rw[a1 q (by omega),Nat.zero_add] at bi
    have cq:=hW.stable
    have bv:=bi (fun j hj=>by
     obtain ⟨s,hs,he⟩:=Rd (Hz hj)
     obtain ⟨J,o,R,h3⟩:=(ad s (bp s hs)).2 j he
     exact (hΦ j J o R h3).1)
    have cd: ∀j∈refs ops (W9 (C.map .val) 0 (os.take q)) os[q],j∈c:=fun j hj=>by
     obtain ⟨s,hs,he⟩:=Rd (Hz hj)
     exact ((ad s (bp s hs)).2 j he).1
    refine Q1H ?_
    rw[Q0s (bs _ (List.getElem_mem _)) (l':=F9 u (W9 (C.map .val) 0 (os.take q))) (fun s hs=>by rw[Gl];exact (ad s (bp s hs)).1)]
    refine Q1I ?_ bv
    intro v w' ⟨bx,hφ⟩
    have Z: ∀r∈c,r≠q:=fun r hr e=>O (e▸hr)
    refine step v (fun n=>if n=q then v else u n) (fun n=>if n=q then (Mt r0 w,Mt r0 w') else iv n) w' (hI.step (hM w w' bx) q) ?_ (by rw[U];simp[Ent.at]) (fun r hr=>by rw[U] at hr;cases hr;exact ⟨by simp,os[q],A,t⟩) (hT w w' hB bx) ?_
    ·intro p hp
     cases he:K3 os (C.map .val) p with
     | val x=>rfl
     | ref r=>
      have:=Z r (hA.refs p hp r he).1
      simp[Ent.at,this]
    ·intro r hr o i N
     rcases List.mem_cons.1 hr with rfl | hr
     ·rw[A] at i;cases i
      refine ⟨?_,fun j hj=>List.mem_cons_of_mem _ (cd j hj)⟩
      simp only[if_true]
      exact hφ _ (fun x hx=>by simp[Z x (cd x hx)]) (by simp)
     ·obtain ⟨f1,f2⟩:=hΦ r hr o i N
      have ca:=D r hr
      have be:=Z r hr
      have hl:=hW.loc r o (by rw[W r ca];exact i) N (fun n=>if n=q then v else u n) u (fun x hx=>by
       rw[a1 r (by omega),Nat.zero_add] at hx
       have:x≠q:=by
        rcases List.mem_cons.1 hx with rfl | hx
        ·exact be
        ·exact Z x (f2 x hx)
       simp[this])
      have hs:=cq r o (by rw[W r ca];exact i) N
      rw[Nat.zero_add] at hs hl
      refine ⟨?_,fun j hj=>List.mem_cons_of_mem _ (f2 j hj)⟩
      simp only[if_neg be]
      rw[hl]
      exact hs _ _ _ _ f1 bx
def X1a:Op→Bool
 | .move _ | .assign _ | .fieldAddr .. | .indexAddr .. | .field .. | .index .. | .binOp .. | .unOp .. | .extract .. | .pick .. | .makeFunc .. | .nilCheck _ | .slice .. =>true
 | _=>false
def ready (ops:List Oper) (a:List Nat) (j:Nat):Bool:=(G7 ops j).all (a.contains ·)
def X1u (ops:List Oper) (j:Nat):Bool:=match ops[j]? with | some o=>X1a o.op | none=>false
def Q79 (ops:List Oper):Nat→List Nat→List Nat→List Nat
 | 0,_,a=>a.reverse
 | n+1,b,a=>
  match b.find? (fun j=>X1u ops j&&ready ops a j) with
  | some j=>Q79 ops n (b.erase j) (j::a)
  | none=>match b.find? (ready ops a) with
   | some j=>Q79 ops n (b.erase j) (j::a)
   | none=>a.reverse
def L3 (ops:List Oper):List Nat:=Q79 ops ops.length (List.range ops.length) []
def H7 (ops:List Oper) (a:List Nat) (p q:Nat):Bool:=((Bv ops []).getD (a.getD q 0) 0).testBit (a.getD p 0)
def Y5 (ops:List Oper) (a:List Nat):List Oper:=a.map fun i=>ops.getD i default
def cutA (ops:List Oper) (a:List Nat):Nat→Nat
 | 0=>0
 | j+1=>if (List.range j).all (fun i=>H7 ops a i j||Lh (Y5 ops a) i) then cutA ops a j else j+1
def X2s (ops:List Oper) (a:List Nat) (c n:Nat):Bool:=(List.range n).all fun q=>(List.range q).all fun p=>decide (p<c)||H7 ops a p q
def Ws (ops:List Oper) (a:List Nat) (n:Nat):Nat:=if X2s ops a (cutA ops a n) n then cutA ops a n else n
theorem Q2R (ops:List Oper) (a:List Nat): ∀n,cutA ops a n≤n∧ ∀q,cutA ops a n≤q→q<n→ ∀p,p<q→H7 ops a p q=true∨Lh (Y5 ops a) p=true
 | 0=>⟨Nat.le_refl _,fun q _ h=>by omega⟩
 | j+1=>by
  obtain ⟨g,f⟩:=Q2R ops a j
  simp only[cutA]
  split
  ·rename_i h
   refine ⟨by omega,fun q c b p d=>?_⟩
   by_cases e:q=j
   ·subst e
    simpa using List.all_eq_true.1 h p (by simpa using d)
   ·exact f q c (by omega) p d
  ·exact ⟨Nat.le_refl _,fun q c b=>by omega⟩
theorem Q6G (ops:List Oper) (a:List Nat) (n:Nat):Ws ops a n≤n∧ ∀q,Ws ops a n≤q→q<n→ ∀p,p<q→H7 ops a p q=true∨(p<Ws ops a n∧Lh (Y5 ops a) p=true):=by
 obtain ⟨f,i⟩:=Q2R ops a n
 unfold Ws
 split
 ·rename_i g
  refine ⟨f,fun q d b p e=>?_⟩
  by_cases c:p<cutA ops a n
  ·exact (i q d b p e).imp id fun h=>⟨c,h⟩
  ·left
   have:=List.all_eq_true.1 (List.all_eq_true.1 g q (by simpa using b)) p (by simpa using e)
   simpa [c] using this
 ·exact ⟨Nat.le_refl _,fun q d b=>by omega⟩
def Q3A (ops:List Oper) (a:List Nat):Bool:=
 a.length==ops.length&&(List.range ops.length).all (a.contains ·)&&Ql a&&a.all (fun i=>decide (i<ops.length))&&
  (List.range ops.length).all fun q=>(List.range q).all fun p=> !H7 ops a q p
def Jm (ops:List Oper) (n:Nat):Bool:=
 Zx ops&&Q2k (Bv ops []) ops&&Ql (O4 (Y5 ops (L3 ops)))&&(O4 (Y5 ops (L3 ops))).all (fun d=>decide (d<n))&&
  (G3 .any ops (List.range ops.length)&&G3 .text ops (List.range ops.length)&&G3 .gc ops (Q9b .gc ops ops.length (List.range ops.length) []))&&Q3A ops (L3 ops)
theorem Ah: ∀{l:List Nat},Ql l=true→l.Nodup
 | [],_=>List.nodup_nil
 | x::l,h=>by
  simp only[Ql,Bool.and_eq_true,Bool.not_eq_true'] at h
  exact List.nodup_cons.2 ⟨by simpa using h.1,Ah h.2⟩
theorem Q42 {ops:List Oper}: ∀(b:List Oper) (a:List Nat),a.length+b.length=ops.length→(∀k,a.length≤k→ops[k]? =b[k-a.length]?)→
 (∀j k,j<a.length→k∈G7 ops j→(a.getD j 0).testBit k=true)→ ∀j k,j<ops.length→k∈G7 ops j→((Bv b a).getD j 0).testBit k=true
 | [],a,i,_,c=>fun j k p d=>c j k (by simp at i;omega) d
 | o::b,a,i,f,c=>by
  have u:ops[a.length]? =some o:=by rw[f _ (Nat.le_refl _)];simp
  refine Q42 b _ (by simp at i⊢;omega) ?_ ?_
  ·intro k d
   simp only[List.length_append,List.length_cons,List.length_nil] at d⊢
   rw[f k (by omega)]
   obtain ⟨m,t⟩: ∃m,k-a.length=m+1:=⟨k-a.length-1,by omega⟩
   rw[t,List.getElem?_cons_succ]
   congr 1;omega
  ·intro j k p d
   simp only[List.length_append,List.length_cons,List.length_nil] at p
   by_cases g:j<a.length
   ·simp only[List.getD_eq_getElem?_getD,List.getElem?_append_left g]
    simpa only[List.getD_eq_getElem?_getD] using c j k g d
   ·have n:j=a.length:=by omega
    subst n
    simp only[List.getD_eq_getElem?_getD,List.getElem?_append_right (Nat.le_refl _),Nat.sub_self,List.getElem?_cons_zero,Option.getD_some]
    unfold G7 at d
    rw[u] at d
    simp only[Option.map_some,Option.getD_some,List.mem_map] at d
    obtain ⟨e,q,rfl⟩:=d
    have key: ∀(l:List Edge) (s:Nat),(e∈l∨s.testBit e.on=true)→(l.foldl (fun s e=>s ||| 2 ^ e.on ||| (a[e.on]?).getD 0) s).testBit e.on=true:=by
     intro l
     induction l with
     | nil=>intro s h;simpa using h
     | cons x l r=>
      intro s h
      refine r _ ?_
      rcases h with h | h
      ·rcases List.mem_cons.1 h with rfl | h
       ·right;simp
       ·exact .inl h
      ·right;simp[h]
    exact key _ _ (.inl q)
theorem Ee {α β:Type} {f g:α→Option β}: ∀{l:List α},(∀x∈l,f x=g x)→l.filterMap f=l.filterMap g
 | [],_=>rfl
 | x::l,h=>by
  rw[List.filterMap_cons,List.filterMap_cons,h x (by simp),Ee fun y a=>h y (by simp[a])]
structure Arr (ops : List Oper) (ord : List Nat) (L : List Nat) : Prop where
  hpl : ∀ o ∈ Y5 ops ord, T8 o.op = true
  hclash : ∀ p q a b, p < q → (Y5 ops ord)[p]? = some a → (Y5 ops ord)[q]? = some b → (K8 a b || K8 b a) = true → H7 ops ord p q = true
  hg : ∀ q o j b, (Y5 ops ord)[q]? = some o → o.guard = some (j, b) → ∃ p, p < q ∧ (Y5 ops ord)[p]? = ops[j]? ∧ H7 ops ord p q = true
  hn : L.Nodup
  hlt : ∀ q ∈ L, q < (Y5 ops ord).length
  hC : ∀ pre q post, L = pre ++ q :: post → ∀ p, H7 ops ord p q = true → p < (Y5 ops ord).length → p ∈ pre
  hLl : L.length = (Y5 ops ord).length
theorem Fk {ops:Array Oper} {c:List Nat} (X:Zx ops.toList=true) (hc:Q2k (Bv ops.toList []) ops.toList=true) (bd:G3 .any ops.toList (List.range ops.toList.length)=true) (bc:G3 .text ops.toList (List.range ops.toList.length)=true) (bb:G3 .gc ops.toList (Q9b .gc ops.toList ops.toList.length (List.range ops.toList.length) [])=true) (O:Q3A ops.toList c=true) (b:Bool) (t:Nat):
 (Region.schedule b ops t).filterMap (ops[·]?)=((Region.schedule b ops t).map (c.idxOf ·)).filterMap ((Y5 ops.toList c)[·]?)∧Arr ops.toList c ((Region.schedule b ops t).map (c.idxOf ·))∧(Y5 ops.toList c).length=ops.toList.length∧(Region.schedule b ops t).Nodup∧ ∀i∈Region.schedule b ops t,i<ops.toList.length∧c.getD (c.idxOf i) 0=i:=by
 simp only[Q3A,Bool.and_eq_true,beq_iff_eq] at O
 obtain ⟨⟨⟨⟨ah,U⟩,a2⟩,L⟩,D⟩:=O
 have Y:=Ah a2
 have ag:(Y5 ops.toList c).length=ops.toList.length:=by simp[Y5,ah]
 have g: ∀p,p<ops.toList.length→c.getD p 0<ops.toList.length:=by
  intro p W
  simp only[List.getD_eq_getElem?_getD]
  rw[List.getElem?_eq_getElem (by omega)]
  have:=List.all_eq_true.1 L c[p] (List.getElem_mem _)
  simpa using this
 have d: ∀p,p<ops.toList.length→(Y5 ops.toList c)[p]? =ops.toList[c.getD p 0]? :=by
  intro p W
  have n:=g p W
  simp only[List.getD_eq_getElem?_getD] at n
  rw[List.getElem?_eq_getElem (by omega:p<c.length)] at n
  simp only[Option.getD_some] at n
  simp only[Y5,List.getElem?_map,List.getD_eq_getElem?_getD]
  rw[List.getElem?_eq_getElem (by omega:p<c.length)]
  simp only[Option.map_some,Option.getD_some]
  rw[List.getElem?_eq_getElem n]
  simp
 obtain ⟨Q,N,z⟩:=Q3m b ops t X (fun m=>by cases m<;>exact ⟨_,by assumption⟩)
 have f:=Q0p b ops t
 generalize Region.schedule b ops t=L0 at Q N z f⊢
 have v: ∀i,i<ops.toList.length→i∈c:=fun i s=>by simpa using List.all_eq_true.1 U i (by simpa using s)
 have l: ∀i,i<ops.toList.length→c.idxOf i<ops.toList.length∧c.getD (c.idxOf i) 0=i:=by
  intro i s
  have n:=List.idxOf_lt_length_of_mem (v i s)
  refine ⟨by omega,?_⟩
  simp only[List.getD_eq_getElem?_getD]
  rw[List.getElem?_eq_getElem n]
  simp
 have r: ∀p,p<ops.toList.length→c.idxOf (c.getD p 0)=p:=by
  intro p W
  simp only[List.getD_eq_getElem?_getD]
  rw[List.getElem?_eq_getElem (by omega:p<c.length)]
  simp only[Option.getD_some]
  exact List.Nodup.idxOf_getElem Y p (by omega)
 have ad: ∀p q,p<q→q<ops.toList.length→H7 ops.toList c q p=false:=by
  intro p q R u
  have:=List.all_eq_true.1 (List.all_eq_true.1 D q (by simpa using u)) p (by simpa using R)
  simpa using this
 have an:L0.filterMap (ops[·]?)=(L0.map (c.idxOf ·)).filterMap ((Y5 ops.toList c)[·]?):=by
  rw[List.filterMap_map]
  refine Ee fun i s=>?_
  have:=f i s
  have n:=l i (by simpa using this)
  simp only[Function.comp]
  rw[d _ n.1,n.2]
  simp
 refine ⟨an,⟨?_,?_,?_,?_,?_,?_,by simp[N,ah,Y5]⟩,ag,Q,fun i s=>⟨by simpa using f i s,(l i (by simpa using f i s)).2⟩⟩
 ·intro o ho
  simp only[Y5,List.mem_map] at ho
  obtain ⟨i,s,rfl⟩:=ho
  have A:i<ops.toList.length:=by simpa using List.all_eq_true.1 L i s
  simp only[Zx,List.all_eq_true,Bool.and_eq_true] at X
  have:=(X (ops.toList[i],i) (by rw[List.mem_zipIdx_iff_getElem?];simpa using A)).1.1
  rw[List.getD_eq_getElem?_getD,List.getElem?_eq_getElem A]
  exact this
 ·intro p q a b' R ha C E
  have W:p<ops.toList.length:=by have:=(List.getElem?_eq_some_iff.1 ha).1;omega
  have u:q<ops.toList.length:=by have:=(List.getElem?_eq_some_iff.1 C).1;omega
  rw[d p W] at ha
  rw[d q u] at C
  have aa: ∀i i' x x',i<i'→ops.toList[i]? =some x→ops.toList[i']? =some x'→(K8 x x'||K8 x' x)=true→((Bv ops.toList []).getD i' 0).testBit i=true:=by
   intro i i' x x' am hx ay E
   simp only[Q2k,List.all_eq_true] at hc
   have:=hc (x',i') (by rw[List.mem_zipIdx_iff_getElem?];simpa using ay) (x,i) (by rw[List.mem_zipIdx_iff_getElem?];simpa using hx)
   simp only[am,E,decide_true,Bool.not_true,Bool.false_or,Bool.or_self] at this
   exact this
  have ai:c.getD p 0≠c.getD q 0:=by
   intro e
   have:=r p W
   rw[e,r q u] at this
   omega
  rcases Nat.lt_or_gt_of_ne ai with h | h
  ·exact aa _ _ a b' h ha C E
  ·have n:=aa _ _ b' a h C ha (by rw[Bool.or_comm];exact E)
   have B:=ad p q R u
   unfold H7 at B
   rw[n] at B;cases B
 ·intro q o j b' u al
  have H:q<ops.toList.length:=by have:=(List.getElem?_eq_some_iff.1 u).1;omega
  rw[d q H] at u
  have M:j∈G7 ops.toList (c.getD q 0):=by
   have aj:=X
   simp only[Zx,List.all_eq_true,Bool.and_eq_true] at aj
   have:=(aj (o,c.getD q 0) (by rw[List.mem_zipIdx_iff_getElem?];simpa using u)).2
   rw[al] at this
   simp only[List.any_eq_true] at this
   obtain ⟨e,ar,av⟩:=this
   unfold G7
   rw[u]
   simp only[Option.map_some,Option.getD_some,List.mem_map]
   exact ⟨e,ar,by simpa using av⟩
  have a3:=Bi X _ (g q H) j M
  have hj:j<ops.toList.length:=by have:=g q H;omega
  have C:=Q42 (ops:=ops.toList) ops.toList [] (by simp) (by simp) (by intro j k hj;simp at hj) _ j (g q H) M
  obtain ⟨n,B⟩:=l j hj
  have J:H7 ops.toList c (c.idxOf j) q=true:=by unfold H7;rw[B];exact C
  refine ⟨c.idxOf j,?_,by rw[d _ n,B],J⟩
  rcases Nat.lt_trichotomy (c.idxOf j) q with h | h | h
  ·exact h
  ·rw[←h,B] at a3;omega
  ·have:=ad q _ h n
   rw[J] at this;cases this
 ·refine List.pairwise_map.2 (Q.imp_of_mem ?_)
  intro x y hx hy ao az
  have n:=(l x (by simpa using f x hx)).2
  have B:=(l y (by simpa using f y hy)).2
  exact ao (by rw[←n,←B,az])
 ·intro q u
  simp only[List.mem_map] at u
  obtain ⟨i,s,rfl⟩:=u
  have:=(l i (by simpa using f i s)).1
  omega
 ·intro be q a7 hL p C W
  rw[List.map_eq_append_iff] at hL
  obtain ⟨ac,aq,ae,Z,w⟩:=hL
  rw[List.map_eq_cons_iff] at w
  obtain ⟨i,V,hr,s,aw⟩:=w
  subst hr s Z
  have A:i<ops.toList.length:=by simpa using f i (by rw[ae];simp)
  obtain ⟨n,B⟩:=l i A
  unfold H7 at C
  rw[B] at C
  have ap:p<ops.toList.length:=by omega
  have:=Q4q X z i A (c.getD p 0) ac V ae C
  rw[List.mem_map]
  exact ⟨c.getD p 0,this,r p ap⟩
theorem Q36 {ops:Array Oper} {n:Nat} (c:Jm ops.toList n=true) (b:Bool) (t:Nat): ∃L,(Region.schedule b ops t).filterMap (ops[·]?)=L.filterMap ((Y5 ops.toList (L3 ops.toList))[·]?)∧Arr ops.toList (L3 ops.toList) L∧(Y5 ops.toList (L3 ops.toList)).length=ops.toList.length:=by
 simp only[Jm,Bool.and_eq_true] at c
 obtain ⟨⟨⟨⟨⟨g,h⟩,m⟩,l⟩,⟨f,e⟩,d⟩,a⟩:=c
 obtain ⟨i,k,j,_⟩:=Fk g h f e d a b t
 exact ⟨_,i,k,j⟩
theorem Q6o (P:Program) (r:Bool) (ops:Array Oper) (T:World→World→Prop) (B:World→Prop) (J4:List Value→World→Prop) (i:List Value) (f:Jm ops.toList i.length=true)
 (J: ∀w w',B w→T w w'→B w') (C: ∀w w',T w w'→Mt r w≤Mt r w')
 (h:chain P r ops.toList T B J4 ((Y5 ops.toList (L3 ops.toList)).drop (Ws ops.toList (L3 ops.toList) ops.toList.length)) 0
  ((Y5 ops.toList (L3 ops.toList)).take (Ws ops.toList (L3 ops.toList) ops.toList.length)) (i.map .val) [] [])
 (b:Bool) (t:Nat) (w:World) (E:B w):Y3 P ops.toList J4 ((Region.schedule b ops t).filterMap (ops[·]?)) i w:=by
 obtain ⟨L,k,c,o⟩:=Q36 f b t
 simp only[Jm,Bool.and_eq_true] at f
 obtain ⟨⟨⟨⟨⟨l,U⟩,Q⟩,N⟩,⟨u,M⟩,H⟩,s⟩:=f
 generalize L3 ops.toList=a at*
 obtain ⟨Φ,_,y⟩:=Pg P r ops.toList T B J4 _ _ 0 (i.map .val) [] [] (by intro e l j R;simp only[List.mem_map] at l;obtain ⟨v,_,rfl⟩:=l;cases R) (by simp) (by simp[Zy]) h
 rw[k]
 obtain ⟨n,g⟩:=Q6G ops.toList a ops.toList.length
 exact X2w (os:=Y5 ops.toList a) (m:=Ws ops.toList a ops.toList.length) (T:=T) (B:=B) (Φ:=Φ) (H7 ops.toList a) c.hpl Q (fun d z=>by simpa using List.all_eq_true.1 N d z) c.hclash c.hg (by omega)
  (fun q A D p O=>g q A (by omega) p O) J C y L c.hn c.hLl c.hlt c.hC _ [] rfl (by simp) i (fun _=>undef) (fun _=>(0,0)) w .init
  ⟨rfl,by simp,fun _ _=>rfl,by simp⟩ E (by simp)
def Xx {α:Type} (P:Program) (s:Sem α):Prop:= ∀w v w',s.run P w= .ok v w'→w'=w
section
variable {P : Program} {α β : Type}
theorem Zs (a:α):Xx P (Pure.pure a:Sem α):=fun w v w' h=>by simp at h;exact h.2.symm
theorem Q5F (m:String):Xx P (stuck m:Sem α):=fun w v w' h=>by simp at h
theorem K9 {s:Sem α} {f:α→Sem β} (c:Xx P s) (d: ∀a,Xx P (f a)):Xx P (s>>=f):=fun w v w' h=>by
 rw[Sem.run_bind] at h
 cases b:s.run P w with
 | halt x w1=>rw[b] at h;simp[Result.andThen] at h
 | ok a w1=>
  rw[b] at h
  have:=c _ _ _ b
  subst this
  exact d a _ _ _ h
theorem Q1G (a:Addr) (m:Mode):Xx P (load a m):=fun w v w' h=>by
 unfold load at h
 simp only[Sem.run] at h
 split at h
 ·cases h;rfl
 ·split at h
  ·cases h;rfl
  ·cases h
theorem Cx (t:TypeId):Xx P (typeInfo t):=fun w v w' h=>by
 unfold typeInfo at h
 simp only[Sem.run_bind,run_program,Result.andThen_ok] at h
 split at h<;>simp at h
 exact h.2.symm
theorem Q0Z (t:TypeId):Xx P (underlying t):=fun w v w' h=>by
 unfold underlying at h
 simp only[Sem.run_bind,run_program,Result.andThen_ok] at h
 split at h<;>simp at h
 exact h.2.symm
theorem Q5E (t:TypeId):Xx P (isAgg t):=by
 unfold isAgg
 refine K9 (Q0Z t) fun d=>?_
 split<;>exact Zs _
theorem Q4t (t:TypeId):Xx P (sizeOf t):=K9 (Cx t) fun _=>Zs _
theorem Q0o (a:Addr): ∀(n i:Nat) (b:Array Value),Xx P (loadCellsFrom a i n b)
 | 0,i,b=>Zs _
 | n+1,i,b=>K9 (Q1G _ _) fun v=>Q0o a n (i+1) _
theorem Q3p (t:TypeId) (a:Addr):Xx P (loadVar t a):=by
 unfold loadVar
 refine K9 (Q5E t) fun b=>?_
 split
 ·exact K9 (Q4t t) fun n=>K9 (Q0o a n 0 #[]) fun cs=>Zs _
 ·exact Q1G _ _
theorem Q4c (t:TypeId) (v:Value):Xx P (Instr.loadAt t v):=by
 unfold Instr.loadAt
 refine K9 ?_ fun a=>Q3p t a
 unfold Instr.sureAddr
 split
 ·exact Zs _
 ·exact Q5F _
def Yf (P:Program) (s:Sem α):Prop:= ∀w v w1,s.run P w= .ok v w1→w1=w∧ ∀w',s.run P w'= .ok v w'
theorem Yr (a:α):Yf P (Pure.pure a:Sem α):=fun w v w' h=>by simp at h⊢;exact ⟨h.2.symm,h.1⟩
theorem Wh (m:String):Yf P (stuck m:Sem α):=fun w v w' h=>by simp at h
theorem K5 {s:Sem α} {f:α→Sem β} (d:Yf P s) (g: ∀a,Yf P (f a)):Yf P (s>>=f):=fun w v w' h=>by
 rw[Sem.run_bind] at h
 cases b:s.run P w with
 | halt x w1=>rw[b] at h;simp[Result.andThen] at h
 | ok a w1=>
  rw[b] at h
  obtain ⟨rfl,j⟩:=d _ _ _ b
  obtain ⟨i,e⟩:=g a _ _ _ h
  refine ⟨i,fun c=>?_⟩
  rw[Sem.run_bind,j c]
  exact e c
theorem Gw (t:TypeId):Yf P (typeInfo t):=fun w v w' h=>by
 unfold typeInfo at h⊢
 simp only[Sem.run_bind,run_program,Result.andThen_ok] at h⊢
 split at h<;>simp at h
 rename_i i a
 refine ⟨h.2.symm,fun w'=>?_⟩
 simp[a,h.1]
theorem Vs (t:TypeId):Yf P (underlying t):=fun w v w' h=>by
 unfold underlying at h⊢
 simp only[Sem.run_bind,run_program,Result.andThen_ok] at h⊢
 split at h<;>simp at h
 rename_i i a
 refine ⟨h.2.symm,fun w'=>?_⟩
 simp[a,h.1]
theorem Eo (v:Value) (i:Nat):Yf P (Instr.extract v i):=by
 unfold Instr.extract
 split
 ·split
  ·exact Yr _
  ·exact Wh _
 ·exact Wh _
theorem Q8l (v:Value):Yf P (Instr.sureAddr v):=by
 unfold Instr.sureAddr
 split
 ·exact Yr _
 ·exact Wh _
theorem Q2a {s:Sem α} (h: ∀w v w',s.run P w≠ .ok v w'):Yf P s:=fun w v w' e=>absurd e (h w v w')
theorem Q29 {s:Sem α} {f:α→Sem β} (c: ∀a w v w',(f a).run P w≠ .ok v w'): ∀w v w',(s>>=f).run P w≠ .ok v w':=fun w v w' h=>by
 rw[Sem.run_bind] at h
 cases b:s.run P w with
 | halt x w1=>rw[b] at h;simp[Result.andThen] at h
 | ok a w1=>rw[b] at h;exact c a _ _ _ h
theorem Q1i (e:Int×Int×Bool×BoundsCode): ∀w v w',(runtimePanic (.bounds e.1 e.2.1 e.2.2.1 e.2.2.2):Sem α).run P w≠ .ok v w':=by
 unfold runtimePanic
 exact Q29 fun p=>fun w v w' h=>by cases h
theorem Q0z (k:IntKind) (x y:Int) (c:BoundsCode):Yf P (boundsPanic k x y c:Sem α):=Q2a (by
 unfold boundsPanic
 dsimp only
 split
 ·exact Q29 fun b=>Q1i (_,_,_,_)
 ·exact Q29 fun b=>Q1i (_,_,_,_))
theorem Hh (t:TypeId) (x i:Value):Yf P (Instr.indexAt t x i):=by
 unfold Instr.indexAt
 refine K5 ?_ fun q=>?_
 ·unfold asIntOf
  split
  ·exact Yr _
  ·exact Q2a fun w v w' h=>by cases h
  ·exact Wh _
 refine K5 (Vs t) fun d=>?_
 dsimp only
 have key: ∀(z:Option Addr×Nat×TypeId),Yf P (match z with
  | (base,b,elem)=>do
   let __do_lift←underlying t
   have c:Bool:=decide (b≤1)&&match __do_lift with
    | TypeDesc.array b elem=>true
    | x=>false
   match base with
    | some a=>
     if 0≤q.snd∧q.snd< ↑b then do
      let __do_lift←sizeOf elem
      pure (Value.pointer (some (a.add (q.snd.toNat*__do_lift))))
     else
      if c=true then unsupported (Unsupported.noEntry "op/indexAddr.an index out of range at an array of length 0 or 1 (ledger 616)")
      else boundsPanic q.fst q.snd (↑b) BoundsCode.index
    | none=>boundsPanic q.fst q.snd 0 BoundsCode.index):=by
  rintro ⟨base,b,elem⟩
  dsimp only
  refine K5 (Vs t) fun g=>?_
  cases base with
  | none=>exact Q0z _ _ _ _
  | some a=>
   dsimp only
   by_cases f:0≤q.snd∧q.snd< ↑b
   ·rw[if_pos f]
    exact K5 (K5 (Gw _) fun _=>Yr _) fun n=>Yr _
   ·rw[if_neg f]
    by_cases e:(decide (b≤1)&&match g with
     | TypeDesc.array b elem=>true
     | x=>false)=true
    ·rw[if_pos e]
     exact Q2a fun w v w' h=>by cases h
    ·rw[if_neg e]
     exact Q0z _ _ _ _
 split
 ·exact K5 (Q8l _) fun a=>K5 (Yr _) key
 ·exact K5 (Yr _) key
 ·exact K5 (Wh _) key
def Pw (o:Oper):Bool:=match o.op with | .move _ | .assign _ | .load .. | .extract .. | .indexAddr .. =>true | _=>false
def Q2l (o:Oper):Bool:=match o.op with | .move _ | .assign _ | .extract .. | .indexAddr .. =>true | _=>false
theorem Dj {s:Sem Value} {w:World} {K:Value→World→Prop} (h:op P (sv s) w K): ∃v w',s.run P w= .ok v w'∧K v w':=by
 rw[Qr] at h
 unfold T6 sv at h
 rw[Sem.run_bind] at h
 cases a:s.run P w with
 | halt x w1=>rw[a] at h;exact h.elim
 | ok v w1=>rw[a] at h;exact ⟨v,w1,rfl,h⟩
theorem Da {s:Sem Value} {v:Value} {w w':World} {K:Value→World→Prop} (h:s.run P w= .ok v w') (k:K v w'):op P (sv s) w K:=by
 rw[Qr]
 unfold T6 sv
 rw[Sem.run_bind,h]
 exact k
theorem Q87 {p:Program} {w w':World} {a k:Addr} {u:TypeId} {b:Bool} {r} (h: ∀(i:Nat) o,w.heap[i]? =some o→w'.heap[i]? =some o) (c:w.seen p a u k b= .ok r):w'.seen p a u k b= .ok r:=by
 cases e:w.heap[a.block]? with
 | some o=>
  have d:=h _ _ e
  unfold World.seen at*
  rw[d]
  rw[e] at c
  exact c
 | none=>
  exfalso
  unfold World.seen at c
  simp only[e,bind,Except.bind,throw,throwThe,MonadExceptOf.throw,pure,Except.pure] at c
  repeat (first | cases c | split at c)
theorem Q91 {p:Program} {w w':World} {a:Addr} {b:Bool} {r} (h: ∀(i:Nat) o,w.heap[i]? =some o→w'.heap[i]? =some o) (c:w.farLoad p a b= .ok r):w'.farLoad p a b= .ok r:=by
 unfold World.farLoad at*
 cases e:w.heap[a.block]? with
 | none=>rw[e] at c;cases c
 | some o=>
  rw[e] at c
  rw[h _ _ e]
  cases o with
  | view d u=>
   simp only at c⊢
   cases f:w.viewLoad p d u a b with
   | error s=>rw[f] at c;cases c
   | ok q=>
    rw[f] at c
    have:w'.viewLoad p d u a b= .ok q:=by
     unfold World.viewLoad at*
     cases g:w.seen p d u a b with
     | error s=>rw[g] at f;cases f
     | ok z=>rw[Q87 h g];rw[g] at f;exact f
    rw[this]
    exact c
  | _=>simp only at c;cases c
def Ni {α:Type} (P:Program) (s:Sem α):Prop:= ∀w v w1,s.run P w= .ok v w1→w1=w∧ ∀w':World,(∀(i:Nat) o,w.heap[i]? =some o→w'.heap[i]? =some o)→s.run P w'= .ok v w'
section
variable {P : Program} {α β : Type}
theorem Nv (a:α):Ni P (Pure.pure a:Sem α):=fun w v w' h=>by simp at h⊢;exact ⟨h.2.symm,fun _ _=>h.1⟩
theorem Q7p (m:String):Ni P (stuck m:Sem α):=fun w v w' h=>by simp at h
theorem Zh {s:Sem α} {f:α→Sem β} (e:Ni P s) (i: ∀a,Ni P (f a)):Ni P (s>>=f):=fun w v w' h=>by
 rw[Sem.run_bind] at h
 cases b:s.run P w with
 | halt x w1=>rw[b] at h;simp[Result.andThen] at h
 | ok a w1=>
  rw[b] at h
  obtain ⟨rfl,k⟩:=e _ _ _ b
  obtain ⟨j,g⟩:=i a _ _ _ h
  refine ⟨j,fun c d=>?_⟩
  rw[Sem.run_bind,k c d]
  exact g c d
theorem Q2J (a:Addr) (m:Mode):Ni P (load a m):=fun w v w1 h=>by
 unfold load at h⊢
 simp only[Sem.run] at h⊢
 cases e:w.cell? a with
 | some x=>
  rw[e] at h
  cases h
  refine ⟨rfl,fun w' d=>?_⟩
  have:w'.cell? a=some v:=by
   unfold World.cell? at*
   cases c:w.heap[a.block]? with
   | none=>rw[c] at e;cases e
   | some o=>rw[c] at e;rw[d _ _ c];exact e
  rw[this]
 | none=>
  rw[e] at h
  simp only at h
  cases b:w.farLoad P a (m== .atomic) with
  | error s=>rw[b] at h;cases h
  | ok q=>
   rw[b] at h
   cases h
   refine ⟨rfl,fun w' d=>?_⟩
   have f:=Q91 d b
   cases g:w'.cell? a with
   | none=>simp only[f]
   | some x=>
    exfalso
    unfold World.farLoad at b
    unfold World.cell? at g
    cases c:w.heap[a.block]? with
    | none=>rw[c] at b;cases b
    | some o=>
     rw[d _ _ c] at g
     rw[c] at b
     cases o<;>first | cases g | (simp only at b;cases b)
theorem Q3f {s:Sem α} (h:Yf P s):Ni P s:=fun w v w1 e=>⟨(h w v w1 e).1,fun w' _=>(h w v w1 e).2 w'⟩
theorem Q7h (t:TypeId):Ni P (isAgg t):=by
 unfold isAgg
 refine Zh (Q3f (Vs t)) fun d=>?_
 split<;>exact Nv _
theorem Q1F (a:Addr): ∀(n i:Nat) (b:Array Value),Ni P (loadCellsFrom a i n b)
 | 0,i,b=>Nv _
 | n+1,i,b=>Zh (Q2J _ _) fun v=>Q1F a n (i+1) _
theorem Q5R (t:TypeId) (v:Value):Ni P (Instr.loadAt t v):=by
 unfold Instr.loadAt
 refine Zh ?_ fun a=>?_
 ·unfold Instr.sureAddr
  split
  ·exact Nv _
  ·exact Q7p _
 ·unfold loadVar
  refine Zh (Q7h t) fun b=>?_
  split
  ·exact Zh (Zh (Q3f (Gw t)) fun _=>Nv _) fun n=>Zh (Q1F a n 0 #[]) fun cs=>Nv _
  ·exact Q2J _ _
def Dz (o:Oper):Bool:=match o.op with | .alloc .. =>true | _=>false
theorem Q7T {l:List Value} {o:Oper} {w:World} {K:Value→World→Prop} (h:Pw o=true) (c:U9 P l o w K): ∃v,K v w∧ ∀(w':World) b,(∀(i:Nat) o,w.heap[i]? =some o→w'.heap[i]? =some o)→b v w'→U9 P l o w' b:=by
 obtain ⟨d,p,m,pos,n,g⟩:=o
 cases p<;>(first | (simp[Pw] at h;done) | skip)<;>simp only[U9] at c⊢
 ·exact ⟨_,c,fun w' b _ a=>a⟩
 ·exact ⟨_,c,fun w' b _ a=>a⟩
 ·obtain ⟨v,w',f,e⟩:=Dj c
  obtain ⟨rfl,j⟩:=Q5R _ _ _ _ _ f
  exact ⟨v,e,fun w' b k a=>Da (j w' k) a⟩
 ·obtain ⟨v,w',f,e⟩:=Dj c
  obtain ⟨rfl,j⟩:=Hh _ _ _ _ _ _ f
  exact ⟨v,e,fun w' b k a=>Da (j w') a⟩
 ·obtain ⟨v,w',f,e⟩:=Dj c
  obtain ⟨rfl,j⟩:=Eo _ _ _ _ _ f
  exact ⟨v,e,fun w' b k a=>Da (j w') a⟩
theorem Q2t {γ δ:Type} {s:Sem γ} {f:γ→Sem δ} {w w':World} {v:δ} (h:(s>>=f).run P w= .ok v w'): ∃a w1,s.run P w= .ok a w1∧(f a).run P w1= .ok v w':=by
 rw[Sem.run_bind] at h
 cases b:s.run P w with
 | halt x w1=>rw[b] at h;simp[Result.andThen] at h
 | ok a w1=>rw[b] at h;exact ⟨a,w1,rfl,h⟩
theorem Q8U {γ:Type} {r:Unsupported}:Xx P (unsupported r:Sem γ):=fun w v w' h=>by simp[unsupported] at h
theorem Q4e {l:List Value} {o:Oper} {w:World} {K:Value→World→Prop} (h:Dz o=true) (r:U9 P l o w K): ∃v w',(∀(i:Nat) o,w.heap[i]? =some o→w'.heap[i]? =some o)∧K v w'∧ ∀e:Value→World→Prop,e v w'→U9 P l o w e:=by
 obtain ⟨d,p,B,pos,H,g⟩:=o
 cases p<;>(first | (simp[Dz] at h;done) | skip)
 simp only[U9] at r⊢
 obtain ⟨v,w',j,u⟩:=Dj r
 refine ⟨v,w',?_,u,fun e t=>Da j t⟩
 have a:=j
 unfold Instr.alloc zeroValue at a
 obtain ⟨z,w1,A,m⟩:=Q2t a
 have y:w1=w:=K9 (Cx _) (fun i=>by split;exact Zs _;exact Q8U) _ _ _ A
 subst y
 simp only at m
 obtain ⟨c,E,n,k⟩:=Q2t m
 simp only[Sem.run_pure,Result.ok.injEq] at k
 obtain ⟨_,rfl⟩:=k
 unfold newVar newRow at n
 obtain ⟨D,C,b,f⟩:=Q2t n
 simp only[Sem.run_pure,Result.ok.injEq] at f
 obtain ⟨_,rfl⟩:=f
 unfold newObj at b
 simp only[Sem.run,Result.ok.injEq] at b
 obtain ⟨_,rfl⟩:=b
 intro i o q
 have s:=(Array.getElem?_eq_some_iff.1 q).1
 simp only[Array.getElem?_push]
 rw[if_neg (by omega)]
 exact q
end
theorem Q4M {l:List Value} {o:Oper} {w:World} {K:Value→World→Prop} (h:Pw o=true) (e:U9 P l o w K): ∃v,K v w∧ ∀c,c v w→U9 P l o w c:=by
 obtain ⟨d,p,i,pos,j,g⟩:=o
 cases p<;>(first | (simp[Pw] at h;done) | skip)<;>simp only[U9] at e⊢
 ·exact ⟨_,e,fun c a=>a⟩
 ·exact ⟨_,e,fun c a=>a⟩
 ·obtain ⟨v,w',b,f⟩:=Dj e
  have:=Q4c _ _ _ _ _ b
  subst this
  exact ⟨v,f,fun c a=>Da b a⟩
 ·obtain ⟨v,w',b,f⟩:=Dj e
  have:=(Hh _ _ _ _ _ _ b).1
  subst this
  exact ⟨v,f,fun c a=>Da b a⟩
 ·obtain ⟨v,w',b,f⟩:=Dj e
  have:=(Eo _ _ _ _ _ b).1
  subst this
  exact ⟨v,f,fun c a=>Da b a⟩
theorem Q14 {l:List Value} {o:Oper} {w:World} {K:Value→World→Prop} (h:Q2l o=true) (c:U9 P l o w K): ∃v,K v w∧ ∀w' b,b v w'→U9 P l o w' b:=by
 obtain ⟨d,p,j,pos,k,g⟩:=o
 cases p<;>(first | (simp[Q2l] at h;done) | skip)<;>simp only[U9] at c⊢
 ·exact ⟨_,c,fun w' b a=>a⟩
 ·exact ⟨_,c,fun w' b a=>a⟩
 ·obtain ⟨v,w',f,e⟩:=Dj c
  obtain ⟨rfl,i⟩:=Hh _ _ _ _ _ _ f
  exact ⟨v,e,fun w' b a=>Da (i w') a⟩
 ·obtain ⟨v,w',f,e⟩:=Dj c
  obtain ⟨rfl,i⟩:=Eo _ _ _ _ _ f
  exact ⟨v,e,fun w' b a=>Da (i w') a⟩
end
structure Swap (ops : List Oper) (a b : Oper) : Prop where
  pa : T8 a.op = true
  pb : T8 b.op = true
  ga : a.guard = none
  ab : ∀ d, a.dst = some d → d ∉ N6 ops b ++ E2 b
  ba : ∀ d, b.dst = some d → d ∉ N6 ops a ++ E2 a
  dd : ∀ d, a.dst = some d → b.dst ≠ some d
  gb : ∀ j c, b.guard = some (j, c) → ((ops[j]?).bind (·.dst)).isSome = true
  rd : (Pw a = true ∧ (Pw b = true ∨ Dz b = true) ∧ b.guard = none ∨ Dz a = true ∧ Q2l b = true ∧ b.guard = none) ∨ Q2l a = true
section
variable {P : Program} {ops : List Oper} {J4 : List Value → World → Prop}
theorem Q0S {l:List Value} {d:Option Nat} {v:Value} {s:Nat} (h: ∀e,d=some e→e≠s):get (put l d v) s=get l s:=by
 cases d with
 | none=>rfl
 | some e=>simp only[put,get,List.getD_eq_getElem?_getD,List.getElem?_set_ne (h e rfl)]
theorem Q8n {l:List Value} {d e:Option Nat} {v u:Value} (h: ∀x,d=some x→e≠some x):put (put l d v) e u=put (put l e u) d v:=by
 cases d with
 | none=>rfl
 | some d=>cases e with
  | none=>rfl
  | some e=>simp only[put];exact List.set_comm _ _ (by intro a;subst a;exact h d rfl rfl)
theorem Q2H {o:Oper} {s:Nat} (a:Operand.tmp s∈o.op.operands):s∈E2 o:=by
 simp only[E2,List.mem_filterMap]
 exact ⟨.tmp s,by simpa using a,rfl⟩
theorem Q5I {a b:Oper} {R:List Oper} {l:List Value} {w:World} (U:Swap ops a b) (h:Y3 P ops J4 (a::b::R) l w):Y3 P ops J4 (b::a::R) l w:=by
 obtain ⟨pa,pb,Z,L,X,Y,O,M⟩:=U
 have r: ∀v,U9 P (put l a.dst v) b=U9 P l b:=fun v=>Nj pb fun x H=>by
  cases x with
  | tmp s=>exact Q0S fun e o g=>L e o (List.mem_append_right _ (g▸Q2H H))
  | _=>rfl
 have n: ∀v,U9 P (put l b.dst v) a=U9 P l a:=fun v=>Nj pa fun x H=>by
  cases x with
  | tmp s=>exact Q0S fun e o g=>X e o (List.mem_append_right _ (g▸Q2H H))
  | _=>rfl
 have m: ∀v u,put (put l b.dst u) a.dst v=put (put l a.dst v) b.dst u:=fun v u=>(Q8n Y).symm
 simp only[Y3,Z] at h⊢
 cases k:b.guard with
 | none=>
  simp only[k] at h⊢
  rcases M with (⟨A,rb | rb,_⟩ | ⟨A,W,_⟩) | fa
  ·obtain ⟨z,f,i⟩:=Q4M A h
   rw[r] at f
   obtain ⟨B,y,p⟩:=Q4M rb f
   refine p _ ?_
   rw[n]
   exact i _ (by rw[m];exact y)
  ·obtain ⟨z,f,i⟩:=Q7T A h
   rw[r] at f
   obtain ⟨B,Q,k,y,p⟩:=Q4e rb f
   refine p _ ?_
   rw[n]
   exact i Q _ k (by rw[m];exact y)
  ·obtain ⟨z,wa,k,f,i⟩:=Q4e A h
   rw[r] at f
   obtain ⟨B,y,p⟩:=Q14 W f
   refine p w _ ?_
   rw[n]
   exact i _ (by rw[m];exact y)
  ·obtain ⟨z,f,i⟩:=Q14 fa h
   rw[r] at f
   refine B2 (fun B w' D=>?_) f
   rw[n]
   exact i w' _ (by rw[m];exact D)
 | some q=>
  obtain ⟨j,c⟩:=q
  rcases M with (⟨_,_,t⟩ | ⟨_,_,t⟩) | fa
  ·rw[k] at t;cases t
  ·rw[k] at t;cases t
  obtain ⟨d,N⟩:=Option.isSome_iff_exists.1 (O j c k)
  have C:d∈N6 ops b:=by simp[N6,k,N]
  have V: ∀v,get (put l a.dst v) d=get l d:=fun v=>Q0S fun e o g=>L e o (List.mem_append_left _ (g▸C))
  simp only[k,N] at h⊢
  obtain ⟨z,f,i⟩:=Q14 fa h
  rw[r,V] at f
  refine Ty ((Uv f).imp (fun ⟨J,E⟩=>⟨J,B2 (fun B w' D=>?_) E⟩) (fun ⟨J,E⟩=>⟨J,?_⟩))
  ·rw[n];exact i w' _ (by rw[m];exact D)
  ·rw[n];exact i w _ (by rw[m];exact E)
theorem Q0r {a:Oper} {R i:List Oper} {l:List Value} {w:World} (b: ∀l w,Y3 P ops J4 R l w→Y3 P ops J4 i l w) (h:Y3 P ops J4 (a::R) l w):Y3 P ops J4 (a::i) l w:=by
 simp only[Y3] at h⊢
 cases m:a.guard with
 | none=>simp only[m] at h⊢;exact B2 (fun v w e=>b _ _ e) h
 | some q=>
  obtain ⟨j,c⟩:=q
  simp only[m] at h⊢
  cases k:(ops[j]?).bind (·.dst) with
  | none=>simp only[k] at h⊢;exact b _ _ h
  | some d=>
   simp only[k] at h⊢
   exact Ty ((Uv h).imp (fun ⟨g,f⟩=>⟨g,B2 (fun n w' e=>b _ _ e) f⟩) (fun ⟨g,f⟩=>⟨g,b _ _ f⟩))
theorem Ph {q:Oper} {R:List Oper}: ∀(A:List Oper) {l:List Value} {w:World},(∀a∈A,Swap ops a q)→Y3 P ops J4 (A++q::R) l w→Y3 P ops J4 (q::(A++R)) l w
 | [],_,_,_,h=>h
 | a::A,l,w,c,h=>Q5I (c a (by simp)) (Q0r (R:=A++q::R) (fun _ _ h=>Ph A (fun b d=>c b (by simp[d])) h) h)
theorem Wm: ∀(A:List Oper) {B:List Oper} {l:List Value} {w:World},Y3 P ops J4 (A++B) l w=Y3 P ops (fun l w=>Y3 P ops J4 B l w) A l w
 | [],B,l,w=>rfl
 | a::A,B,l,w=>by
  simp only[List.cons_append,Y3]
  split
  ·congr 1;funext v w;exact Wm A
  ·split
   ·congr 1;funext v w;exact Wm A
   ·exact Wm A
theorem Q7o {A B b:List Oper} {l:List Value} {w:World} (d: ∀l w,Y3 P ops J4 B l w→Y3 P ops J4 b l w): ∀{l:List Value} {w:World},Y3 P ops J4 (A++B) l w→Y3 P ops J4 (A++b) l w:=by
 induction A with
 | nil=>exact fun h=>d _ _ h
 | cons a A c=>exact fun h=>Q0r (fun _ _ h=>c h) h
theorem Q68 (os:List Oper) (bit:Nat→Nat→Bool) (r: ∀p q a b,p<q→os[p]? =some a→os[q]? =some b→bit p q=false→Swap ops a b):
 ∀(n:Nat) (J4:List Value→World→Prop) (L:List Nat) (l:List Value) (w:World),L.Nodup→L.length=n→(∀q∈L,q<n)→n≤os.length→L.Pairwise (fun q p=>p<q→bit p q=false)→
  Y3 P ops J4 (os.take n) l w→Y3 P ops J4 (L.filterMap (os[·]?)) l w
 | 0,J4,L,l,w,u,D,g,C,E,h=>by
  have:L=[]:=List.eq_nil_of_length_eq_zero D
  subst this;exact h
 | n+1,J4,L,l,w,u,D,g,C,E,h=>by
  have Q:n∈L:=Classical.byContradiction fun i=>by
   have U:=R9 n L u fun k H=>by
    have m:=g k H
    have M:k≠n:=fun e=>i (e▸H)
    omega
   omega
  obtain ⟨A,B,rfl⟩:=List.append_of_mem Q
  have d:n<os.length:=by omega
  have c:os[n]? =some os[n]:=List.getElem?_eq_getElem d
  have s:=List.nodup_append.1 u
  have z:n∉B:=(List.nodup_cons.1 s.2.1).1
  have y:n∉A:=fun e=>s.2.2 n e n (by simp) rfl
  have V:os.take (n+1)=os.take n++[os[n]]:=(List.take_append_getElem d).symm
  rw[V,Wm] at h
  have j: ∀q∈A++B,q<n:=fun q J=>by
   have U:q<n+1:=g q (by rcases List.mem_append.1 J with h | h<;>simp[h])
   have m:q≠n:=fun e=>by
    subst e
    rcases List.mem_append.1 J with h | h
    ·exact y h
    ·exact z h
   omega
  have f:(A++B).Sublist (A++n::B):=List.Sublist.append (List.Sublist.refl A) (List.sublist_cons_self n B)
  have m:=Q68 os bit r n _ (A++B) l w (u.sublist f) (by simp at D⊢;omega) j (by omega) (E.sublist f) h
  rw[←Wm] at m
  rw[List.filterMap_append,List.append_assoc] at m
  rw[List.filterMap_append,List.filterMap_cons,c]
  refine Q7o (l:=l) (w:=w) (fun l w M=>?_) m
  have:=Ph (R:=[]) (B.filterMap (os[·]?)) (fun a N=>?_) M
  ·rwa [List.append_nil] at this
  ·obtain ⟨p,o,v⟩:=List.mem_filterMap.1 N
   have t:=j p (List.mem_append_right _ o)
   refine r p n a _ t v c ?_
   have O:=(List.pairwise_append.1 E).2.1
   exact (List.pairwise_cons.1 O).1 p o t
end
def Q1g (ops:List Oper) (a b:Oper):Bool:=
 (match a.guard with | none=>true | some _=>false)&&(match b.guard with | none=>true | some (j,_)=>match (ops[j]?).bind (·.dst) with | some _=>true | none=>false)&&
  (((Pw a&&(Pw b||Dz b)||Dz a&&Q2l b)&&(match b.guard with | none=>true | some _=>false))||Q2l a)
def Q7u (ops:List Oper) (a:List Nat):Bool:=
 ops.any Q48&&ops.any Tk&&(List.range ops.length).all fun q=>(List.range q).all fun p=>H7 ops a p q||Q1g ops (ops.getD (a.getD p 0) default) (ops.getD (a.getD q 0) default)
theorem Mz {α:Type} {R:α→α→Prop}: ∀(a b:List α) {L:List α},L=b++a→(∀b q a,L=b++q::a→ ∀p∈a,R q p)→a.Pairwise R
 | [],_,_,_,_=>List.Pairwise.nil
 | q::a,b,L,c,h=>List.pairwise_cons.2 ⟨h b q a c,Mz a (b++[q]) (by rw[c];simp) h⟩
theorem Q2d {P:Program} {ops:Array Oper} {J4:List Value→World→Prop} {l0:List Value} {ord L:List Nat} {bit:Nat→Nat→Bool} (ha:Arr ops.toList ord L) (hosl:(Y5 ops.toList ord).length=ops.toList.length) (hn:Ql (O4 (Y5 ops.toList ord))=true) (hbit: ∀p q,H7 ops.toList ord p q=true→bit p q=true)
 (hsq: ∀p q,p<q→q<ops.toList.length→(bit p q||Q1g ops.toList (ops.toList.getD (ord.getD p 0) default) (ops.toList.getD (ord.getD q 0) default))=true) (hpair:L.Pairwise fun q p=>p<q→bit p q=false) (w:World)
 (h:Y3 P ops.toList J4 (Y5 ops.toList ord) l0 w):Y3 P ops.toList J4 (L.filterMap ((Y5 ops.toList ord)[·]?)) l0 w:=by
 refine Q68 (Y5 ops.toList ord) bit (fun p q a b' hpq hpa hqb hb=>?_) _ J4 L l0 w ha.hn rfl (fun q hq=>by rw[ha.hLl];exact ha.hlt q hq) (by rw[ha.hLl];exact Nat.le_refl _) hpair (by rw[ha.hLl,List.take_length];exact h)
 have hql:q<ops.toList.length:=by have:=(List.getElem?_eq_some_iff.1 hqb).1;omega
 have hpl:p<ops.toList.length:=by omega
 have hget: ∀i o,(Y5 ops.toList ord)[i]? =some o→ops.toList.getD (ord.getD i 0) default=o:=by
  intro i o hi
  unfold Y5 at hi
  rw[List.getElem?_map] at hi
  cases ho:ord[i]? with
  | none=>rw[ho] at hi;cases hi
  | some x=>
   rw[ho] at hi
   simp only[Option.map_some,Option.some.injEq] at hi
   rw[List.getD_eq_getElem?_getD (l:=ord),ho];exact hi
 have hnc:(K8 a b'||K8 b' a)=false:=by
  cases hx:K8 a b'||K8 b' a with
  | false=>rfl
  | true=>rw[hbit p q (ha.hclash p q a b' hpq hpa hqb hx)] at hb;cases hb
 rw[Bool.or_eq_false_iff] at hnc
 have hs:=hsq p q hpq hql
 rw[hb,Bool.false_or,hget p a hpa,hget q b' hqb] at hs
 simp only[Q1g,Bool.and_eq_true,Bool.or_eq_true] at hs
 obtain ⟨⟨g1,g2⟩,g3⟩:=hs
 have hga:a.guard=none:=by
  cases hx:a.guard with
  | none=>rfl
  | some _=>rw[hx] at g1;cases g1
 have c1: ∀d,a.dst=some d→d∉E2 b'∧b'.dst≠some d:=fun d hd=>by
  have:=hnc.1
  unfold K8 at this
  rw[hd] at this
  simp only[Bool.or_eq_false_iff] at this
  exact ⟨fun hm=>by simp[hm] at this,fun hm=>by simp[hm] at this⟩
 have c2: ∀d,b'.dst=some d→d∉E2 a:=fun d hd=>by
  have:=hnc.2
  unfold K8 at this
  rw[hd] at this
  simp only[Bool.or_eq_false_iff] at this
  exact fun hm=>by simp[hm] at this
 refine ⟨ha.hpl a (List.mem_of_getElem? hpa),ha.hpl b' (List.mem_of_getElem? hqb),hga,fun d hd'=>?_,fun d hd'=>?_,fun d hd'=>(c1 d hd').2,fun j c hbg=>?_,?_⟩
 ·rw[List.mem_append,not_or]
  refine ⟨fun hm=>?_,(c1 d hd').1⟩
  unfold N6 at hm
  cases hbg:b'.guard with
  | none=>rw[hbg] at hm;simp at hm
  | some q0=>
   obtain ⟨j,c⟩:=q0
   obtain ⟨p',hp',hpj,hbt⟩:=ha.hg q b' j c hqb hbg
   rw[hbg] at hm
   simp only at hm
   cases hjd:ops.toList[j]?.map (·.dst) with
   | none=>
    cases hj:ops.toList[j]? with
    | none=>rw[hj] at hm;simp at hm
    | some oj=>rw[hj] at hjd;cases hjd
   | some dj=>
    cases hj:ops.toList[j]? with
    | none=>rw[hj] at hjd;cases hjd
    | some oj=>
     rw[hj] at hm hpj
     simp only[Option.bind_some] at hm
     cases hdj:oj.dst with
     | none=>rw[hdj] at hm;simp at hm
     | some d2=>
      rw[hdj] at hm
      simp only[List.mem_singleton] at hm
      subst hm
      have:=Qx (Y5 ops.toList ord) hn p' p oj a d hpj hpa hdj hd'
      subst this
      rw[hbit _ _ hbt] at hb;cases hb
 ·rw[List.mem_append,not_or]
  exact ⟨fun hm=>by simp[N6,hga] at hm,c2 d hd'⟩
 ·rw[hbg] at g2
  simp only at g2
  cases hx:(ops.toList[j]?).bind (·.dst) with
  | none=>rw[hx] at g2;cases g2
  | some _=>rfl
 ·rcases g3 with ⟨g3,g5⟩ | g3
  ·have hn:b'.guard=none:=by
    cases hx:b'.guard with
    | none=>rfl
    | some _=>rw[hx] at g5;cases g5
   exact .inl (g3.imp (fun g=>⟨g.1,g.2,hn⟩) fun g=>⟨g.1,g.2,hn⟩)
  ·exact .inr g3
theorem X1z (P:Program) (ops:Array Oper) (J4:List Value→World→Prop) (k:List Value) (a:Jm ops.toList k.length=true) (c:Q7u ops.toList (L3 ops.toList)=true)
 (b:Bool) (t:Nat) (w:World) (h:Y3 P ops.toList J4 (Y5 ops.toList (L3 ops.toList)) k w):Y3 P ops.toList J4 ((Region.schedule b ops t).filterMap (ops[·]?)) k w:=by
 obtain ⟨L,j,i,e⟩:=Q36 a b t
 simp only[Jm,Bool.and_eq_true] at a
 obtain ⟨⟨⟨⟨⟨C,D⟩,B⟩,E⟩,⟨u,A⟩,z⟩,r⟩:=a
 generalize L3 ops.toList=d at*
 rw[j]
 refine Q2d i e B (bit:=H7 ops.toList d) (fun _ _ h=>h) (fun p q g n=>?_) ?_ w h
 ·simp only[Q7u,Bool.and_eq_true] at c
  exact List.all_eq_true.1 (List.all_eq_true.1 c.2 q (by simpa using n)) p (by simpa using g)
 ·refine Mz L [] (L:=L) rfl fun l q f m p s g=>?_
  cases v:H7 ops.toList d p q with
  | false=>rfl
  | true=>
   have y:=i.hC l q f m p v (i.hlt p (by rw[m];simp[s]))
   have o:=i.hn
   rw[m] at o
   exact absurd rfl ((List.nodup_append.1 o).2.2 p y p (by simp[s]))
def X1o (b:List Nat) (a c:Nat):List Nat:=((b.erase a).takeWhile (· !=c))++a::((b.erase a).dropWhile (· !=c))
def Q4f (ops:List Oper) (d b:List Nat) (a c:Nat):Bool:=
 Q3A ops b&&Ql (O4 (Y5 ops b))&&
  ((List.range ops.length).all fun q=>(List.range q).all fun p=>(H7 ops d p q||(d.getD p 0==c&&d.getD q 0==a))||Q1g ops (ops.getD (d.getD p 0) default) (ops.getD (d.getD q 0) default))&&
  ((List.range ops.length).all fun q=>(List.range q).all fun p=>(H7 ops b p q||(b.getD p 0==a&&b.getD q 0==c))||Q1g ops (ops.getD (b.getD p 0) default) (ops.getD (b.getD q 0) default))
def Q6L (ops:List Oper):Option (List Nat):=
 match ops.any Q48&&ops.any Tk&&ops.any Dz with
 | true=>match ops.findIdx Dz !=ops.findIdx Tk&&Q4f ops (L3 ops) (X1o (L3 ops) (ops.findIdx Dz) (ops.findIdx Tk)) (ops.findIdx Dz) (ops.findIdx Tk) with
  | true=>some (X1o (L3 ops) (ops.findIdx Dz) (ops.findIdx Tk))
  | false=>none
 | false=>none
theorem Q9I {ops:Array Oper} {a g:List Nat} {x y:Nat} (U:g.Nodup) (z: ∀i∈g,i<ops.toList.length∧a.getD (a.idxOf i) 0=i) (m:Arr ops.toList a (g.map (a.idxOf ·))) (n: ∀e t c,g≠e++y::(t++x::c)):
 (g.map (a.idxOf ·)).Pairwise fun q p=>p<q→(H7 ops.toList a p q||(a.getD p 0==x&&a.getD q 0==y))=false:=by
 refine Mz _ [] (L:=g.map (a.idxOf ·)) rfl fun e q c b p l Q=>?_
 rw[Bool.or_eq_false_iff]
 constructor
 ·cases D:H7 ops.toList a p q with
  | false=>rfl
  | true=>
   have j:=m.hC e q c b p D (m.hlt p (by rw[b];simp[l]))
   have f:=m.hn
   rw[b] at f
   exact absurd rfl ((List.nodup_append.1 f).2.2 p j p (by simp[l]))
 ·rw[Bool.and_eq_false_iff]
  refine Classical.byContradiction fun d=>?_
  rw[not_or] at d
  obtain ⟨j,f⟩:=d
  have j:a.getD p 0=x:=by simpa using j
  have f:a.getD q 0=y:=by simpa using f
  rw[List.map_eq_append_iff] at b
  obtain ⟨h,u,C,_,A⟩:=b
  rw[List.map_eq_cons_iff] at A
  obtain ⟨i,r,J,M,s⟩:=A
  rw[←s,List.mem_map] at l
  obtain ⟨k,H,o⟩:=l
  obtain ⟨E,O,R⟩:=List.append_of_mem H
  subst J C R
  have v:=(z i (by simp)).2
  have w:=(z k (by simp)).2
  rw[M] at v
  rw[o] at w
  have B:i=y:=by rw[←v];exact f
  have N:k=x:=by rw[←w];exact j
  subst B N
  exact n h E O rfl
theorem X0N (P:Program) (ops:Array Oper) (J4:List Value→World→Prop) (D:List Value) (C:Jm ops.toList D.length=true) {d:List Nat} {a c:Nat} (ab:a≠c) (r:Q4f ops.toList (L3 ops.toList) d a c=true)
 (b:Bool) (t:Nat) (w:World) (h1:Y3 P ops.toList J4 (Y5 ops.toList (L3 ops.toList)) D w) (h2:Y3 P ops.toList J4 (Y5 ops.toList d) D w):Y3 P ops.toList J4 ((Region.schedule b ops t).filterMap (ops[·]?)) D w:=by
 simp only[Jm,Bool.and_eq_true] at C
 obtain ⟨⟨⟨⟨⟨R,V⟩,hn⟩,hd⟩,⟨o,A⟩,z⟩,v⟩:=C
 simp only[Q4f,Bool.and_eq_true] at r
 obtain ⟨⟨⟨k,O⟩,N⟩,E⟩:=r
 by_cases u: ∃g i f,Region.schedule b ops t=g++a::(i++c::f)
 ·obtain ⟨M,s,J,B,H⟩:=Fk R V o A z k b t
  rw[M]
  refine Q2d s J O (bit:=fun p q=>H7 ops.toList d p q||(d.getD p 0==a&&d.getD q 0==c)) (fun p q h=>by rw[h];rfl) (fun p q l j=>?_) (Q9I B H s fun g i f e=>?_) w h2
  ·exact List.all_eq_true.1 (List.all_eq_true.1 E q (by simpa using j)) p (by simpa using l)
  ·obtain ⟨U,W,Q,X⟩:=u
   have n: ∀{L p m q:List Nat} {x y:Nat},L=p++x::(m++y::q)→L[p.length]? =some x∧L[p.length+1+m.length]? =some y∧p.length+1+m.length<L.length:=by
    rintro L p m q x y rfl
    refine ⟨by simp,?_,by simp;omega⟩
    rw[List.getElem?_append_right (by omega),show p.length+1+m.length-p.length=m.length+1 by omega,List.getElem?_cons_succ]
    simp
   obtain ⟨g1,g2,g3⟩:=n e
   obtain ⟨Z,Y,g6⟩:=n X
   have k1:=(List.getElem?_inj (by omega) B).1 (g1.trans Y.symm)
   have k2:=(List.getElem?_inj (by omega) B).1 (g2.trans Z.symm)
   omega
 ·obtain ⟨M,s,J,B,H⟩:=Fk R V o A z v b t
  rw[M]
  refine Q2d s J hn (bit:=fun p q=>H7 ops.toList (L3 ops.toList) p q||((L3 ops.toList).getD p 0==c&&(L3 ops.toList).getD q 0==a)) (fun p q h=>by rw[h];rfl) (fun p q l j=>?_) (Q9I B H s fun g i f e=>u ⟨g,i,f,e⟩) w h1
  exact List.all_eq_true.1 (List.all_eq_true.1 N q (by simpa using j)) p (by simpa using l)
theorem X1n (P:Program) (ops:Array Oper) (J4:List Value→World→Prop) (d:List Value) (f:Jm ops.toList d.length=true) {a:List Nat} (c:Q6L ops.toList=some a)
 (b:Bool) (t:Nat) (w:World) (h:Y3 P ops.toList J4 (Y5 ops.toList (L3 ops.toList)) d w∧Y3 P ops.toList J4 (Y5 ops.toList a) d w):Y3 P ops.toList J4 ((Region.schedule b ops t).filterMap (ops[·]?)) d w:=by
 unfold Q6L at c
 split at c
 ·split at c
  ·rename_i e
   cases c
   rw[Bool.and_eq_true] at e
   exact X0N P ops J4 d f (by simpa using e.1) e.2 b t w h.1 h.2
  ·cases c
 ·cases c
theorem Q9P: ∃f:World→(World→Prop)→Prop,f=fun w A=>A w.drew:=⟨_,rfl⟩
noncomputable def sq:World→(World→Prop)→Prop:=Classical.choose Q9P
theorem Q9W:sq=fun w A=>A w.drew:=Classical.choose_spec Q9P
def Q3x:List Ent→Nat→Ent→(List Ent→Prop)→Prop
 | [],_,_,k=>k []
 | _::l,0,e,k=>k (e::l)
 | x::l,n+1,e,k=>Q3x l n e (fun l'=>k (x::l'))
def Q1L (S:List Ent) (d:Option Nat) (e:Ent) (k:List Ent→Prop):Prop:=
 match d with
 | some d=>Q3x S d e k
 | none=>k S
def Q77:List Ent→Nat→(Ent→Prop)→Prop
 | [],_,k=>k (.val undef)
 | x::_,0,k=>k x
 | _::l,n+1,k=>Q77 l n k
def Q84 (S:List Ent) (x:Operand) (k:Ent→Prop):Prop:=
 match x with
 | .tmp t=>Q77 S t k
 | .const v=>k (.val v)
 | .global g=>k (.val (.pointer (some ⟨g,0,none⟩)))
 | .func f=>k (.val (.func (.func f) #[] #[]))
def Az (u:Nat→Value):List Ent→(List Value→Prop)→Prop
 | [],k=>k []
 | .val v::S,k=>Az u S (fun l=>k (v::l))
 | .ref j::S,k=>Az u S (fun l=>k (u j::l))
def Q47:List Value→(List Ent→Prop)→Prop
 | [],k=>k []
 | v::l,k=>Q47 l (fun S=>k (.val v::S))
theorem Q3I: ∀(S:List Ent) (n:Nat) (e:Ent) (k:List Ent→Prop),Q3x S n e k=k (Q0P S n e)
 | [],_,_,_=>rfl
 | _::_,0,_,_=>rfl
 | _::l,n+1,e,k=>by simp only[Q3x,Q0P,Q3I l n e]
theorem Q0W (S:List Ent) (d:Option Nat) (e:Ent) (k:List Ent→Prop):Q1L S d e k=k (putE S d e):=by
 cases d with
 | none=>rfl
 | some d=>exact Q3I S d e k
theorem Q49: ∀(S:List Ent) (n:Nat) (k:Ent→Prop),Q77 S n k=k (getE S n)
 | [],_,_=>rfl
 | _::_,0,_=>rfl
 | _::l,n+1,k=>Q49 l n k
theorem Q8j (S:List Ent) (x:Operand) (k:Ent→Prop):Q84 S x k=k (entOf S x):=by
 cases x with
 | tmp t=>exact Q49 S t k
 | _=>rfl
theorem Q10 (u:Nat→Value): ∀(S:List Ent) (k:List Value→Prop),Az u S k=k (F9 u S)
 | [],_=>rfl
 | .val v::S,k=>by simp only[Az,Q10 u S];rfl
 | .ref j::S,k=>by simp only[Az,Q10 u S];rfl
theorem Q25: ∀(l:List Value) (k:List Ent→Prop),Q47 l k=k (l.map .val)
 | [],_=>rfl
 | v::l,k=>by simp only[Q47,Q25 l];rfl
noncomputable def Lb (P:Program) (r:Bool) (ops:List Oper) (T:World→World→Prop) (B:World→Prop) (J4:List Value→World→Prop) (tail:List Oper):Nat→List Oper→List Ent→Ex→List Nat→Prop
 | _,[],S,b,done=>Ev done (fun _=>undef) fun u=>Rt r fun c=> ∀w,B w→Ax b u c w (Az u S fun l=>B8 P ops J4 tail l w) done
 | i,o::a,S,b,done=>
  match mv o with
  | some x=>Q84 S x fun e=>Q1L S o.dst e fun S=>Lb P r ops T B J4 tail (i+1) a S b done
  | none=>match Q48 o with
   | true=>Q19 T (fun φ=>Ev (refs ops S o) (fun _=>undef) fun u=>Rt r fun c=> ∀w,B w→Ez b u c w (runOp P ops (F9 u S) o w (dk T (φ ((refs ops S o).map u)) w)) (refs ops S o))
    (fun φ=>Q1L S o.dst (.ref i) fun d=>Lb P r ops T B J4 tail (i+1) a d (b++[(i,refs ops S o,fun xs (_:Iv)=>φ xs)]) (done++[i]))
   | false=>match Q6H r o with
    | true=>Q2i T (fun φ=>Ev (refs ops S o) (fun _=>undef) fun u=>Rt r fun c=> ∀w,B w→Ez b u c w (runOp P ops (F9 u S) o w (dkR T φ w)) (refs ops S o))
     (fun φ=>Q1L S o.dst (.ref i) fun d=>Lb P r ops T B J4 tail (i+1) a d (b++[(i,[],fun (_:List Value)=>φ)]) (done++[i]))
    | false=>Q7 T (fun φ=>Ev (refs ops S o) (fun _=>undef) fun u=>Rt r fun c=> ∀w,B w→Ez b u c w (runOp P ops (F9 u S) o w (dk T φ w)) (refs ops S o))
     (fun φ=>Q1L S o.dst (.ref i) fun d=>Lb P r ops T B J4 tail (i+1) a d (b++[(i,[],fun (_:List Value) (_:Iv)=>φ)]) (done++[i]))
theorem Nx (P:Program) (r:Bool) (ops:List Oper) (T:World→World→Prop) (B:World→Prop) (J4:List Value→World→Prop) (tail:List Oper): ∀(a:List Oper) (i:Nat) (S:List Ent) (b:Ex) (done:List Nat),
 Lb P r ops T B J4 tail i a S b done=chain P r ops T B J4 tail i a S b done
 | [],i,S,b,done=>by simp only[Lb,chain,Q10]
 | o::a,i,S,b,done=>by
  simp only[Lb,chain]
  split
  ·rw[Q8j,Q0W,Nx]
  ·split
   ·congr 1
    funext φ
    rw[Q0W,Nx]
   ·split<;>
    ·congr 1
     funext φ
     rw[Q0W,Nx]
def X29 (ops:List Oper):Bool:=ops.any fun o=>(match o.op with | .build .. =>true | _=>false)&&decide (2≤((E2 o).filter fun s=>ops.any fun c=>Tk c&&c.dst==some s).length)
noncomputable def Q8B (P:Program) (ops:List Oper) (J4:List Value→World→Prop) (l:List Value) (w:World):Prop:=
 drR w fun T B=>Q47 l fun S=>Lb P true ops T B J4 ((Y5 ops (L3 ops)).drop (Ws ops (L3 ops) ops.length)) 0 ((Y5 ops (L3 ops)).take (Ws ops (L3 ops) ops.length)) S [] []
noncomputable def Q9M (P:Program) (ops:List Oper) (J4:List Value→World→Prop) (l:List Value) (w:World):Prop:=
 dr w fun T B=>Q47 l fun S=>Lb P false ops T B J4 ((Y5 ops (L3 ops)).drop (Ws ops (L3 ops) ops.length)) 0 ((Y5 ops (L3 ops)).take (Ws ops (L3 ops) ops.length)) S [] []
def Q02 (a b:List Nat):Bool:=a.all (b.contains ·)&&b.all (a.contains ·)
theorem Ec {a b:List Nat} (h:Q02 a b=true) (i:Nat):a.contains i=b.contains i:=by
 simp only[Q02,Bool.and_eq_true,List.all_eq_true] at h
 rw[Bool.eq_iff_iff]
 constructor
 ·intro c;exact h.1 i (by simpa using c)
 ·intro c;exact h.2 i (by simpa using c)
abbrev V1:=List (Option (List Nat×List Nat))
def V1.slots (a:V1):List (Option (List Nat)):=a.map (·.map (·.1))
theorem V1.slots_get (a:V1) (k:Nat):a.slots.getD k none=(a.getD k none).map (·.1):=by
 simp only[V1.slots,List.getD_eq_getElem?_getD,List.getElem?_map]
 cases a[k]? <;>rfl
noncomputable def Un (P:Program) (b:V1) (a:List (Option (List Nat))):Nat→Code→Oj→List Value→World→Prop
 | _, .skip,Q,l,w=>Q .normal l w
 | _, .label _,Q,l,w=>Q .normal l w
 | _, .exit id,Q,l,w=>Q (.exit id) l w
 | _, .ret,Q,l,w=>Q .ret l w
 | _, .region _ ops false,Q,l,w=>B8 P ops.toList (fun l w=>Q .normal l w) ops.toList l w
 | _, .region _ ops true,Q,l,w=>match Jm ops.toList l.length with
  | true=>match Q7u ops.toList (L3 ops.toList) with
   | true=>sq w fun w=>B8 P ops.toList (fun l w=>Q .normal l w) (Y5 ops.toList (L3 ops.toList)) l w
   | false=>match Q6L ops.toList with
    | some h=>sq w fun w=>B8 P ops.toList (fun l w=>Q .normal l w) (Y5 ops.toList (L3 ops.toList)) l w∧B8 P ops.toList (fun l w=>Q .normal l w) (Y5 ops.toList h) l w
    | none=>match X29 ops.toList with
     | true=>Q8B P ops.toList (fun l w=>Q .normal l w) l w
     | false=>Q9M P ops.toList (fun l w=>Q .normal l w) l w
  | false=>False
 | k, .seq x y,Q,l,w=>match b.getD k none with
  | none=>Un P b a (k+1) x (thn (fun l w=>Un P b a (k+1+K6 x) y Q l w) Q) l w
  | some (f,g)=>match Q02 g (W8 a (k+1) x) with
   | true=>jn w (fun J w=>Un P b a (k+1) x (thn (fun l' w'=>J (Lw l' f) w') Q) l w)
    (fun z d w=>Sv f g z d 0 l fun l=>Un P b a (k+1+K6 x) y Q l w)
   | false=>False
 | k, .cond c x y,Q,l,w=>X1 (ev l c) (Un P b a k x Q l w) (Un P b a (k+K6 x) y Q l w)
 | k, .block id c,Q,l,w=>Un P b a k c (Q1r id Q) l w
 | k, .loop c,Q,l,w=>match b.getD k none with
  | none=>False
  | some (f,g)=>match Q02 g (W8 a (k+1) c) with
   | true=>lp (Lw l f) w (fun e x d w=>Sv f g x d 0 l fun l=>Un P b a (k+1) c (thn (fun l' w'=>e (Lw l' f) w') Q) l w)
   | false=>False
 | _,_,_,_,_=>False
theorem Td {next a:List Value→World→Prop} {Q b:Oj} (d: ∀l w,next l w→a l w) (c: ∀e l w,Q e l w→b e l w): ∀e l w,thn next Q e l w→thn a b e l w:=by
 intro e l w h;cases e<;>first | exact d _ _ h | exact c _ _ _ h
theorem Q95 (P:Program) (q:V1) (c:Code): ∀(k:Nat) (Q j:Oj) (l:List Value) (w:World),(∀e l w,Q e l w→j e l w)→
 Un P q q.slots k c Q l w→Mn P q.slots k c j l w:=by
 induction c with
 | skip=>intro k Q j l w g h;exact g _ _ _ h
 | label n=>intro k Q j l w g h;exact g _ _ _ h
 | exit id=>intro k Q j l w g h;exact g _ _ _ h
 | ret=>intro k Q j l w g h;exact g _ _ _ h
 | goto n=>intro k Q j l w g h;exact h.elim
 | refuse s=>intro k Q j l w g h;exact h.elim
 | scope c=>intro k Q j l w g h;exact h.elim
 | rangeFunc f p a b=>intro k Q j l w g h;exact h.elim
 | region id ops A=>
  intro k Q j l w g h
  cases A with
  | true=>
   simp only[Un] at h
   split at h
   ·rename_i r
    intro t
    have C:Y3 P ops.toList (fun l w=>Q .normal l w) ((Region.schedule (P.follows .mixedOrders) ops t).filterMap (ops[·]?)) l w.drew:=by
     split at h
     ·rename_i H
      simp only[Q9W,Db] at h
      exact X1z P ops _ l r H _ t _ h
     ·split at h
      ·rename_i aa L
       simp only[Q9W,Db] at h
       exact X1n P ops _ l r L _ t _ h
      ·split at h
       ·simp only[Q8B,Q8a,Q4h,Q25,Nx] at h
        obtain ⟨T,B,V,W,hM,h⟩:=h
        exact Q6o P true ops T B _ l r W hM h (P.follows .mixedOrders) t w.drew V
       ·simp only[Q9M,X03,Q7t,Q25,Nx] at h
        obtain ⟨T,B,V,W,h⟩:=h
        exact Q6o P false ops T B _ l r W (fun _ _ _=>Nat.le_refl _) h (P.follows .mixedOrders) t w.drew V
    refine Ym P _ _ _ (O4 ops.toList) l _ _ _ ?_ (I6.refl _ _) (fun l w X _=>g _ _ _ X) C
    intro o E d C
    simp only[List.mem_filterMap] at E
    obtain ⟨i,_,hi⟩:=E
    simp only[O4,List.contains_eq_mem,List.mem_filterMap,decide_eq_true_eq]
    exact ⟨o,by simpa using Array.mem_of_getElem? hi,C⟩
   ·exact h.elim
  | false=>
   simp only[Un] at h
   rw[Db] at h
   refine Ym P _ _ _ (O4 ops.toList) l _ _ _ ?_ (I6.refl _ _) (fun l w X _=>g _ _ _ X) h
   intro o E d C
   simp only[O4,List.contains_eq_mem,List.mem_filterMap,decide_eq_true_eq]
   exact ⟨o,E,C⟩
 | seq x y m u=>
  intro k Q j l w g h
  simp only[Un,Mn] at h⊢
  rw[V1.slots_get]
  split at h
  ·rename_i v
   simp only[v,Option.map_none]
   exact m _ _ _ _ _ (Td (fun l w h=>u _ _ _ _ _ g h) g) h
  ·rename_i Y wr v
   simp only[v,Option.map_some]
   split at h
   ·rename_i O
    obtain ⟨J,h1,L⟩:=Q40 h
    refine Zq J (m _ _ _ _ _ (Td (fun l w h=>h) g) h1) fun z d w hz=>?_
    have h3:=L z d w hz
    rw[Q2S,Ra _ _ _ (Ec O)] at h3
    exact u _ _ _ _ _ g h3
   ·exact h.elim
 | cond c x y m u=>
  intro k Q j l w g h
  exact Q3e (m k _ _ _ _ g) (u _ _ _ _ _ g) h
 | block id c N=>
  intro k Q j l w g h
  refine N k _ _ _ _ ?_ h
  intro e l' w' D
  cases e with
  | exit af=>simp only[Q1r] at D⊢;split<;>rename_i U<;>simp only[U,if_true,if_false] at D<;>exact g _ _ _ D
  | _=>exact g _ _ _ D
 | loop c N=>
  intro k Q j l w g h
  simp only[Un,Mn] at h⊢
  split at h
  ·exact h.elim
  ·rename_i Y wr v
   have R:(q.slots.getD k none).getD []=Y:=by rw[V1.slots_get,v];rfl
   split at h
   ·rename_i O
    subst R
    refine Q2D (fun M x d w Z=>?_) h
    rw[Q2S,Ra _ _ _ (Ec O)] at Z
    exact N _ _ _ _ _ (Td (fun l w h=>h) g) Z
   ·exact h.elim
def Q1o (P:Program) (t:TypeId) (a:Value) (w:World) (K:Value→Prop):Prop:= ∃v,(do loadVar t (←asAddr a):Sem Value).run P w= .ok v w∧K v
theorem Q1O: ∃f:Program→TypeId→Value→World→(Value→Prop)→Prop,f=Q1o:=⟨_,rfl⟩
noncomputable def V4:Program→TypeId→Value→World→(Value→Prop)→Prop:=Classical.choose Q1O
theorem Q1s:V4=Q1o:=Classical.choose_spec Q1O
noncomputable def Q4N (P:Program) (l:List Value) (K:List Value→World→Prop):List ResultVar→List Value→World→Prop
 | [],b,w=>K b.reverse w
 | .tmp t::c,b,w=>Q4N P l K c (get l t::b) w
 | .cell a t::c,b,w=>V4 P t (get l a) w fun v=>Q4N P l K c (v::b) w
def Q1R:List Value→Value
 | [v]=>v
 | vs=> .tuple vs.toArray
noncomputable def results (P:Program) (a:List ResultVar) (K:Value→World→Prop) (l:List Value) (w:World):Prop:=
 Q4N P l (fun vs w=>K (Q1R vs) w) a [] w
noncomputable def Q7d (P:Program) (fn:Func) (K:Value→World→Prop):Oj
 | .normal,l,w | .ret,l,w=>results P fn.results.toList K l w
 | _,_,_=>False
def Q9B (K:Value→World→Prop) (e:Ending) (w:World):Prop:=match e with | .returned v=>K v w | _=>False
theorem Q4o (a:Array Value) (t:Nat):a.getD t undef=get a.toList t:=by
 simp[get,List.getD_eq_getElem?_getD]
theorem Q8i (vs:List Value):(if h:vs.toArray.size=1 then vs.toArray[0] else Value.tuple vs.toArray)=Q1R vs:=by
 match vs with
 | []=>rfl
 | [v]=>rfl
 | _::_::_=>rfl
theorem Q1b (P:Program) (l:List Value) (K:List Value→World→Prop) (f:ResultVar→Sem Value)
 (d: ∀t,f (.tmp t)=Pure.pure (get l t)) (c: ∀a t,f (.cell a t)=(do loadVar t (←asAddr (get l a)))): ∀(e:List ResultVar) (b:List Value) (w:World),Q4N P l K e b w→
 ∃vs,(e.mapM f).run P w= .ok vs w∧K (b.reverse++vs) w
 | [],b,w,h=>⟨[],by simp,by rw[List.append_nil];exact h⟩
 | .tmp t::e,b,w,h=>by
  obtain ⟨vs,g,i⟩:=Q1b P l K f d c e _ w h
  refine ⟨get l t::vs,?_,by simpa using i⟩
  rw[List.mapM_cons,d]
  simp[g]
 | .cell a t::e,b,w,h=>by
  simp only[Q4N,Q1s] at h
  obtain ⟨v,j,h⟩:=h
  obtain ⟨vs,g,i⟩:=Q1b P l K f d c e _ w h
  refine ⟨v::vs,?_,by simpa using i⟩
  rw[List.mapM_cons,c,Sem.run_bind,j]
  simp[g]
def X1c (a:Array Value):ResultVar→Sem Value
 | .tmp t=>Pure.pure (a.getD t undef)
 | .cell b t=>do loadVar t (←asAddr (a.getD b undef))
theorem Q4p (fn:Func) (a:Array Value):Go.results fn a=(do
 let vs←fn.results.mapM (X1c a)
 Pure.pure (if h:vs.size=1 then vs[0] else .tuple vs)):=by
 unfold Go.results
 congr 1
theorem Q0H (P:Program) (fn:Func) (K:Value→World→Prop) (a:Array Value) (w:World) (h:results P fn.results.toList K a.toList w):
 ∃v,(Go.results fn a).run P w= .ok v w∧K v w:=by
 rw[Q4p,Array.mapM_eq_mapM_toList]
 obtain ⟨vs,b,c⟩:=Q1b P a.toList (fun vs w=>K (Q1R vs) w) (X1c a) (fun t=>by rw[←Q4o];rfl) (fun d t=>by rw[←Q4o];rfl) fn.results.toList [] w h
 refine ⟨Q1R vs,?_,by simpa using c⟩
 rw[Sem.run_bind,Sem.run_map,b]
 simp only[Result.andThen_ok,Sem.run_pure,Q8i]
def Pt (fn:Func) (a:List Value):List Value:=a++List.replicate (fn.ntmps-a.length) undef
theorem Q3K {P:Program} {f:FuncId} {fn:Func} {c:Code} {b:List Value} {w:World} {K:Value→World→Prop} (d:List (Option (List Nat)))
 (k:P.funcs[f]? =some fn) (j:fn.body=some c) (h:Mn P d 0 c (Q7d P fn K) (Pt fn b) w):Calls P f b.toArray w (Q9B K):=by
 refine calls_of_wp k j (wp_mono (Q8I P d c 0 (Q7d P fn K) _ w rfl ?_) ?_)
 ·have:(b.toArray++Array.replicate (fn.ntmps-b.toArray.size) undef).toList=Pt fn b:=by simp[Pt]
  simp only[this];exact h
 ·intro e a w ⟨i,g⟩
  cases e with
  | normal=>exact ⟨i,Q0H P fn K _ _ g⟩
  | ret=>exact ⟨i,Q0H P fn K _ _ g⟩
  | _=>exact g.elim
theorem Um {P:Program} {f:FuncId} {fn:Func} {a:List Value} {w:World} {K:Value→World→Prop}
 (j:P.funcs[f]? =some fn) (d:fn.body.isSome=true) (i:(fn.name== "runtime.NumGoroutine")=false) (h:Calls P f a.toArray w (Q9B K)):Q0 P f a w K:=by
 have k:(callFunc f a.toArray).run P w= .ok (.enter f a.toArray) w:=by
  unfold callFunc
  simp only[Sem.run_bind,run_program,Result.andThen_ok,j,i,Bool.false_eq_true,if_false]
  cases b:fn.body with
  | none=>rw[b] at d;cases d
  | some c=>simp
 unfold Q0
 rw[Qr]
 unfold T6
 rw[k]
 refine h.mono fun e w' g=>?_
 cases e<;>exact g
theorem Q23 {P:Program} {f:FuncId} {fn:Func} {a:List Value} {w:World} {K:Value→World→Prop}
 (j:P.funcs[f]? =some fn) (d:fn.body.isSome=true) (i:(fn.name== "runtime.NumGoroutine")=false) (h:Q0 P f a w K):Calls P f a.toArray w (Q9B K):=by
 have k:(callFunc f a.toArray).run P w= .ok (.enter f a.toArray) w:=by
  unfold callFunc
  simp only[Sem.run_bind,run_program,Result.andThen_ok,j,i,Bool.false_eq_true,if_false]
  cases b:fn.body with
  | none=>rw[b] at d;cases d
  | some c=>simp
 unfold Q0 at h
 rw[Qr] at h
 unfold T6 at h
 rw[k] at h
 refine Calls.mono h fun e w' g=>?_
 cases e<;>exact g
theorem X0D {P:Program} {f:FuncId} {fn:Func} {b:List Value} {w:World} {K:Value→World→Prop} (a:V1)
 (g:P.funcs[f]? =some fn) (e:fn.body.isSome=true) (i:(fn.name== "runtime.NumGoroutine")=false)
 (h:Un P a a.slots 0 (fn.body.getD .skip) (Q7d P fn K) (Pt fn b) w):Q0 P f b w K:=by
 refine Um g e i ?_
 obtain ⟨c,d⟩:=Option.isSome_iff_exists.1 e
 rw[d] at h
 exact Q3K a.slots g d (Q95 P a c 0 _ _ _ _ (fun _ _ _ h=>h) h)
theorem Q9 {P:Program} {f:FuncId} {fn:Func} {a:List Value} {w:World} {K:Value→World→Prop} {g:Prop} (b:V1)
 (i:P.funcs[f]? =some fn) (d:fn.body.isSome=true) (e:(fn.name== "runtime.NumGoroutine")=false)
 (c:g=Un P b b.slots 0 (fn.body.getD .skip) (Q7d P fn K) (Pt fn a) w) (h:g):Q0 P f a w K:=
 X0D b i d e (c▸h)
theorem Y8 {P:Program} {f:FuncId} {first caps:List Value} {a:List Value} {w:World} {K:Value→World→Prop} (h:Q0 P f (first++a++caps) w K):Z0 P (.func (.func f) first.toArray caps.toArray) a w K:=by
 simpa [Z0,Q0,Deferred.ofValue,invoke,pure_bind,List.append_toArray] using h
end Go.Emb

namespace Go.Proofs.YtfppjenblllfaaaGreatDoor
noncomputable abbrev P : Program := Tryz.prog
namespace F
abbrev bN : Nat := 7
abbrev ax : Nat := 10
abbrev ac : Nat := 11
abbrev br : Nat := 12
abbrev aD : Nat := 13
abbrev w : Nat := 15
abbrev c3 : Nat := 16
abbrev b3 : Nat := 18
abbrev cL : Nat := 19
abbrev n : Nat := 20
abbrev cE : Nat := 25
abbrev av : Nat := 26
abbrev bs : Nat := 27
abbrev bG : Nat := 28
abbrev aE : Nat := 29
abbrev aF : Nat := 31
abbrev a1 : Nat := 32
abbrev aV : Nat := 34
abbrev b : Nat := 35
abbrev co : Nat := 36
abbrev ak : Nat := 37
abbrev bj : Nat := 38
abbrev a2 : Nat := 39
abbrev ad : Nat := 40
abbrev k : Nat := 41
abbrev cp : Nat := 44
abbrev ca : Nat := 45
abbrev cb : Nat := 46
abbrev aW : Nat := 47
abbrev o : Nat := 48
abbrev b4 : Nat := 49
abbrev b5 : Nat := 50
abbrev aR : Nat := 51
abbrev b6 : Nat := 52
abbrev b7 : Nat := 53
abbrev c : Nat := 54
abbrev aX : Nat := 55
abbrev aA : Nat := 56
abbrev aN : Nat := 57
abbrev aS : Nat := 58
abbrev aa : Nat := 59
abbrev h : Nat := 60
abbrev bk : Nat := 61
abbrev ae : Nat := 62
abbrev bt : Nat := 63
abbrev aQ : Nat := 64
abbrev ce : Nat := 65
abbrev c7 : Nat := 66
abbrev cq : Nat := 67
abbrev cf : Nat := 68
abbrev cF : Nat := 69
abbrev bu : Nat := 70
abbrev a3 : Nat := 71
abbrev ay : Nat := 72
abbrev cg : Nat := 73
abbrev cG : Nat := 74
abbrev c4 : Nat := 75
abbrev cr : Nat := 76
abbrev ch : Nat := 77
abbrev ci : Nat := 78
abbrev c8 : Nat := 79
abbrev cy : Nat := 80
abbrev cs : Nat := 81
abbrev cz : Nat := 82
abbrev cj : Nat := 83
abbrev ck : Nat := 84
abbrev c9 : Nat := 85
abbrev b8 : Nat := 86
abbrev cM : Nat := 87
abbrev bP : Nat := 88
abbrev ag : Nat := 89
abbrev cH : Nat := 90
abbrev c5 : Nat := 91
abbrev af : Nat := 92
abbrev ct : Nat := 94
abbrev cc : Nat := 95
abbrev a7 : Nat := 96
abbrev bH : Nat := 97
abbrev aT : Nat := 98
abbrev u : Nat := 99
abbrev bI : Nat := 100
abbrev d : Nat := 101
abbrev v : Nat := 102
abbrev az : Nat := 103
abbrev b9 : Nat := 104
abbrev ah : Nat := 105
abbrev ai : Nat := 106
abbrev aM : Nat := 107
abbrev a : Nat := 108
abbrev aB : Nat := 109
abbrev bQ : Nat := 110
abbrev aY : Nat := 111
abbrev bl : Nat := 112
abbrev ba : Nat := 113
abbrev bb : Nat := 114
abbrev bc : Nat := 115
abbrev aG : Nat := 116
abbrev aZ : Nat := 117
abbrev cA : Nat := 118
abbrev bd : Nat := 119
abbrev i : Nat := 120
abbrev aH : Nat := 121
abbrev cJ : Nat := 122
abbrev bE : Nat := 123
abbrev c6 : Nat := 125
abbrev a5 : Nat := 126
abbrev cu : Nat := 130
abbrev bm : Nat := 132
abbrev au : Nat := 135
abbrev bn : Nat := 138
abbrev be : Nat := 139
abbrev bF : Nat := 140
abbrev bR : Nat := 141
abbrev ab : Nat := 142
abbrev bW : Nat := 143
abbrev bX : Nat := 144
abbrev a4 : Nat := 145
abbrev aI : Nat := 146
abbrev bY : Nat := 147
abbrev aw : Nat := 148
abbrev bZ : Nat := 149
abbrev am : Nat := 150
abbrev c0 : Nat := 151
abbrev an : Nat := 152
abbrev bi : Nat := 153
abbrev bv : Nat := 154
abbrev aj : Nat := 155
abbrev aU : Nat := 156
abbrev a8 : Nat := 157
abbrev a9 : Nat := 158
abbrev t : Nat := 159
abbrev bJ : Nat := 160
abbrev j : Nat := 161
abbrev b0 : Nat := 162
abbrev bS : Nat := 163
abbrev g : Nat := 164
abbrev cI : Nat := 165
abbrev aJ : Nat := 166
abbrev p : Nat := 167
abbrev cl : Nat := 168
abbrev aK : Nat := 169
abbrev e : Nat := 170
abbrev s : Nat := 171
abbrev x : Nat := 172
abbrev y : Nat := 173
abbrev aO : Nat := 174
abbrev aC : Nat := 175
abbrev bo : Nat := 176
abbrev al : Nat := 177
abbrev cd : Nat := 178
abbrev bT : Nat := 179
abbrev a6 : Nat := 183
abbrev bK : Nat := 184
abbrev cm : Nat := 185
abbrev bL : Nat := 186
abbrev ao : Nat := 187
abbrev bU : Nat := 188
abbrev c1 : Nat := 189
abbrev f : Nat := 190
abbrev bM : Nat := 191
abbrev bz : Nat := 192
abbrev bA : Nat := 193
abbrev bw : Nat := 194
abbrev b1 : Nat := 195
abbrev ap : Nat := 196
abbrev b2 : Nat := 197
abbrev cv : Nat := 198
abbrev aq : Nat := 199
abbrev cN : Nat := 203
abbrev aL : Nat := 204
abbrev aP : Nat := 205
abbrev bO : Nat := 206
abbrev cw : Nat := 207
abbrev cO : Nat := 211
abbrev c2 : Nat := 212
abbrev l : Nat := 213
abbrev bB : Nat := 214
abbrev bV : Nat := 215
abbrev cB : Nat := 216
abbrev m : Nat := 217
abbrev bC : Nat := 218
abbrev bf : Nat := 221
abbrev bp : Nat := 222
abbrev ar : Nat := 223
abbrev z : Nat := 224
abbrev cC : Nat := 225
abbrev bx : Nat := 226
abbrev cn : Nat := 227
abbrev cD : Nat := 228
abbrev a0 : Nat := 229
abbrev bg : Nat := 232
abbrev bh : Nat := 233
abbrev cx : Nat := 234
abbrev bD : Nat := 235
abbrev r : Nat := 236
abbrev cK : Nat := 237
abbrev bq : Nat := 240
abbrev q : Nat := 242
end F
namespace T
abbrev x : Nat := 0
abbrev al : Nat := 2
abbrev e : Nat := 3
abbrev m : Nat := 4
abbrev w : Nat := 5
abbrev b : Nat := 9
abbrev ao : Nat := 12
abbrev af : Nat := 21
abbrev d : Nat := 22
abbrev f : Nat := 24
abbrev s : Nat := 25
abbrev h : Nat := 26
abbrev r : Nat := 31
abbrev l : Nat := 37
abbrev o : Nat := 38
abbrev c : Nat := 40
abbrev n : Nat := 42
abbrev ak : Nat := 43
abbrev y : Nat := 48
abbrev z : Nat := 51
abbrev t : Nat := 68
abbrev j : Nat := 71
abbrev v : Nat := 76
abbrev u : Nat := 78
abbrev i : Nat := 79
abbrev g : Nat := 80
abbrev a : Nat := 82
abbrev k : Nat := 89
abbrev a1 : Nat := 92
abbrev a0 : Nat := 94
abbrev ah : Nat := 104
abbrev a4 : Nat := 107
abbrev ag : Nat := 116
abbrev ai : Nat := 121
abbrev q : Nat := 124
abbrev a2 : Nat := 127
abbrev a7 : Nat := 128
abbrev a5 : Nat := 133
abbrev a3 : Nat := 152
abbrev a9 : Nat := 155
abbrev p : Nat := 159
abbrev aa : Nat := 180
abbrev ab : Nat := 183
abbrev am : Nat := 186
abbrev ad : Nat := 188
abbrev ap : Nat := 199
abbrev an : Nat := 200
abbrev ac : Nat := 202
abbrev ae : Nat := 203
abbrev a6 : Nat := 206
abbrev a8 : Nat := 207
abbrev aj : Nat := 214
abbrev aq : Nat := 217
abbrev ar : Nat := 220
end T
namespace G
abbrev b : Nat := 0
abbrev e : Nat := 1
abbrev d : Nat := 2
abbrev c : Nat := 3
abbrev a : Nat := 4
end G
end Go.Proofs.YtfppjenblllfaaaGreatDoor

set_option maxRecDepth 100000
namespace Go.Proofs.YtfppjenblllfaaaGreatDoor
open Go.Emb
def Yt (g h:Value) (w:World) (K:Value→World→Prop):Prop:= nilCheck P g w fun f w=>fieldAddr P T.u f 1 w fun b w=>Q2 P T.v b w fun d w=>lookup P T.v d h true w fun a w=>ext P a 0 w fun e w=>ext P a 1 w fun c w=>K c w
theorem Nt {b a:Value} {w:World} {K:Value→World→Prop} (h:Yt b a w K):Q0 P F.k [b,a] w K:=Q9 (List.replicate 3 none) Tryz.func41 rfl (by decide) (by kernel_rfl) h
def Q52:V1:=[none,none,none,none,some ([1,10],[1,3,10,11,12,13,14,15,16,17,18]),none,none,none,none,none]
def Aj (w:World) (K:Value→World→Prop):Prop:= N1 P T.a [(0,(.string ⟨#[79,98,106,101,99,116]⟩))] w fun i w=>N1 P T.k [(0,(.string ⟨#[119,104,97,116]⟩)),(1,(.string ⟨#[116,101,120,116]⟩))] w fun m w=>buildSlice P T.i 1 [(0,m)] w fun k w=>N1 P T.a [(0,(.string ⟨#[70,97,117,108,116]⟩)),(1,(.string ⟨#[79,98,106,101,99,116]⟩)),(6,k)] w fun j w=>buildSlice P T.h 2 [(0,i),(1,j)] w fun n w=>Q2 P T.ag (.pointer (some ⟨G.b,0,none⟩)) w fun l w=>lp (α:=Value×Value) (n,(.int .i64 0)) w fun a b o w=>Q3 P .lss T.e (.tmp 10) (.const (.int .i64 6)) b.2 (.int .i64 6) w fun h w=>X1 h (D9 P T.ag l b.2 w fun d w=>N1 P T.a [(0,d),(1,(.string ⟨#[70,97,117,108,116]⟩)),(5,(.bool true))] w fun c w=>buildSlice P T.h 1 [(0,c)] w fun g w=>X6 P .append [T.h,T.h] T.h [false,false] [b.1,g] w fun e w=>Q3 P .add T.e (.tmp 10) (.const (.int .i64 1)) b.2 (.int .i64 1) w fun f w=>a (e,f) w) (K b.1 w)
theorem Q4Y {w:World} {K:Value→World→Prop} (h:Aj w K):Q0 P F.cp [] w K:=Q9 Q52 Tryz.func44 rfl (by decide) (by kernel_rfl) h
def Q56:V1:=[none,none,none,some ([8],[2,4,8,9,10,11,12,13,14,15,16,17,18,19,20,21,22,23,24,25,26,27,28,29,30,31,32,33]),none,none,none,none,none,none,none]
def Tb (X:Value) (w:World) (K:Value→World→Prop):Prop:= box P T.a X w fun b w=>fieldAddr P T.a b 7 w fun t5 w=>Q2 P T.g t5 w fun W w=>X6 P .len [T.g] T.e [false] [W] w fun Y w=>lp (α:=Value) (.int .i64 0) w fun g m d_ w=>Q3 P .lss T.e (.tmp 8) (.tmp 7) m Y w fun Z w=>X1 Z (indexAddr P T.g W m w fun u w=>Q2 P T.c u w fun r w=>W3 P T.c w fun a w=>Z3 P T.c a r w fun _u w=>fieldAddr P T.c a 1 w fun Q w=>Q2 P T.d Q w fun p w=>X6 P .len [T.d] T.e [false] [p] w fun s w=>Q3 P .gtr T.e (.tmp 14) (.const (.int .i64 32)) s (.int .i64 32) w fun e w=>Q1 e false w (fieldAddr P T.c a 6) fun J w=>Q1 e false w (Q2 P T.o J) fun E w=>Q1 e false w (X6 P .len [T.o] T.e [false] [E]) fun H w=>Q1 e false w (Q3 P .gtr T.e (.tmp 19) (.const (.int .i64 32)) H (.int .i64 32)) fun N w=>pick P e (.bool true) N w fun c w=>Q1 c false w (fieldAddr P T.c a 5) fun D w=>Q1 c false w (Q2 P T.l D) fun z w=>Q1 c false w (X6 P .len [T.l] T.e [false] [z]) fun v w=>Q1 c false w (Q3 P .gtr T.e (.tmp 25) (.const (.int .i64 200)) v (.int .i64 200)) fun C w=>pick P c (.bool true) C w fun h w=>Q1 h false w (fieldAddr P T.c a 4) fun O w=>Q1 h false w (Q2 P T.e O) fun R w=>Q1 h false w (Q3 P .gtr T.e (.tmp 30) (.const (.int .i64 64)) R (.int .i64 64)) fun U w=>pick P h (.bool true) U w fun A w=>X1 A (K (.bool true) w) (Q3 P .add T.e (.tmp 8) (.const (.int .i64 1)) m (.int .i64 1) w fun M w=>g M w)) (fieldAddr P T.a b 2 w fun B w=>Q2 P T.d B w fun j w=>X6 P .len [T.d] T.e [false] [j] w fun t w=>Q3 P .gtr T.e (.tmp 36) (.const (.int .i64 32)) t (.int .i64 32) w fun d w=>Q1 d false w (fieldAddr P T.a b 6) fun q w=>Q1 d false w (Q2 P T.i q) fun y w=>Q1 d false w (X6 P .len [T.i] T.e [false] [y]) fun k w=>Q1 d false w (Q3 P .gtr T.e (.tmp 41) (.const (.int .i64 32)) k (.int .i64 32)) fun n w=>pick P d (.bool true) n w fun f w=>Q1 f false w (fieldAddr P T.a b 7) fun l w=>Q1 f false w (Q2 P T.g l) fun L w=>Q1 f false w (X6 P .len [T.g] T.e [false] [L]) fun o w=>Q1 f false w (Q3 P .gtr T.e (.tmp 47) (.const (.int .i64 32)) o (.int .i64 32)) fun V w=>pick P f (.bool true) V w fun i w=>K i w)
theorem Q3J {a:Value} {w:World} {K:Value→World→Prop} (h:Tb a w K):Q0 P F.ct [a] w K:=Q9 Q56 Tryz.func94 rfl (by decide) (by kernel_rfl) h
def Q6O:V1:=[none,none,none,some ([],[4,6,9,10,11,12,13,14,15]),none,none,none,none,none,none]
def Q1J (h i:Value) (w:World) (K:Value→World→Prop):Prop:= rng P T.b h w fun g w=>lp (α:=Unit) () w fun a k j w=>J4 P g true T.x w fun f w=>ext P f 0 w fun c w=>X1 c (ext P f 2 w fun e w=>Z0 P i [e] w fun b w=>J0 P .not b w fun d w=>X1 d (K (.bool false) w) (a () w)) (K (.bool true) w)
theorem Q7q {b a:Value} {w:World} {K:Value→World→Prop} (h:Q1J b a w K):Q0 P F.cm [b,a] w K:=Q9 Q6O Tryz.func185 rfl (by decide) (by kernel_rfl) h
def Tm (b:Value) (w:World) (K:Value→World→Prop):Prop:= Q3 P .geq T.af (.tmp 3) (.const (.int .i32 65)) b (.int .i32 65) w fun a w=>Q1 a true w (fun w J=>J b w) fun d w=>Q1 a true w (Q3 P .leq T.af (.tmp 6) (.const (.int .i32 90)) d (.int .i32 90)) fun c w=>pick P a c (.bool false) w fun e w=>K e w
theorem Q57 {a:Value} {w:World} {K:Value→World→Prop} (h:Tm a w K):Q0 P F.bR [a] w K:=Q9 (List.replicate 2 none) Tryz.func141 rfl (by decide) (by kernel_rfl) h
def Tj (b:Value) (w:World) (K:Value→World→Prop):Prop:= Q3 P .geq T.af (.tmp 3) (.const (.int .i32 97)) b (.int .i32 97) w fun a w=>Q1 a true w (fun w J=>J b w) fun d w=>Q1 a true w (Q3 P .leq T.af (.tmp 6) (.const (.int .i32 122)) d (.int .i32 122)) fun c w=>pick P a c (.bool false) w fun e w=>K e w
theorem Q3O {a:Value} {w:World} {K:Value→World→Prop} (h:Tj a w K):Q0 P F.bT [a] w K:=Q9 (List.replicate 2 none) Tryz.func179 rfl (by decide) (by kernel_rfl) h
def Ia (c:Value) (w:World) (K:Value→World→Prop):Prop:= Q0 P F.bR [c] w fun d w=>Q1 d false w (fun w J=>J c w) fun l w=>Q1 d false w (Q0 P F.bT [l]) fun k w=>pick P d (.bool true) k w fun b w=>Q1 b false w (fun w J=>J c w) fun f w=>Q1 b false w (Q3 P .geq T.af (.tmp 10) (.const (.int .i32 48)) f (.int .i32 48)) fun j w=>Q1 b false w (fun w J=>J j w) fun a w=>Q1 a true w (fun w J=>J c w) fun h w=>Q1 a true w (Q3 P .leq T.af (.tmp 13) (.const (.int .i32 57)) h (.int .i32 57)) fun e w=>Q1 b false w (pick P a e (.bool false)) fun g w=>pick P b (.bool true) g w fun i w=>K i w
theorem Q3j {a:Value} {w:World} {K:Value→World→Prop} (h:Ia a w K):Q0 P F.bL [a] w K:=Q9 (List.replicate 2 none) Tryz.func186 rfl (by decide) (by kernel_rfl) h
def Q0y (c:Value) (w:World) (K:Value→World→Prop):Prop:= Q3 P .eql T.b (.tmp 3) (.const (.string ⟨#[]⟩)) c (.string ⟨#[]⟩) w fun d w=>Q1 d false w (fun w J=>J c w) fun o w=>Q1 d false w (X6 P .len [T.b] T.e [false] [o]) fun n w=>Q1 d false w (Q3 P .gtr T.e (.tmp 7) (.const (.int .i64 32)) n (.int .i64 32)) fun p w=>pick P d (.bool true) p w fun b w=>Q1 b false w (fun w J=>J c w) fun g w=>Q1 b false w (D9 P T.b g (.int .i64 0)) fun k w=>Q1 b false w (Q3 P .geq T.w (.tmp 12) (.const (.int .u8 48)) k (.int .u8 48)) fun f w=>Q1 b false w (fun w J=>J f w) fun a w=>Q1 a true w (fun w J=>J c w) fun h w=>Q1 a true w (D9 P T.b h (.int .i64 0)) fun m w=>Q1 a true w (Q3 P .leq T.w (.tmp 16) (.const (.int .u8 57)) m (.int .u8 57)) fun j w=>Q1 b false w (pick P a j (.bool false)) fun l w=>pick P b (.bool true) l w fun i w=>X1 i (K (.bool false) w) (Q0 P F.cm [c,(.func (.func F.bL) #[] #[])] w fun e w=>K e w)
theorem Q5d {a:Value} {w:World} {K:Value→World→Prop} (h:Q0y a w K):Q0 P F.bF [a] w K:=Q9 (List.replicate 5 none) Tryz.func140 rfl (by decide) (by kernel_rfl) h
def Ts (c:Value) (w:World) (K:Value→World→Prop):Prop:= Q0 P F.bF [c] w fun a w=>Q1 a true w (fun w J=>J c w) fun e w=>Q1 a true w (D9 P T.b e (.int .i64 0)) fun d w=>Q1 a true w (conv P T.w T.af d) fun g w=>Q1 a true w (Q0 P F.bR [g]) fun f w=>pick P a f (.bool false) w fun b w=>K b w
theorem Q3S {a:Value} {w:World} {K:Value→World→Prop} (h:Ts a w K):Q0 P F.af [a] w K:=Q9 (List.replicate 2 none) Tryz.func92 rfl (by decide) (by kernel_rfl) h
def Qi:V1:=[none,none,none,some ([8],[4,5,8,9,10,11,12,13,14,15,16,17,18]),none,none,none,none,none,none,none]
def H6 (g j:Value) (w:World) (K:Value→World→Prop):Prop:= X6 P .len [T.g] T.e [false] [g] w fun h w=>lp (α:=Value) (.int .i64 0) w fun a b k w=>Q3 P .lss T.e (.tmp 8) (.tmp 7) b h w fun i w=>X1 i (indexAddr P T.g g b w fun c w=>Q2 P T.c c w fun d w=>Z0 P j [d] w fun f w=>X1 f (K b w) (Q3 P .add T.e (.tmp 8) (.const (.int .i64 1)) b (.int .i64 1) w fun e w=>a e w)) (K (.int .i64 (-1)) w)
theorem Qd {b a:Value} {w:World} {K:Value→World→Prop} (h:H6 b a w K):Q0 P F.g [b,a] w K:=Q9 Qi Tryz.func164 rfl (by decide) (by kernel_rfl) h
def D3 (c d:Value) (w:World) (K:Value→World→Prop):Prop:= Q0 P F.g [c,d] w fun a w=>Q3 P .geq T.e (.tmp 7) (.const (.int .i64 0)) a (.int .i64 0) w fun b w=>K b w
theorem I4 {b a:Value} {w:World} {K:Value→World→Prop} (h:D3 b a w K):Q0 P F.a [b,a] w K:=Q9 (List.replicate 2 none) Tryz.func108 rfl (by decide) (by kernel_rfl) h
def Lo:V1:=[none,none,none,some ([8],[4,5,8,9,10,11,12,13,14,15,16,17,18]),none,none,none,none,none,none,none]
def K4 (g j:Value) (w:World) (K:Value→World→Prop):Prop:= X6 P .len [T.d] T.e [false] [g] w fun h w=>lp (α:=Value) (.int .i64 0) w fun a b k w=>Q3 P .lss T.e (.tmp 8) (.tmp 7) b h w fun i w=>X1 i (indexAddr P T.d g b w fun c w=>Q2 P T.b c w fun d w=>Q3 P .eql T.b (.tmp 11) (.tmp 15) j d w fun f w=>X1 f (K b w) (Q3 P .add T.e (.tmp 8) (.const (.int .i64 1)) b (.int .i64 1) w fun e w=>a e w)) (K (.int .i64 (-1)) w)
theorem Wj {b a:Value} {w:World} {K:Value→World→Prop} (h:K4 b a w K):Q0 P F.ao [b,a] w K:=Q9 Lo Tryz.func187 rfl (by decide) (by kernel_rfl) h
def G1 (c d:Value) (w:World) (K:Value→World→Prop):Prop:= Q0 P F.ao [c,d] w fun a w=>Q3 P .geq T.e (.tmp 7) (.const (.int .i64 0)) a (.int .i64 0) w fun b w=>K b w
theorem Jq {b a:Value} {w:World} {K:Value→World→Prop} (h:G1 b a w K):Q0 P F.ab [b,a] w K:=Q9 (List.replicate 2 none) Tryz.func142 rfl (by decide) (by kernel_rfl) h
def Rh (d:Value) (w:World) (K:Value→World→Prop):Prop:= box P T.c d w fun a w=>fieldAddr P T.c a 3 w fun c w=>Q2 P T.m c w fun b w=>K b w
theorem Q1C {a:Value} {w:World} {K:Value→World→Prop} (h:Rh a w K):Q0 P F.bW [a] w K:=Q9 (List.replicate 2 none) Tryz.func143 rfl (by decide) (by kernel_rfl) h
def Hw (e:Value) (w:World) (K:Value→World→Prop):Prop:= box P T.c e w fun a w=>fieldAddr P T.c a 3 w fun d w=>Q2 P T.m d w fun b w=>J0 P .not b w fun c w=>K c w
theorem Q1E {a:Value} {w:World} {K:Value→World→Prop} (h:Hw a w K):Q0 P F.bX [a] w K:=Q9 (List.replicate 2 none) Tryz.func144 rfl (by decide) (by kernel_rfl) h
def Jl:V1:=[none,none,none,some ([8],[4,5,8,9,10,11,12,13,14,15,16,17,18]),none,none,none,none,none,none,none]
def F7 (g j:Value) (w:World) (K:Value→World→Prop):Prop:= X6 P .len [T.d] T.e [false] [g] w fun h w=>lp (α:=Value) (.int .i64 0) w fun a b k w=>Q3 P .lss T.e (.tmp 8) (.tmp 7) b h w fun i w=>X1 i (indexAddr P T.d g b w fun c w=>Q2 P T.b c w fun d w=>Z0 P j [d] w fun f w=>X1 f (K b w) (Q3 P .add T.e (.tmp 8) (.const (.int .i64 1)) b (.int .i64 1) w fun e w=>a e w)) (K (.int .i64 (-1)) w)
theorem Ji {b a:Value} {w:World} {K:Value→World→Prop} (h:F7 b a w K):Q0 P F.t [b,a] w K:=Q9 Jl Tryz.func159 rfl (by decide) (by kernel_rfl) h
def B0 (c d:Value) (w:World) (K:Value→World→Prop):Prop:= Q0 P F.t [c,d] w fun a w=>Q3 P .geq T.e (.tmp 7) (.const (.int .i64 0)) a (.int .i64 0) w fun b w=>K b w
theorem Yh {b a:Value} {w:World} {K:Value→World→Prop} (h:B0 b a w K):Q0 P F.d [b,a] w K:=Q9 (List.replicate 2 none) Tryz.func101 rfl (by decide) (by kernel_rfl) h
def Jt (e d:Value) (w:World) (K:Value→World→Prop):Prop:= Q2 P T.y d w fun a w=>Z0 P a [e] w fun c w=>J0 P .not c w fun b w=>K b w
theorem Ry {b a:Value} {w:World} {K:Value→World→Prop} (h:Jt b a w K):Q0 P F.bU [b,a] w K:=Q9 (List.replicate 2 none) Tryz.func188 rfl (by decide) (by kernel_rfl) h
def Ww (e f:Value) (w:World) (K:Value→World→Prop):Prop:= box P T.y f w fun a w=>M4 P (.func F.bU) [] [a] w fun c w=>Q0 P F.d [e,c] w fun b w=>J0 P .not b w fun d w=>K d w
theorem Fb {b a:Value} {w:World} {K:Value→World→Prop} (h:Ww b a w K):Q0 P F.a4 [b,a] w K:=Q9 (List.replicate 2 none) Tryz.func145 rfl (by decide) (by kernel_rfl) h
def Vb (n l o:Value) (w:World) (K:Value→World→Prop):Prop:= dr w fun a b=>Q7 a (fun c=> ∀w,b w→Q2 P T.a5 l w (dk a c w)) fun c=>Q7 a (fun g=> ∀d w,b w→c d w→Z0 P d [n] w (dk a g w)) fun g=>Q7 a (fun h=> ∀w,b w→Q2 P T.a5 l w (dk a h w)) fun h=>Q7 a (fun f=> ∀w,b w→Q2 P T.b o w (dk a f w)) fun f=>∀d j m k w,b w→c d w→g j w→h m w→f k w→ Z0 P m [k] w fun e w=>Q3 P .eql T.b (.tmp 7) (.tmp 10) j e w fun i w=>K i w
theorem So {b a c:Value} {w:World} {K:Value→World→Prop} (h:Vb b a c w K):Q0 P F.c1 [b,a,c] w K:=Q9 (List.replicate 2 none) Tryz.func189 rfl (by decide) (by kernel_rfl) h
def Iy:V1:=[none,none,none,some ([9],[4,5,6,9,10,11,12,13,14,15,16,17,18,19]),none,none,none,none,none,none,none]
def Mc (k n:Value) (w:World) (K:Value→World→Prop):Prop:= box P T.a5 n w fun a w=>X6 P .len [T.d] T.e [false] [k] w fun m w=>lp (α:=Value) (.int .i64 0) w fun c d o w=>Q3 P .lss T.e (.tmp 9) (.tmp 8) d m w fun e w=>X1 e (indexAddr P T.d k d w fun g w=>Q2 P T.b g w fun i w=>W3 P T.b w fun b w=>Z3 P T.b b i w fun _u w=>H3 P T.d k none (some d) none w fun l w=>M4 P (.func F.c1) [] [a,b] w fun h w=>Q0 P F.d [l,h] w fun j w=>X1 j (K (.bool false) w) (Q3 P .add T.e (.tmp 9) (.const (.int .i64 1)) d (.int .i64 1) w fun f w=>c f w)) (K (.bool true) w)
theorem Im {b a:Value} {w:World} {K:Value→World→Prop} (h:Mc b a w K):Q0 P F.aI [b,a] w K:=Q9 Iy Tryz.func146 rfl (by decide) (by kernel_rfl) h
def Q1Q (a:Value) (w:World) (K:Value→World→Prop):Prop:= K a w
theorem Q1k {a:Value} {w:World} {K:Value→World→Prop} (h:Q1Q a w K):Q0 P F.bY [a] w K:=Q9 (List.replicate 2 none) Tryz.func147 rfl (by decide) (by kernel_rfl) h
def Xf:V1:=[none,none,none,some ([8],[4,5,8,9,10,11,12,13,14,15,16,17,18]),none,none,none,none,none,none,none]
def R5 (g j:Value) (w:World) (K:Value→World→Prop):Prop:= X6 P .len [T.i] T.e [false] [g] w fun h w=>lp (α:=Value) (.int .i64 0) w fun a b k w=>Q3 P .lss T.e (.tmp 8) (.tmp 7) b h w fun i w=>X1 i (indexAddr P T.i g b w fun c w=>Q2 P T.k c w fun d w=>Z0 P j [d] w fun f w=>X1 f (K b w) (Q3 P .add T.e (.tmp 8) (.const (.int .i64 1)) b (.int .i64 1) w fun e w=>a e w)) (K (.int .i64 (-1)) w)
theorem Xe {b a:Value} {w:World} {K:Value→World→Prop} (h:R5 b a w K):Q0 P F.j [b,a] w K:=Q9 Xf Tryz.func161 rfl (by decide) (by kernel_rfl) h
def H2 (c d:Value) (w:World) (K:Value→World→Prop):Prop:= Q0 P F.j [c,d] w fun a w=>Q3 P .geq T.e (.tmp 7) (.const (.int .i64 0)) a (.int .i64 0) w fun b w=>K b w
theorem T2 {b a:Value} {w:World} {K:Value→World→Prop} (h:H2 b a w K):Q0 P F.f [b,a] w K:=Q9 (List.replicate 2 none) Tryz.func190 rfl (by decide) (by kernel_rfl) h
def Zk (q o r:Value) (w:World) (K:Value→World→Prop):Prop:= box P T.k q w fun b w=>dr w fun a c=>Q7 a (fun e=> ∀w,c w→Q2 P T.a3 o w (dk a e w)) fun e=>Q7 a (fun d=> ∀w,c w→Q2 P T.k b w (dk a d w)) fun d=>Q7 a (fun h=> ∀g f w,c w→e g w→d f w→Z0 P g [f] w (dk a h w)) fun h=>Q7 a (fun i=> ∀w,c w→Q2 P T.a3 o w (dk a i w)) fun i=>Q7 a (fun l=> ∀w,c w→Q2 P T.k r w (dk a l w)) fun l=>∀g f m p n w,c w→e g w→d f w→h m w→i p w→l n w→ Z0 P p [n] w fun k w=>Q3 P .eql T.b (.tmp 7) (.tmp 10) m k w fun j w=>K j w
theorem Ey {b a c:Value} {w:World} {K:Value→World→Prop} (h:Zk b a c w K):Q0 P F.bM [b,a,c] w K:=Q9 (List.replicate 2 none) Tryz.func191 rfl (by decide) (by kernel_rfl) h
def Sm:V1:=[none,none,none,some ([9],[4,5,6,9,10,11,12,13,14,15,16,17,18,19]),none,none,none,none,none,none,none]
def Ju (k n:Value) (w:World) (K:Value→World→Prop):Prop:= box P T.a3 n w fun a w=>X6 P .len [T.i] T.e [false] [k] w fun m w=>lp (α:=Value) (.int .i64 0) w fun c d o w=>Q3 P .lss T.e (.tmp 9) (.tmp 8) d m w fun e w=>X1 e (indexAddr P T.i k d w fun g w=>Q2 P T.k g w fun i w=>W3 P T.k w fun b w=>Z3 P T.k b i w fun _u w=>H3 P T.i k none (some d) none w fun l w=>M4 P (.func F.bM) [] [a,b] w fun h w=>Q0 P F.f [l,h] w fun j w=>X1 j (K (.bool false) w) (Q3 P .add T.e (.tmp 9) (.const (.int .i64 1)) d (.int .i64 1) w fun f w=>c f w)) (K (.bool true) w)
theorem Ru {b a:Value} {w:World} {K:Value→World→Prop} (h:Ju b a w K):Q0 P F.aw [b,a] w K:=Q9 Sm Tryz.func148 rfl (by decide) (by kernel_rfl) h
def Rl (d:Value) (w:World) (K:Value→World→Prop):Prop:= box P T.k d w fun a w=>fieldAddr P T.k a 0 w fun c w=>Q2 P T.b c w fun b w=>K b w
theorem Q1y {a:Value} {w:World} {K:Value→World→Prop} (h:Rl a w K):Q0 P F.bZ [a] w K:=Q9 (List.replicate 2 none) Tryz.func149 rfl (by decide) (by kernel_rfl) h
def Xz (q o r:Value) (w:World) (K:Value→World→Prop):Prop:= box P T.c q w fun b w=>dr w fun a c=>Q7 a (fun e=> ∀w,c w→Q2 P T.a2 o w (dk a e w)) fun e=>Q7 a (fun d=> ∀w,c w→Q2 P T.c b w (dk a d w)) fun d=>Q7 a (fun h=> ∀g f w,c w→e g w→d f w→Z0 P g [f] w (dk a h w)) fun h=>Q7 a (fun i=> ∀w,c w→Q2 P T.a2 o w (dk a i w)) fun i=>Q7 a (fun l=> ∀w,c w→Q2 P T.c r w (dk a l w)) fun l=>∀g f m p n w,c w→e g w→d f w→h m w→i p w→l n w→ Z0 P p [n] w fun k w=>Q3 P .eql T.b (.tmp 7) (.tmp 10) m k w fun j w=>K j w
theorem Ov {b a c:Value} {w:World} {K:Value→World→Prop} (h:Xz b a c w K):Q0 P F.bz [b,a,c] w K:=Q9 (List.replicate 2 none) Tryz.func192 rfl (by decide) (by kernel_rfl) h
def Hs:V1:=[none,none,none,some ([9],[4,5,6,9,10,11,12,13,14,15,16,17,18,19]),none,none,none,none,none,none,none]
def Jg (k n:Value) (w:World) (K:Value→World→Prop):Prop:= box P T.a2 n w fun a w=>X6 P .len [T.g] T.e [false] [k] w fun m w=>lp (α:=Value) (.int .i64 0) w fun c d o w=>Q3 P .lss T.e (.tmp 9) (.tmp 8) d m w fun e w=>X1 e (indexAddr P T.g k d w fun g w=>Q2 P T.c g w fun i w=>W3 P T.c w fun b w=>Z3 P T.c b i w fun _u w=>H3 P T.g k none (some d) none w fun l w=>M4 P (.func F.bz) [] [a,b] w fun h w=>Q0 P F.a [l,h] w fun j w=>X1 j (K (.bool false) w) (Q3 P .add T.e (.tmp 9) (.const (.int .i64 1)) d (.int .i64 1) w fun f w=>c f w)) (K (.bool true) w)
theorem Hp {b a:Value} {w:World} {K:Value→World→Prop} (h:Jg b a w K):Q0 P F.am [b,a] w K:=Q9 Hs Tryz.func150 rfl (by decide) (by kernel_rfl) h
def Hv (d:Value) (w:World) (K:Value→World→Prop):Prop:= box P T.c d w fun a w=>fieldAddr P T.c a 0 w fun c w=>Q2 P T.b c w fun b w=>K b w
theorem Q1P {a:Value} {w:World} {K:Value→World→Prop} (h:Hv a w K):Q0 P F.c0 [a] w K:=Q9 (List.replicate 2 none) Tryz.func151 rfl (by decide) (by kernel_rfl) h
def Ya (g f:Value) (w:World) (K:Value→World→Prop):Prop:= box P T.k g w fun a w=>Q2 P T.a9 f w fun b w=>Q2 P T.k a w fun e w=>Z0 P b [e] w fun d w=>J0 P .not d w fun c w=>K c w
theorem Df {b a:Value} {w:World} {K:Value→World→Prop} (h:Ya b a w K):Q0 P F.bA [b,a] w K:=Q9 (List.replicate 2 none) Tryz.func193 rfl (by decide) (by kernel_rfl) h
def Jh (e f:Value) (w:World) (K:Value→World→Prop):Prop:= box P T.a9 f w fun a w=>M4 P (.func F.bA) [] [a] w fun c w=>Q0 P F.f [e,c] w fun b w=>J0 P .not b w fun d w=>K d w
theorem Hn {b a:Value} {w:World} {K:Value→World→Prop} (h:Jh b a w K):Q0 P F.an [b,a] w K:=Q9 (List.replicate 2 none) Tryz.func152 rfl (by decide) (by kernel_rfl) h
def Tw (e:Value) (w:World) (K:Value→World→Prop):Prop:= Q3 P .eql T.b (.tmp 3) (.const (.string ⟨#[105,110,116]⟩)) e (.string ⟨#[105,110,116]⟩) w fun a w=>Q1 a false w (fun w J=>J e w) fun h w=>Q1 a false w (Q3 P .eql T.b (.tmp 6) (.const (.string ⟨#[98,111,111,108]⟩)) h (.string ⟨#[98,111,111,108]⟩)) fun g w=>pick P a (.bool true) g w fun d w=>Q1 d false w (fun w J=>J e w) fun b w=>Q1 d false w (Q3 P .eql T.b (.tmp 10) (.const (.string ⟨#[116,101,120,116]⟩)) b (.string ⟨#[116,101,120,116]⟩)) fun f w=>pick P d (.bool true) f w fun c w=>K c w
theorem Q4x {a:Value} {w:World} {K:Value→World→Prop} (h:Tw a w K):Q0 P F.ad [a] w K:=Q9 (List.replicate 2 none) Tryz.func40 rfl (by decide) (by kernel_rfl) h
def Ja (h j:Value) (w:World) (K:Value→World→Prop):Prop:= X6 P .len [T.b] T.e [false] [h] w fun n w=>X6 P .len [T.b] T.e [false] [j] w fun o w=>Q3 P .geq T.e (.tmp 6) (.tmp 8) n o w fun a w=>Q1 a true w (fun w J=>J h w) fun l w=>Q1 a true w (fun w J=>J h w) fun e w=>Q1 a true w (X6 P .len [T.b] T.e [false] [e]) fun g w=>Q1 a true w (fun w J=>J j w) fun b w=>Q1 a true w (X6 P .len [T.b] T.e [false] [b]) fun c w=>Q1 a true w (Q3 P .sub T.e (.tmp 13) (.tmp 15) g c) fun k w=>Q1 a true w (H3 P T.b l (some k) none none) fun f w=>Q1 a true w (fun w J=>J j w) fun i w=>Q1 a true w (Q3 P .eql T.b (.tmp 17) (.tmp 18) f i) fun d w=>pick P a d (.bool false) w fun m w=>K m w
theorem Ho {b a:Value} {w:World} {K:Value→World→Prop} (h:Ja b a w K):Q0 P F.a6 [b,a] w K:=Q9 (List.replicate 2 none) Tryz.func183 rfl (by decide) (by kernel_rfl) h
def Mg (c b:Value) (w:World) (K:Value→World→Prop):Prop:= Q0 P F.a6 [c,b] w fun a w=>K a w
theorem Kn {b a:Value} {w:World} {K:Value→World→Prop} (h:Mg b a w K):Q0 P F.bn [b,a] w K:=Q9 (List.replicate 2 none) Tryz.func138 rfl (by decide) (by kernel_rfl) h
def Yw (a f:Value) (w:World) (K:Value→World→Prop):Prop:= Q0 P F.a6 [a,f] w fun g w=>X1 g (X6 P .len [T.b] T.e [false] [a] w fun c w=>X6 P .len [T.b] T.e [false] [f] w fun d w=>Q3 P .sub T.e (.tmp 10) (.tmp 12) c d w fun e w=>H3 P T.b a none (some e) none w fun b w=>K b w) (K a w)
theorem Et {b a:Value} {w:World} {K:Value→World→Prop} (h:Yw b a w K):Q0 P F.bK [b,a] w K:=Q9 (List.replicate 5 none) Tryz.func184 rfl (by decide) (by kernel_rfl) h
def Wr (c b:Value) (w:World) (K:Value→World→Prop):Prop:= Q0 P F.bK [c,b] w fun a w=>K a w
theorem Bz {b a:Value} {w:World} {K:Value→World→Prop} (h:Wr b a w K):Q0 P F.be [b,a] w K:=Q9 (List.replicate 2 none) Tryz.func139 rfl (by decide) (by kernel_rfl) h
def Q5a:V1:=[none,none,none,some ([0,4],[0,4,5,6,7,8,9,10]),none,none,none]
def Q0w (f:Value) (w:World) (K:Value→World→Prop):Prop:= lp (α:=Value×Value) (f,(.int .i64 0)) w fun a b g w=>Q0 P F.bn [b.1,(.string ⟨#[91,93]⟩)] w fun d w=>X1 d (Q0 P F.be [b.1,(.string ⟨#[91,93]⟩)] w fun e w=>Q3 P .add T.e (.tmp 9) (.const (.int .i64 1)) b.2 (.int .i64 1) w fun c w=>a (e,c) w) (K (.tuple #[b.1,b.2]) w)
theorem Q5D {a:Value} {w:World} {K:Value→World→Prop} (h:Q0w a w K):Q0 P F.c5 [a] w K:=Q9 Q5a Tryz.func91 rfl (by decide) (by kernel_rfl) h
def Tg (l:Value) (w:World) (K:Value→World→Prop):Prop:= Q0 P F.c5 [l] w fun i w=>ext P i 0 w fun j w=>ext P i 1 w fun k w=>Q3 P .leq T.e (.tmp 10) (.const (.int .i64 3)) k (.int .i64 3) w fun a w=>Q1 a true w (fun w J=>J j w) fun f w=>Q1 a true w (Q0 P F.ad [f]) fun c w=>Q1 a true w (fun w J=>J c w) fun b w=>Q1 b false w (fun w J=>J j w) fun h w=>Q1 b false w (Q0 P F.af [h]) fun e w=>Q1 a true w (pick P b (.bool true) e) fun g w=>pick P a g (.bool false) w fun d w=>K d w
theorem Q3V {a:Value} {w:World} {K:Value→World→Prop} (h:Tg a w K):Q0 P F.a2 [a] w K:=Q9 (List.replicate 3 none) Tryz.func39 rfl (by decide) (by kernel_rfl) h
def Ck (b:Value) (w:World) (K:Value→World→Prop):Prop:= Q0 P F.bF [b] w fun a w=>Q1 a true w (fun w J=>J b w) fun d w=>Q1 a true w (Q0 P F.af [d]) fun c w=>Q1 a true w (J0 P .not c) fun f w=>pick P a f (.bool false) w fun e w=>K e w
theorem Q27 {a:Value} {w:World} {K:Value→World→Prop} (h:Ck a w K):Q0 P F.bv [a] w K:=Q9 (List.replicate 2 none) Tryz.func154 rfl (by decide) (by kernel_rfl) h
def Hy (i:Value) (w:World) (K:Value→World→Prop):Prop:= box P T.k i w fun a w=>fieldAddr P T.k a 0 w fun g w=>Q2 P T.b g w fun d w=>Q0 P F.bv [d] w fun b w=>Q1 b true w (fieldAddr P T.k a 1) fun e w=>Q1 b true w (Q2 P T.b e) fun h w=>Q1 b true w (Q0 P F.a2 [h]) fun f w=>pick P b f (.bool false) w fun c w=>K c w
theorem Q1A {a:Value} {w:World} {K:Value→World→Prop} (h:Hy a w K):Q0 P F.bi [a] w K:=Q9 (List.replicate 2 none) Tryz.func153 rfl (by decide) (by kernel_rfl) h
def Xm (g f:Value) (w:World) (K:Value→World→Prop):Prop:= box P T.c g w fun a w=>Q2 P T.a7 f w fun b w=>Q2 P T.c a w fun e w=>Z0 P b [e] w fun d w=>J0 P .not d w fun c w=>K c w
theorem Oi {b a:Value} {w:World} {K:Value→World→Prop} (h:Xm b a w K):Q0 P F.bw [b,a] w K:=Q9 (List.replicate 2 none) Tryz.func194 rfl (by decide) (by kernel_rfl) h
def Yn (e f:Value) (w:World) (K:Value→World→Prop):Prop:= box P T.a7 f w fun a w=>M4 P (.func F.bw) [] [a] w fun c w=>Q0 P F.a [e,c] w fun b w=>J0 P .not b w fun d w=>K d w
theorem Dt {b a:Value} {w:World} {K:Value→World→Prop} (h:Yn b a w K):Q0 P F.aj [b,a] w K:=Q9 (List.replicate 2 none) Tryz.func155 rfl (by decide) (by kernel_rfl) h
def He (B A:Value) (w:World) (K:Value→World→Prop):Prop:= box P T.p B w fun a w=>fieldAddr P T.p a 0 w fun E w=>Q2 P T.e E w fun D w=>Q3 P .geq T.e (.tmp 5) (.const (.int .i64 0)) D (.int .i64 0) w fun f w=>Q1 f true w (fieldAddr P T.p a 1) fun H w=>Q1 f true w (Q2 P T.e H) fun C w=>Q1 f true w (fieldAddr P T.p a 0) fun j w=>Q1 f true w (Q2 P T.e j) fun i w=>Q1 f true w (Q3 P .gtr T.e (.tmp 9) (.tmp 11) C i) fun v w=>pick P f v (.bool false) w fun b w=>Q1 b true w (fieldAddr P T.p a 1) fun k w=>Q1 b true w (Q2 P T.e k) fun z w=>Q1 b true w (Q2 P T.e A) fun r w=>Q1 b true w (Q3 P .leq T.e (.tmp 16) (.tmp 17) z r) fun q w=>pick P b q (.bool false) w fun d w=>Q1 d true w (fieldAddr P T.p a 2) fun h w=>Q1 d true w (Q2 P T.e h) fun t w=>Q1 d true w (Q3 P .geq T.e (.tmp 22) (.const (.int .i64 0)) t (.int .i64 0)) fun p w=>pick P d p (.bool false) w fun c w=>Q1 c true w (fieldAddr P T.p a 2) fun n w=>Q1 c true w (Q2 P T.e n) fun y w=>Q1 c true w (Q2 P T.e A) fun o w=>Q1 c true w (Q3 P .lss T.e (.tmp 27) (.tmp 28) y o) fun u w=>pick P c u (.bool false) w fun e w=>Q1 e true w (fieldAddr P T.p a 3) fun l w=>Q1 e true w (Q2 P T.b l) fun s w=>Q1 e true w (Q0 P F.af [s]) fun m w=>pick P e m (.bool false) w fun g w=>K g w
theorem Q0O {b a:Value} {w:World} {K:Value→World→Prop} (h:He b a w K):Q0 P F.b1 [b,a] w K:=Q9 (List.replicate 2 none) Tryz.func195 rfl (by decide) (by kernel_rfl) h
def Xc:V1:=[none,none,none,some ([8],[4,5,8,9,10,11,12,13,14,15,16,17,18]),none,none,none,none,none,none,none]
def R6 (g j:Value) (w:World) (K:Value→World→Prop):Prop:= X6 P .len [T.l] T.e [false] [g] w fun h w=>lp (α:=Value) (.int .i64 0) w fun a b k w=>Q3 P .lss T.e (.tmp 8) (.tmp 7) b h w fun i w=>X1 i (indexAddr P T.l g b w fun c w=>Q2 P T.n c w fun d w=>Z0 P j [d] w fun f w=>X1 f (K b w) (Q3 P .add T.e (.tmp 8) (.const (.int .i64 1)) b (.int .i64 1) w fun e w=>a e w)) (K (.int .i64 (-1)) w)
theorem Xb {b a:Value} {w:World} {K:Value→World→Prop} (h:R6 b a w K):Q0 P F.z [b,a] w K:=Q9 Xc Tryz.func224 rfl (by decide) (by kernel_rfl) h
def H1 (c d:Value) (w:World) (K:Value→World→Prop):Prop:= Q0 P F.z [c,d] w fun a w=>Q3 P .geq T.e (.tmp 7) (.const (.int .i64 0)) a (.int .i64 0) w fun b w=>K b w
theorem T1 {b a:Value} {w:World} {K:Value→World→Prop} (h:H1 b a w K):Q0 P F.l [b,a] w K:=Q9 (List.replicate 2 none) Tryz.func213 rfl (by decide) (by kernel_rfl) h
def Xy (g f:Value) (w:World) (K:Value→World→Prop):Prop:= box P T.n g w fun a w=>Q2 P T.ab f w fun b w=>Q2 P T.n a w fun e w=>Z0 P b [e] w fun d w=>J0 P .not d w fun c w=>K c w
theorem Dc {b a:Value} {w:World} {K:Value→World→Prop} (h:Xy b a w K):Q0 P F.bB [b,a] w K:=Q9 (List.replicate 2 none) Tryz.func214 rfl (by decide) (by kernel_rfl) h
def Jb (e f:Value) (w:World) (K:Value→World→Prop):Prop:= box P T.ab f w fun a w=>M4 P (.func F.bB) [] [a] w fun c w=>Q0 P F.l [e,c] w fun b w=>J0 P .not b w fun d w=>K d w
theorem Hu {b a:Value} {w:World} {K:Value→World→Prop} (h:Jb b a w K):Q0 P F.ap [b,a] w K:=Q9 (List.replicate 2 none) Tryz.func196 rfl (by decide) (by kernel_rfl) h
def Zf:V1:=[none,none,none,some ([8],[4,5,8,9,10,11,12,13,14,15,16,17,18]),none,none,none,none,none,none,none]
def B6 (g j:Value) (w:World) (K:Value→World→Prop):Prop:= X6 P .len [T.aj] T.e [false] [g] w fun h w=>lp (α:=Value) (.int .i64 0) w fun a b k w=>Q3 P .lss T.e (.tmp 8) (.tmp 7) b h w fun i w=>X1 i (indexAddr P T.aj g b w fun c w=>Q2 P T.a6 c w fun d w=>Z0 P j [d] w fun f w=>X1 f (K b w) (Q3 P .add T.e (.tmp 8) (.const (.int .i64 1)) b (.int .i64 1) w fun e w=>a e w)) (K (.int .i64 (-1)) w)
theorem Yu {b a:Value} {w:World} {K:Value→World→Prop} (h:B6 b a w K):Q0 P F.r [b,a] w K:=Q9 Zf Tryz.func236 rfl (by decide) (by kernel_rfl) h
def Gu (g f:Value) (w:World) (K:Value→World→Prop):Prop:= box P T.a6 g w fun a w=>fieldAddr P T.a6 a 0 w fun b w=>Q2 P T.b b w fun e w=>Q2 P T.b f w fun d w=>Q3 P .eql T.b (.tmp 5) (.tmp 6) e d w fun c w=>K c w
theorem Q3t {b a:Value} {w:World} {K:Value→World→Prop} (h:Gu b a w K):Q0 P F.cK [b,a] w K:=Q9 (List.replicate 2 none) Tryz.func237 rfl (by decide) (by kernel_rfl) h
def Q0t (e:Value) (w:World) (K:Value→World→Prop):Prop:= box P T.b e w fun a w=>H3 P T.a8 (.pointer (some ⟨G.a,0,none⟩)) none none none w fun d w=>M4 P (.func F.cK) [] [a] w fun b w=>Q0 P F.r [d,b] w fun c w=>K c w
theorem Q5b {a:Value} {w:World} {K:Value→World→Prop} (h:Q0t a w K):Q0 P F.cC [a] w K:=Q9 (List.replicate 2 none) Tryz.func225 rfl (by decide) (by kernel_rfl) h
def Ae (p:Value) (w:World) (K:Value→World→Prop):Prop:= Q0 P F.cC [p] w fun o w=>Q3 P .lss T.e (.tmp 8) (.const (.int .i64 0)) o (.int .i64 0) w fun q w=>X1 q (K (.tuple #[(.bool false),(.bool false),(.bool false)]) w) (dr w fun a l=>Q7 a (fun c=> ∀w,l w→indexAddr P T.a8 (.pointer (some ⟨G.a,0,none⟩)) o w (dk a c w)) fun c=>Q7 a (fun g=> ∀d w,l w→c d w→fieldAddr P T.a6 d 1 w (dk a g w)) fun g=>Q7 a (fun f=> ∀w,l w→indexAddr P T.a8 (.pointer (some ⟨G.a,0,none⟩)) o w (dk a f w)) fun f=>Q7 a (fun b=> ∀e w,l w→f e w→fieldAddr P T.a6 e 2 w (dk a b w)) fun b=>Q7 a (fun k=> ∀h w,l w→g h w→Q2 P T.m h w (dk a k w)) fun k=>Q7 a (fun j=> ∀i w,l w→b i w→Q2 P T.m i w (dk a j w)) fun j=>∀d h e i m n w,l w→c d w→g h w→f e w→b i w→k m w→j n w→ K (.tuple #[m,n,(.bool true)]) w)
theorem Q4T {a:Value} {w:World} {K:Value→World→Prop} (h:Ae a w K):Q0 P F.bV [a] w K:=Q9 (List.replicate 6 none) Tryz.func215 rfl (by decide) (by kernel_rfl) h
def Jf (c b:Value) (w:World) (K:Value→World→Prop):Prop:= Q0 P F.bD [c,b] w fun a w=>K a w
theorem Ht {b a:Value} {w:World} {K:Value→World→Prop} (h:Jf b a w K):Q0 P F.ar [b,a] w K:=Q9 (List.replicate 2 none) Tryz.func223 rfl (by decide) (by kernel_rfl) h
def Kt:V1:=[none,none,none,none,none,none,none,none,none,none,none,none,none,none,none,none,none,some ([8,10],[4,8,10,11,12,13,57,58,59,60,61,62,63,64,65,66,67,68,69,70,71,72,73,74,75,76,77,78,79,80,81,82,83,84,85,86,87,88,89,90,91,92,93,94,95,96,97,98,99,100,101,102,103,104,105,106,107,108,109,110,111,112,113,114,115,116,117,118,119,120,121,122,123,124,125,126,127,128,129,130,131,132,133,134,135,136,137,138,139,140,141,142]),none,none,some ([8],[4,8,11,60,61,62,63,64,65,66,67,68,69,70,71,72,73,74,75,76,77]),none,none,none,none,none,none,none,none,none,none,none,none,none,none,none,none,none,none,none,none,none,none,none]
def Mj (h l:Value) (w:World) (K:Value→World→Prop):Prop:= X6 P .len [T.b] T.e [false] [l] w fun c w=>Q3 P .eql T.e (.tmp 17) (.const (.int .i64 0)) c (.int .i64 0) w fun m w=>Q1 m false w (fun w J=>J l w) fun ao w=>Q1 m false w (fun w J=>J h w) fun aa w=>Q1 m false w (Q3 P .eql T.b (.tmp 20) (.tmp 21) ao aa) fun av w=>pick P m (.bool true) av w fun al w=>X1 al (K (.int .i64 0) w) (Q3 P .eql T.e (.tmp 25) (.const (.int .i64 1)) c (.int .i64 1) w fun ai w=>X1 ai (D9 P T.b l (.int .i64 0) w fun be w=>Q0 P F.ar [h,be] w fun ax w=>K ax w) (X6 P .len [T.b] T.e [false] [h] w fun bb w=>Q3 P .geq T.e (.tmp 32) (.tmp 34) c bb w fun ay w=>X1 ay (K (.int .i64 (-1)) w) (Q2 P T.e (.pointer (some ⟨G.c,0,none⟩)) w fun ap w=>Q3 P .leq T.e (.tmp 37) (.tmp 38) c ap w fun k w=>Q1 k true w (fun w J=>J h w) fun ab w=>Q1 k true w (X6 P .len [T.b] T.e [false] [ab]) fun ac w=>Q1 k true w (Q3 P .leq T.e (.tmp 42) (.const (.int .i64 64)) ac (.int .i64 64)) fun ah w=>pick P k ah (.bool false) w fun az w=>X1 az (Q0 P F.c2 [h,l] w fun a4 w=>K a4 w) (D9 P T.b l (.int .i64 0) w fun r w=>D9 P T.b l (.int .i64 1) w fun a9 w=>X6 P .len [T.b] T.e [false] [h] w fun a5 w=>Q3 P .sub T.e (.tmp 53) (.tmp 54) a5 c w fun af w=>Q3 P .add T.e (.tmp 55) (.const (.int .i64 1)) af (.int .i64 1) w fun p w=>lp (α:=Value×Value) ((.int .i64 0),(.int .i64 0)) w fun j g d_ w=>Q3 P .lss T.e (.tmp 57) (.tmp 58) g.1 p w fun a6 w=>X1 a6 (jn (α:=Value) w (fun R w=>D9 P T.b h g.1 w fun bd w=>Q3 P .neq T.w (.tmp 62) (.tmp 63) bd r w fun bc w=>X1 bc (Q3 P .add T.e (.tmp 66) (.const (.int .i64 1)) g.1 (.int .i64 1) w fun a2 w=>H3 P T.b h (some a2) (some p) none w fun a8 w=>Q0 P F.ar [a8,r] w fun D w=>Q3 P .lss T.e (.tmp 72) (.const (.int .i64 0)) D (.int .i64 0) w fun aq w=>X1 aq (K (.int .i64 (-1)) w) (Q3 P .add T.e (.tmp 75) (.const (.int .i64 1)) D (.int .i64 1) w fun am w=>Q3 P .add T.e (.tmp 74) (.tmp 76) g.1 am w fun ba w=>R ba w)) (R g.1 w)) fun i d_ w=>Q3 P .add T.e (.tmp 79) (.const (.int .i64 1)) i (.int .i64 1) w fun an w=>D9 P T.b h an w fun ar w=>Q3 P .eql T.w (.tmp 81) (.tmp 82) ar a9 w fun b w=>Q1 b true w (fun w J=>J h w) fun a7 w=>Q1 b true w (fun w J=>J i w) fun ak w=>Q1 b true w (fun w J=>J i w) fun ae w=>Q1 b true w (fun w J=>J c w) fun a3 w=>Q1 b true w (Q3 P .add T.e (.tmp 87) (.tmp 88) ae a3) fun aj w=>Q1 b true w (H3 P T.b a7 (some ak) (some aj) none) fun ag w=>Q1 b true w (fun w J=>J l w) fun ad w=>Q1 b true w (Q3 P .eql T.b (.tmp 90) (.tmp 91) ag ad) fun aw w=>pick P b aw (.bool false) w fun bf w=>X1 bf (K i w) (Q3 P .add T.e (.tmp 95) (.const (.int .i64 1)) i (.int .i64 1) w fun e w=>Q3 P .add T.e (.tmp 97) (.const (.int .i64 1)) g.2 (.int .i64 1) w fun q w=>Q2 P T.e (.pointer (some ⟨G.c,0,none⟩)) w fun A w=>Q3 P .leq T.e (.tmp 99) (.tmp 100) c A w fun d w=>Q1 d true w (fun w J=>J q w) fun Z w=>Q1 d true w (fun w J=>J e w) fun Q w=>Q1 d true w (Q0 P F.cO [Q]) fun s w=>Q1 d true w (Q3 P .gtr T.e (.tmp 103) (.tmp 105) Z s) fun U w=>pick P d U (.bool false) w fun z w=>X1 z (H3 P T.b h (some e) none none w fun u w=>Q0 P F.c2 [u,l] w fun o w=>Q3 P .geq T.e (.tmp 113) (.const (.int .i64 0)) o (.int .i64 0) w fun L w=>X1 L (Q3 P .add T.e (.tmp 115) (.tmp 116) o e w fun B w=>K B w) (K (.int .i64 (-1)) w)) (Q2 P T.e (.pointer (some ⟨G.c,0,none⟩)) w fun y w=>Q3 P .gtr T.e (.tmp 118) (.tmp 119) c y w fun a w=>Q1 a true w (fun w J=>J q w) fun N w=>Q1 a true w (fun w J=>J e w) fun O w=>Q1 a true w (Q3 P .shr T.e (.tmp 123) (.const (.int .u64 4)) O (.int .u64 4)) fun H w=>Q1 a true w (Q3 P .add T.e (.const (.int .i64 4)) (.tmp 124) (.int .i64 4) H) fun t w=>Q1 a true w (Q3 P .geq T.e (.tmp 122) (.tmp 125) N t) fun E w=>pick P a E (.bool false) w fun f w=>Q1 f true w (fun w J=>J e w) fun V w=>Q1 f true w (fun w J=>J p w) fun C w=>Q1 f true w (Q3 P .lss T.e (.tmp 129) (.tmp 130) V C) fun W w=>pick P f W (.bool false) w fun X w=>X1 X (H3 P T.b h (some e) none none w fun v w=>Q0 P F.cx [v,l] w fun n w=>Q3 P .lss T.e (.tmp 138) (.const (.int .i64 0)) n (.int .i64 0) w fun Y w=>X1 Y (K (.int .i64 (-1)) w) (Q3 P .add T.e (.tmp 140) (.tmp 141) e n w fun M w=>K M w)) (j (e,q) w)))) (K (.int .i64 (-1)) w)))))
theorem Ks {b a:Value} {w:World} {K:Value→World→Prop} (h:Mj b a w K):Q0 P F.bp [b,a] w K:=Q9 Kt Tryz.func222 rfl (by decide) (by kernel_rfl) h
def Oo (l n:Value) (w:World) (K:Value→World→Prop):Prop:= Q0 P F.bp [l,n] w fun g w=>Q3 P .geq T.e (.tmp 11) (.const (.int .i64 0)) g (.int .i64 0) w fun m w=>X1 m (dr w fun e k=>Q7 e (fun h=> ∀w,k w→H3 P T.b l none (some g) none w (dk e h w)) fun h=>Q7 e (fun c=> ∀w,k w→X6 P .len [T.b] T.e [false] [n] w (dk e c w)) fun c=>Q7 e (fun b=> ∀a w,k w→c a w→Q3 P .add T.e (.tmp 17) (.tmp 19) g a w (dk e b w)) fun b=>Q7 e (fun f=> ∀d w,k w→b d w→H3 P T.b l (some d) none none w (dk e f w)) fun f=>∀i a d j w,k w→h i w→c a w→b d w→f j w→ K (.tuple #[i,j,(.bool true)]) w) (K (.tuple #[l,(.string ⟨#[]⟩),(.bool false)]) w)
theorem Q0e {b a:Value} {w:World} {K:Value→World→Prop} (h:Oo b a w K):Q0 P F.cw [b,a] w K:=Q9 (List.replicate 6 none) Tryz.func207 rfl (by decide) (by kernel_rfl) h
def Gt (f e:Value) (w:World) (K:Value→World→Prop):Prop:= Q0 P F.cw [f,e] w fun b w=>ext P b 0 w fun a w=>ext P b 1 w fun d w=>ext P b 2 w fun c w=>K (.tuple #[a,d,c]) w
theorem Q3q {b a:Value} {w:World} {K:Value→World→Prop} (h:Gt b a w K):Q0 P F.cd [b,a] w K:=Q9 (List.replicate 2 none) Tryz.func178 rfl (by decide) (by kernel_rfl) h
def Aa (t:Value) (w:World) (K:Value→World→Prop):Prop:= Q0 P F.cd [t,(.string ⟨#[46]⟩)] w fun d w=>ext P d 0 w fun f w=>ext P d 1 w fun e w=>ext P d 2 w fun g w=>J0 P .not g w fun b w=>Q1 b false w (fun w J=>J f w) fun n w=>Q1 b false w (Q0 P F.af [n]) fun s w=>Q1 b false w (J0 P .not s) fun m w=>pick P b (.bool true) m w fun c w=>Q1 c false w (fun w J=>J e w) fun o w=>Q1 c false w (Q0 P F.bF [o]) fun l w=>Q1 c false w (J0 P .not l) fun i w=>pick P c (.bool true) i w fun a w=>Q1 a false w (fun w J=>J e w) fun h w=>Q1 a false w (D9 P T.b h (.int .i64 0)) fun k w=>Q1 a false w (conv P T.w T.af k) fun p w=>Q1 a false w (Q0 P F.bT [p]) fun q w=>Q1 a false w (J0 P .not q) fun r w=>pick P a (.bool true) r w fun j w=>X1 j (K (.tuple #[(.string ⟨#[]⟩),(.string ⟨#[]⟩),(.int .i64 30)]) w) (K (.tuple #[f,e,(.int .i64 0)]) w)
theorem Q4j {a:Value} {w:World} {K:Value→World→Prop} (h:Aa a w K):Q0 P F.cu [a] w K:=Q9 (List.replicate 6 none) Tryz.func130 rfl (by decide) (by kernel_rfl) h
end Go.Proofs.YtfppjenblllfaaaGreatDoor

set_option maxRecDepth 100000
namespace Go.Proofs.YtfppjenblllfaaaGreatDoor
open Go.Emb
def Q0K (d:Value) (w:World) (K:Value→World→Prop):Prop:= Q0 P F.c5 [d] w fun c w=>ext P c 0 w fun f w=>ext P c 1 w fun e w=>Q0 P F.a2 [d] w fun b w=>J0 P .not b w fun a w=>X1 a (K (.int .i64 0) w) (K e w)
theorem Q5g {a:Value} {w:World} {K:Value→World→Prop} (h:Q0K a w K):Q0 P F.cD [a] w K:=Q9 (List.replicate 6 none) Tryz.func228 rfl (by decide) (by kernel_rfl) h
def Q5O:V1:=[none,none,none,none,none,none,none,some ([27],[27,28,29]),none,none,none,none,none,none]
def Q0A (g d:Value) (w:World) (K:Value→World→Prop):Prop:= Q3 P .eql T.b (.tmp 8) (.const (.string ⟨#[119,111,114,100]⟩)) g (.string ⟨#[119,111,114,100]⟩) w fun p w=>X1 p (X6 P .len [T.b] T.e [false] [d] w fun E w=>Q3 P .leq T.e (.tmp 12) (.const (.int .i64 64)) E (.int .i64 64) w fun e w=>Q1 e true w (fun w J=>J d w) fun q w=>Q1 e true w (Q0 P F.bx [q]) fun H w=>pick P e H (.bool false) w fun b w=>Q1 b true w (fun w J=>J d w) fun y w=>Q1 b true w (Q0 P F.cn [y,(.string ⟨#[10]⟩)]) fun A w=>Q1 b true w (J0 P .not A) fun j w=>pick P b j (.bool false) w fun C w=>K C w) (Q3 P .eql T.b (.tmp 8) (.const (.string ⟨#[110,101,119]⟩)) g (.string ⟨#[110,101,119]⟩) w fun s w=>X1 s (Q0 P F.af [d] w fun u w=>K u w) (jn (α:=Value) w (fun L w=>Q3 P .eql T.b (.tmp 8) (.const (.string ⟨#[105,115]⟩)) g (.string ⟨#[105,115]⟩) w fun h w=>X1 h (L h w) (Q3 P .eql T.b (.tmp 8) (.const (.string ⟨#[99,97,115,116]⟩)) g (.string ⟨#[99,97,115,116]⟩) w fun D w=>L D w)) fun N Q w=>X1 N (Q0 P F.a2 [d] w fun c w=>Q1 c true w (fun w J=>J d w) fun z w=>Q1 c true w (Q0 P F.ad [z]) fun t w=>Q1 c true w (J0 P .not t) fun i w=>pick P c i (.bool false) w fun o w=>K o w) (Q3 P .eql T.b (.tmp 8) (.const (.string ⟨#[97,114,114,97,121]⟩)) g (.string ⟨#[97,114,114,97,121]⟩) w fun B w=>X1 B (Q0 P F.a2 [d] w fun a w=>Q1 a true w (fun w J=>J d w) fun m w=>Q1 a true w (Q0 P F.cD [m]) fun v w=>Q1 a true w (Q3 P .lss T.e (.tmp 43) (.const (.int .i64 3)) v (.int .i64 3)) fun k w=>pick P a k (.bool false) w fun l w=>K l w) (Q0 P F.cu [d] w fun f w=>ext P f 0 w fun M w=>ext P f 1 w fun O w=>ext P f 2 w fun r w=>Q3 P .eql T.r (.tmp 52) (.const (.int .i64 0)) r (.int .i64 0) w fun n w=>K n w))))
theorem Q5z {b a:Value} {w:World} {K:Value→World→Prop} (h:Q0A b a w K):Q0 P F.cB [b,a] w K:=Q9 Q5O Tryz.func216 rfl (by decide) (by kernel_rfl) h
def Q4C:V1:=[none,none,none,none,none,some ([16],[16,17,18,19,20,21,22,23,24,25,26,27,28,29,30,31,32,33,34,35,36,37,38,39]),none,none,none,none]
def Kx (A:Value) (w:World) (K:Value→World→Prop):Prop:= box P T.n A w fun a w=>fieldAddr P T.n a 0 w fun B w=>Q2 P T.b B w fun C w=>Q0 P F.bV [C] w fun q w=>ext P q 0 w fun l w=>ext P q 1 w fun b w=>ext P q 2 w fun y w=>J0 P .not y w fun m w=>X1 m (K (.int .i64 40) w) (jn (α:=Value) w (fun z w=>J0 P .not l w fun d w=>Q1 d true w (fieldAddr P T.n a 1) fun s w=>Q1 d true w (Q2 P T.al s) fun h w=>Q1 d true w (Q3 P .neq T.al (.tmp 21) (.const (.int .i64 0)) h (.int .i64 0)) fun u w=>pick P d u (.bool false) w fun e w=>X1 e (z e w) (J0 P .not b w fun c w=>Q1 c true w (fieldAddr P T.n a 2) fun n w=>Q1 c true w (Q2 P T.b n) fun p w=>Q1 c true w (Q3 P .neq T.b (.tmp 28) (.const (.string ⟨#[]⟩)) p (.string ⟨#[]⟩)) fun v w=>pick P c v (.bool false) w fun f w=>X1 f (z f w) (Q1 b true w (fieldAddr P T.n a 0) fun r w=>Q1 b true w (Q2 P T.b r) fun o w=>Q1 b true w (fieldAddr P T.n a 2) fun g w=>Q1 b true w (Q2 P T.b g) fun k w=>Q1 b true w (Q0 P F.cB [o,k]) fun i w=>Q1 b true w (J0 P .not i) fun t w=>pick P b t (.bool false) w fun j w=>z j w))) fun D E w=>X1 D (K (.int .i64 41) w) (K (.int .i64 0) w))
theorem Q4a {a:Value} {w:World} {K:Value→World→Prop} (h:Kx a w K):Q0 P F.cv [a] w K:=Q9 Q4C Tryz.func198 rfl (by decide) (by kernel_rfl) h
def Ef (e:Value) (w:World) (K:Value→World→Prop):Prop:= box P T.n e w fun a w=>Q2 P T.n a w fun d w=>Q0 P F.cv [d] w fun b w=>Q3 P .eql T.r (.tmp 4) (.const (.int .i64 0)) b (.int .i64 0) w fun c w=>K c w
theorem Q0U {a:Value} {w:World} {K:Value→World→Prop} (h:Ef a w K):Q0 P F.b2 [a] w K:=Q9 (List.replicate 2 none) Tryz.func197 rfl (by decide) (by kernel_rfl) h
def Qv:V1:=[none,none,none,some ([8],[4,5,8,9,10,11,12,13,14,15,16,17,18]),none,none,none,none,none,none,none]
def R4 (g j:Value) (w:World) (K:Value→World→Prop):Prop:= X6 P .len [T.o] T.e [false] [g] w fun h w=>lp (α:=Value) (.int .i64 0) w fun a b k w=>Q3 P .lss T.e (.tmp 8) (.tmp 7) b h w fun i w=>X1 i (indexAddr P T.o g b w fun c w=>Q2 P T.p c w fun d w=>Z0 P j [d] w fun f w=>X1 f (K b w) (Q3 P .add T.e (.tmp 8) (.const (.int .i64 1)) b (.int .i64 1) w fun e w=>a e w)) (K (.int .i64 (-1)) w)
theorem Qs {b a:Value} {w:World} {K:Value→World→Prop} (h:R4 b a w K):Q0 P F.a0 [b,a] w K:=Q9 Qv Tryz.func229 rfl (by decide) (by kernel_rfl) h
def H0 (c d:Value) (w:World) (K:Value→World→Prop):Prop:= Q0 P F.a0 [c,d] w fun a w=>Q3 P .geq T.e (.tmp 7) (.const (.int .i64 0)) a (.int .i64 0) w fun b w=>K b w
theorem T0 {b a:Value} {w:World} {K:Value→World→Prop} (h:H0 b a w K):Q0 P F.m [b,a] w K:=Q9 (List.replicate 2 none) Tryz.func217 rfl (by decide) (by kernel_rfl) h
def Yc (g f:Value) (w:World) (K:Value→World→Prop):Prop:= box P T.p g w fun a w=>Q2 P T.aa f w fun b w=>Q2 P T.p a w fun e w=>Z0 P b [e] w fun d w=>J0 P .not d w fun c w=>K c w
theorem Ou {b a:Value} {w:World} {K:Value→World→Prop} (h:Yc b a w K):Q0 P F.bC [b,a] w K:=Q9 (List.replicate 2 none) Tryz.func218 rfl (by decide) (by kernel_rfl) h
def Jc (e f:Value) (w:World) (K:Value→World→Prop):Prop:= box P T.aa f w fun a w=>M4 P (.func F.bC) [] [a] w fun c w=>Q0 P F.m [e,c] w fun b w=>J0 P .not b w fun d w=>K d w
theorem Hr {b a:Value} {w:World} {K:Value→World→Prop} (h:Jc b a w K):Q0 P F.aq [b,a] w K:=Q9 (List.replicate 2 none) Tryz.func199 rfl (by decide) (by kernel_rfl) h
def Cc (a0:Value) (w:World) (K:Value→World→Prop):Prop:= box P T.c a0 w fun b w=>fieldAddr P T.c b 0 w fun t5 w=>Q2 P T.b t5 w fun t6 w=>Q0 P F.bv [t6] w fun t7 w=>J0 P .not t7 w fun i w=>Q1 i false w (fieldAddr P T.c b 1) fun D w=>Q1 i false w (Q2 P T.d D) fun C w=>Q1 i false w (Q0 P F.a4 [C,(.func (.func F.a2) #[] #[])]) fun ak w=>Q1 i false w (J0 P .not ak) fun u w=>pick P i (.bool true) u w fun c w=>Q1 c false w (fieldAddr P T.c b 2) fun am w=>Q1 c false w (Q2 P T.b am) fun ab w=>Q1 c false w (Q3 P .neq T.b (.tmp 17) (.const (.string ⟨#[]⟩)) ab (.string ⟨#[]⟩)) fun Z w=>Q1 c false w (fun w J=>J Z w) fun e w=>Q1 e true w (fieldAddr P T.c b 2) fun af w=>Q1 e true w (Q2 P T.b af) fun k w=>Q1 e true w (Q0 P F.a2 [k]) fun ah w=>Q1 e true w (J0 P .not ah) fun W w=>Q1 c false w (pick P e W (.bool false)) fun N w=>pick P c (.bool true) N w fun E w=>X1 E (K (.bool false) w) (fieldAddr P T.c b 3 w fun R w=>Q2 P T.m R w fun al w=>X1 al (fieldAddr P T.c b 4 w fun V w=>Q2 P T.e V w fun ai w=>Q3 P .eql T.e (.tmp 29) (.const (.int .i64 0)) ai (.int .i64 0) w fun f w=>Q1 f true w (fieldAddr P T.c b 5) fun O w=>Q1 f true w (Q2 P T.l O) fun ae w=>Q1 f true w (X6 P .len [T.l] T.e [false] [ae]) fun Q w=>Q1 f true w (Q3 P .eql T.e (.tmp 34) (.const (.int .i64 0)) Q (.int .i64 0)) fun j w=>pick P f j (.bool false) w fun d w=>Q1 d true w (fieldAddr P T.c b 6) fun ag w=>Q1 d true w (Q2 P T.o ag) fun B w=>Q1 d true w (X6 P .len [T.o] T.e [false] [B]) fun H w=>Q1 d true w (Q3 P .eql T.e (.tmp 40) (.const (.int .i64 0)) H (.int .i64 0)) fun m w=>pick P d m (.bool false) w fun s w=>K s w) (fieldAddr P T.c b 5 w fun U w=>Q2 P T.l U w fun l w=>X6 P .len [T.l] T.e [false] [l] w fun o w=>W3 P T.e w fun t3 w=>Z3 P T.e t3 o w fun _u w=>M4 P (.func F.b1) [] [t3] w fun ac w=>Q2 P T.e t3 w fun t w=>Q3 P .gtr T.e (.tmp 47) (.const (.int .i64 0)) t (.int .i64 0) w fun a w=>Q1 a true w (fieldAddr P T.c b 4) fun aj w=>Q1 a true w (Q2 P T.e aj) fun M w=>Q1 a true w (fieldAddr P T.c b 1) fun r w=>Q1 a true w (Q2 P T.d r) fun v w=>Q1 a true w (X6 P .len [T.d] T.e [false] [v]) fun X w=>Q1 a true w (Q3 P .gtr T.e (.tmp 51) (.tmp 54) M X) fun L w=>pick P a L (.bool false) w fun h w=>Q1 h true w (fieldAddr P T.c b 5) fun aa w=>Q1 h true w (Q2 P T.l aa) fun y w=>Q1 h true w (Q0 P F.ap [y,(.func (.func F.b2) #[] #[])]) fun n w=>pick P h n (.bool false) w fun g w=>Q1 g true w (fieldAddr P T.c b 6) fun z w=>Q1 g true w (Q2 P T.o z) fun Y w=>Q1 g true w (fun w J=>J ac w) fun A w=>Q1 g true w (Q0 P F.aq [Y,A]) fun p w=>pick P g p (.bool false) w fun q w=>K q w))
theorem Q24 {a:Value} {w:World} {K:Value→World→Prop} (h:Cc a w K):Q0 P F.aU [a] w K:=Q9 (List.replicate 10 none) Tryz.func156 rfl (by decide) (by kernel_rfl) h
def Ib (a0:Value) (w:World) (K:Value→World→Prop):Prop:= box P T.a a0 w fun b w=>fieldAddr P T.a b 0 w fun t7 w=>Q2 P T.b t7 w fun t8 w=>fieldAddr P T.a b 1 w fun t9 w=>Q2 P T.b t9 w fun U w=>buildSlice P T.d 2 [(0,t8),(1,U)] w fun az w=>fieldAddr P T.a b 2 w fun ag w=>Q2 P T.d ag w fun av w=>X6 P .append [T.d,T.d] T.d [false,false] [az,av] w fun p w=>dr w fun o u=>Q7 o (fun n=> ∀w,u w→H3 P T.d p (some (.int .i64 1)) none none w (dk o n w)) fun n=>Q7 o (fun f=> ∀w,u w→fieldAddr P T.a b 0 w (dk o f w)) fun f=>Q7 o (fun m=> ∀k w,u w→f k w→Q2 P T.b k w (dk o m w)) fun m=>∀t k s w,u w→n t w→f k w→m s w→ Q0 P F.ab [t,s] w fun a9 w=>fieldAddr P T.a b 7 w fun ab w=>Q2 P T.g ab w fun y w=>Q0 P F.a [y,(.func (.func F.bW) #[] #[])] w fun ae w=>fieldAddr P T.a b 7 w fun Z w=>Q2 P T.g Z w fun W w=>Q0 P F.a [W,(.func (.func F.bX) #[] #[])] w fun R w=>Q0 P F.a4 [p,(.func (.func F.af) #[] #[])] w fun a7 w=>J0 P .not a7 w fun r w=>Q1 r false w (fun w J=>J a9 w) fun aj w=>pick P r (.bool true) aj w fun c w=>Q1 c false w (fieldAddr P T.a b 2) fun a5 w=>Q1 c false w (Q2 P T.d a5) fun am w=>Q1 c false w (Q0 P F.aI [am,(.func (.func F.bY) #[] #[])]) fun a1 w=>Q1 c false w (J0 P .not a1) fun E w=>pick P c (.bool true) E w fun ac w=>X1 ac (K (.bool false) w) (fieldAddr P T.a b 3 w fun a2 w=>Q2 P T.m a2 w fun a w=>Q1 a true w (fieldAddr P T.a b 4) fun X w=>Q1 a true w (Q2 P T.m X) fun an w=>Q1 a true w (J0 P .not an) fun ao w=>Q1 a true w (fun w J=>J ao w) fun h w=>Q1 h false w (fieldAddr P T.a b 1) fun ar w=>Q1 h false w (Q2 P T.b ar) fun al w=>Q1 h false w (Q3 P .neq T.b (.tmp 48) (.const (.string ⟨#[79,98,106,101,99,116]⟩)) al (.string ⟨#[79,98,106,101,99,116]⟩)) fun v w=>Q1 a true w (pick P h (.bool true) v) fun bc w=>Q1 a true w (fun w J=>J bc w) fun e w=>Q1 e false w (fieldAddr P T.a b 6) fun D w=>Q1 e false w (Q2 P T.i D) fun aw w=>Q1 e false w (X6 P .len [T.i] T.e [false] [aw]) fun aa w=>Q1 e false w (Q3 P .gtr T.e (.tmp 54) (.const (.int .i64 0)) aa (.int .i64 0)) fun N w=>Q1 a true w (pick P e (.bool true) N) fun Q w=>Q1 a true w (fun w J=>J Q w) fun q w=>Q1 q false w (fun w J=>J R w) fun a8 w=>Q1 a true w (pick P q (.bool true) a8) fun ax w=>pick P a ax (.bool false) w fun B w=>X1 B (K (.bool false) w) (fieldAddr P T.a b 4 w fun ba w=>Q2 P T.m ba w fun l w=>Q1 l true w (fieldAddr P T.a b 5) fun L w=>Q1 l true w (Q2 P T.m L) fun C w=>pick P l C (.bool false) w fun i w=>Q1 i false w (fun w J=>J ae w) fun a3 w=>Q1 i false w (fun w J=>J a3 w) fun j w=>Q1 j true w (fieldAddr P T.a b 4) fun af w=>Q1 j true w (Q2 P T.m af) fun O w=>Q1 j true w (J0 P .not O) fun ad w=>Q1 i false w (pick P j ad (.bool false)) fun ai w=>pick P i (.bool true) ai w fun bb w=>X1 bb (K (.bool false) w) (fieldAddr P T.a b 6 w fun a4 w=>Q2 P T.i a4 w fun A w=>Q0 P F.aw [A,(.func (.func F.bZ) #[] #[])] w fun V w=>J0 P .not V w fun d w=>Q1 d false w (fieldAddr P T.a b 7) fun z w=>Q1 d false w (Q2 P T.g z) fun aq w=>Q1 d false w (Q0 P F.am [aq,(.func (.func F.c0) #[] #[])]) fun ak w=>Q1 d false w (J0 P .not ak) fun ay w=>pick P d (.bool true) ay w fun Y w=>X1 Y (K (.bool false) w) (fieldAddr P T.a b 6 w fun M w=>Q2 P T.i M w fun ap w=>Q0 P F.an [ap,(.func (.func F.bi) #[] #[])] w fun g w=>Q1 g true w (fieldAddr P T.a b 7) fun H w=>Q1 g true w (Q2 P T.g H) fun ah w=>Q1 g true w (Q0 P F.aj [ah,(.func (.func F.aU) #[] #[])]) fun bd w=>pick P g bd (.bool false) w fun a6 w=>K a6 w))))
theorem Q3v {a:Value} {w:World} {K:Value→World→Prop} (h:Ib a w K):Q0 P F.cc [a] w K:=Q9 (List.replicate 15 none) Tryz.func95 rfl (by decide) (by kernel_rfl) h
def Gx (g:Value) (w:World) (K:Value→World→Prop):Prop:= box P T.a g w fun a w=>Q2 P T.a a w fun b w=>Q0 P F.ct [b] w fun e w=>X1 e (K (.int .i64 51) w) (Q2 P T.a a w fun c w=>Q0 P F.cc [c] w fun f w=>J0 P .not f w fun d w=>X1 d (K (.int .i64 50) w) (K (.int .i64 0) w))
theorem Q3k {a:Value} {w:World} {K:Value→World→Prop} (h:Gx a w K):Q0 P F.ca [a] w K:=Q9 (List.replicate 7 none) Tryz.func45 rfl (by decide) (by kernel_rfl) h
def R1 (a:Value) (w:World) (K:Value→World→Prop):Prop:= Q3 P .eql T.d (.tmp 3) (.const (.slice none 0 0)) a (.slice none 0 0) w fun b w=>X1 b (K (.slice none 0 0) w) (buildSlice P T.d 0 [] w fun d w=>X6 P .append [T.d,T.d] T.d [false,false] [d,a] w fun c w=>K c w)
theorem I9 {a:Value} {w:World} {K:Value→World→Prop} (h:R1 a w K):Q0 P F.b [a] w K:=Q9 (List.replicate 5 none) Tryz.func35 rfl (by decide) (by kernel_rfl) h
def B3 (a:Value) (w:World) (K:Value→World→Prop):Prop:= Q3 P .eql T.i (.tmp 3) (.const (.slice none 0 0)) a (.slice none 0 0) w fun b w=>X1 b (K (.slice none 0 0) w) (buildSlice P T.i 0 [] w fun d w=>X6 P .append [T.i,T.i] T.i [false,false] [d,a] w fun c w=>K c w)
theorem Yv {a:Value} {w:World} {K:Value→World→Prop} (h:B3 a w K):Q0 P F.a7 [a] w K:=Q9 (List.replicate 5 none) Tryz.func96 rfl (by decide) (by kernel_rfl) h
def B4 (a:Value) (w:World) (K:Value→World→Prop):Prop:= Q3 P .eql T.l (.tmp 3) (.const (.slice none 0 0)) a (.slice none 0 0) w fun b w=>X1 b (K (.slice none 0 0) w) (buildSlice P T.l 0 [] w fun d w=>X6 P .append [T.l,T.l] T.l [false,false] [d,a] w fun c w=>K c w)
theorem Ys {a:Value} {w:World} {K:Value→World→Prop} (h:B4 a w K):Q0 P F.a8 [a] w K:=Q9 (List.replicate 5 none) Tryz.func157 rfl (by decide) (by kernel_rfl) h
def B7 (a:Value) (w:World) (K:Value→World→Prop):Prop:= Q3 P .eql T.o (.tmp 3) (.const (.slice none 0 0)) a (.slice none 0 0) w fun b w=>X1 b (K (.slice none 0 0) w) (buildSlice P T.o 0 [] w fun d w=>X6 P .append [T.o,T.o] T.o [false,false] [d,a] w fun c w=>K c w)
theorem Zg {a:Value} {w:World} {K:Value→World→Prop} (h:B7 a w K):Q0 P F.a9 [a] w K:=Q9 (List.replicate 5 none) Tryz.func158 rfl (by decide) (by kernel_rfl) h
def Ic (D:Value) (w:World) (K:Value→World→Prop):Prop:= box P T.c D w fun a w=>W3 P T.c w fun B w=>dr w fun b c=>Q7 b (fun o=> ∀w,c w→fieldAddr P T.c a 1 w (dk b o w)) fun o=>Q7 b (fun k=> ∀w,c w→fieldAddr P T.c a 5 w (dk b k w)) fun k=>Q7 b (fun q=> ∀w,c w→fieldAddr P T.c a 6 w (dk b q w)) fun q=>Q7 b (fun j=> ∀r w,c w→o r w→Q2 P T.d r w (dk b j w)) fun j=>Q7 b (fun t=> ∀s w,c w→j s w→Q0 P F.b [s] w (dk b t w)) fun t=>Q7 b (fun l=> ∀n w,c w→k n w→Q2 P T.l n w (dk b l w)) fun l=>Q7 b (fun v=> ∀m w,c w→l m w→Q0 P F.a8 [m] w (dk b v w)) fun v=>Q7 b (fun d=> ∀p w,c w→q p w→Q2 P T.o p w (dk b d w)) fun d=>Q7 b (fun g=> ∀w,c w→fieldAddr P T.c a 1 w (dk b g w)) fun g=>Q7 b (fun f=> ∀e w,c w→d e w→Q0 P F.a9 [e] w (dk b f w)) fun f=>∀r n p s A m C e i h w,c w→o r w→k n w→q p w→j s w→t A w→l m w→v C w→d e w→g i w→f h w→ Z3 P T.d i A w fun _u w=>fieldAddr P T.c a 5 w fun u w=>Z3 P T.l u C w fun _u w=>fieldAddr P T.c a 6 w fun y w=>Z3 P T.o y h w fun _u w=>Q2 P T.c a w fun z w=>Z3 P T.c B z w fun _u w=>V4 P T.c B w fun E=>K E w
theorem Q3s {a:Value} {w:World} {K:Value→World→Prop} (h:Ic a w K):Q0 P F.bH [a] w K:=Q9 (List.replicate 3 none) Tryz.func97 rfl (by decide) (by kernel_rfl) h
def Q3r:V1:=[none,none,none,none,none,some ([3,17],[3,5,17,18,19,20,21,22,23,24,25,26]),none,none,none,none,none,none]
def Ie (Q:Value) (w:World) (K:Value→World→Prop):Prop:= box P T.a Q w fun a w=>W3 P T.a w fun N w=>dr w fun b g=>Q7 b (fun n=> ∀w,g w→fieldAddr P T.a a 2 w (dk b n w)) fun n=>Q7 b (fun s=> ∀w,g w→fieldAddr P T.a a 6 w (dk b s w)) fun s=>Q7 b (fun o=> ∀q w,g w→n q w→Q2 P T.d q w (dk b o w)) fun o=>Q7 b (fun u=> ∀p w,g w→o p w→Q0 P F.b [p] w (dk b u w)) fun u=>Q7 b (fun d=> ∀r w,g w→s r w→Q2 P T.i r w (dk b d w)) fun d=>Q7 b (fun i=> ∀w,g w→fieldAddr P T.a a 2 w (dk b i w)) fun i=>Q7 b (fun h=> ∀e w,g w→d e w→Q0 P F.a7 [e] w (dk b h w)) fun h=>∀q r p O e m k w,g w→n q w→s r w→o p w→u O w→d e w→i m w→h k w→ Z3 P T.d m O w fun _u w=>fieldAddr P T.a a 6 w fun t w=>Z3 P T.i t k w fun _u w=>fieldAddr P T.a a 7 w fun v w=>Q2 P T.g v w fun l w=>X6 P .len [T.g] T.e [false] [l] w fun M w=>lp (α:=Value×Value) ((.slice none 0 0),(.int .i64 0)) w fun f j U w=>Q3 P .lss T.e (.tmp 17) (.tmp 16) j.2 M w fun L w=>X1 L (indexAddr P T.g l j.2 w fun D w=>Q2 P T.c D w fun E w=>W3 P T.c w fun c w=>Z3 P T.c c E w fun _u w=>Q2 P T.c c w fun H w=>Q0 P F.bH [H] w fun C w=>buildSlice P T.g 1 [(0,C)] w fun z w=>X6 P .append [T.g,T.g] T.g [false,false] [j.1,z] w fun y w=>Q3 P .add T.e (.tmp 17) (.const (.int .i64 1)) j.2 (.int .i64 1) w fun A w=>f (y,A) w) (fieldAddr P T.a a 7 w fun B w=>Z3 P T.g B j.1 w fun _u w=>Q2 P T.a a w fun J w=>Z3 P T.a N J w fun _u w=>V4 P T.a N w fun R=>K R w)
theorem Q3l {a:Value} {w:World} {K:Value→World→Prop} (h:Ie a w K):Q0 P F.cb [a] w K:=Q9 Q3r Tryz.func46 rfl (by decide) (by kernel_rfl) h
def Li (r v:Value) (w:World) (K:Value→World→Prop):Prop:= W3 P T.a w fun s w=>dr w fun a h=>Q7 a (fun k=> ∀w,h w→nilCheck P r w (dk a k w)) fun k=>Q7 a (fun l=> ∀n w,h w→k n w→fieldAddr P T.u n 0 w (dk a l w)) fun l=>Q7 a (fun c=> ∀w,h w→nilCheck P r w (dk a c w)) fun c=>Q7 a (fun b=> ∀e w,h w→c e w→fieldAddr P T.u e 1 w (dk a b w)) fun b=>Q7 a (fun o=> ∀m w,h w→l m w→Q2 P T.h m w (dk a o w)) fun o=>Q7 a (fun f=> ∀d w,h w→b d w→Q2 P T.v d w (dk a f w)) fun f=>Q7 a (fun i=> ∀g w,h w→f g w→lookup P T.v g v false w (dk a i w)) fun i=>∀n m e d t g j w,h w→k n w→l m w→c e w→b d w→o t w→f g w→i j w→ indexAddr P T.h t j w fun p w=>Q2 P T.a p w fun q w=>Z3 P T.a s q w fun _u w=>V4 P T.a s w fun u=>K u w
theorem Gs {b a:Value} {w:World} {K:Value→World→Prop} (h:Li b a w K):Q0 P F.h [b,a] w K:=Q9 (List.replicate 2 none) Tryz.func60 rfl (by decide) (by kernel_rfl) h
def Sx:V1:=[none,none,none,none,none,none,some ([29],[4,6,29,30,31,32,33,34,35,36,37,38,39,40,41,42,43,44]),none,none,none,none,none,none,none]
def Vj (f R:Value) (w:World) (K:Value→World→Prop):Prop:= box P T.a R w fun a w=>fieldAddr P T.a a 1 w fun Q w=>Q2 P T.b Q w fun O w=>Q0 P F.k [f,O] w fun r w=>J0 P .not r w fun b w=>Q1 b false w (fun w J=>J f w) fun o w=>Q1 b false w (fieldAddr P T.a a 1) fun q w=>Q1 b false w (Q2 P T.b q) fun s w=>Q1 b false w (Q0 P F.h [o,s]) fun N w=>Q1 b false w (Vv P T.a N 3) fun C w=>pick P b (.bool true) C w fun d w=>Q1 d false w (fun w J=>J f w) fun D w=>Q1 d false w (fieldAddr P T.a a 1) fun k w=>Q1 d false w (Q2 P T.b k) fun H w=>Q1 d false w (Q0 P F.h [D,H]) fun B w=>Q1 d false w (Vv P T.a B 5) fun v w=>pick P d (.bool true) v w fun t w=>X1 t (K (.int .i64 61) w) (fieldAddr P T.a a 2 w fun y w=>Q2 P T.d y w fun h w=>X6 P .len [T.d] T.e [false] [h] w fun A w=>lp (α:=Value) (.int .i64 0) w fun e i U w=>Q3 P .lss T.e (.tmp 29) (.tmp 28) i A w fun L w=>X1 L (indexAddr P T.d h i w fun M w=>Q2 P T.b M w fun g w=>Q0 P F.k [f,g] w fun j w=>J0 P .not j w fun c w=>Q1 c false w (fun w J=>J f w) fun E w=>Q1 c false w (fun w J=>J g w) fun p w=>Q1 c false w (Q0 P F.h [E,p]) fun u w=>Q1 c false w (Vv P T.a u 3) fun m w=>Q1 c false w (J0 P .not m) fun n w=>pick P c (.bool true) n w fun z w=>X1 z (K (.int .i64 62) w) (Q3 P .add T.e (.tmp 29) (.const (.int .i64 1)) i (.int .i64 1) w fun l w=>e l w)) (K (.int .i64 0) w))
theorem Sp {b a:Value} {w:World} {K:Value→World→Prop} (h:Vj b a w K):Q0 P F.aW [b,a] w K:=Q9 Sx Tryz.func47 rfl (by decide) (by kernel_rfl) h
def Qz:V1:=[none,none,none,some ([8],[4,5,8,9,10,11,12,13,14,15,16,17,18]),none,none,none,none,none,none,none]
def R2 (g j:Value) (w:World) (K:Value→World→Prop):Prop:= X6 P .len [T.h] T.e [false] [g] w fun h w=>lp (α:=Value) (.int .i64 0) w fun a b k w=>Q3 P .lss T.e (.tmp 8) (.tmp 7) b h w fun i w=>X1 i (indexAddr P T.h g b w fun c w=>Q2 P T.a c w fun d w=>Z0 P j [d] w fun f w=>X1 f (K b w) (Q3 P .add T.e (.tmp 8) (.const (.int .i64 1)) b (.int .i64 1) w fun e w=>a e w)) (K (.int .i64 (-1)) w)
theorem Qw {b a:Value} {w:World} {K:Value→World→Prop} (h:R2 b a w K):Q0 P F.o [b,a] w K:=Q9 Qz Tryz.func48 rfl (by decide) (by kernel_rfl) h
def Fp:V1:=[none,none,none,some ([7],[6,7,9,10,11,12,16,17,18,19,20,21,22,23,24,25,26,27,28,29,30,31,32,33,34,35,36,37,38,39,40,41,42,43,44,45,46,47,48,49,50,51,52]),none,none,none,none,none,none,none,none,none,none,none,none,none]
def La (R V W:Value) (w:World) (K:Value→World→Prop):Prop:= buildSlice P T.d 1 [(0,V)] w fun C w=>Re P T.v none w fun r w=>lp (α:=Value) C w fun b A X w=>X6 P .len [T.d] T.e [false] [A] w fun M w=>Q3 P .gtr T.e (.tmp 17) (.const (.int .i64 0)) M (.int .i64 0) w fun Q w=>X1 Q (indexAddr P T.d A (.int .i64 0) w fun O w=>Q2 P T.b O w fun e w=>H3 P T.d A (some (.int .i64 1)) none none w fun u w=>lookup P T.v r e true w fun t w=>ext P t 0 w fun U w=>ext P t 1 w fun d w=>Q1 d false w (fun w J=>J R w) fun E w=>Q1 d false w (fun w J=>J e w) fun N w=>Q1 d false w (Q0 P F.k [E,N]) fun H w=>Q1 d false w (J0 P .not H) fun v w=>pick P d (.bool true) v w fun D w=>X1 D (b u w) (mapUpdate P T.v r e (.int .i64 1) w fun _u w=>Q0 P F.h [R,e] w fun z w=>W3 P T.a w fun a w=>Z3 P T.a a z w fun _u w=>Q2 P T.a a w fun L w=>Z0 P W [L] w fun y w=>X1 y (K (.bool true) w) (dr w fun c p=>Q7 c (fun h=> ∀w,p w→fieldAddr P T.a a 1 w (dk c h w)) fun h=>Q7 c (fun i=> ∀w,p w→fieldAddr P T.a a 2 w (dk c i w)) fun i=>Q7 c (fun l=> ∀j w,p w→h j w→Q2 P T.b j w (dk c l w)) fun l=>Q7 c (fun g=> ∀f w,p w→l f w→buildSlice P T.d 1 [(0,f)] w (dk c g w)) fun g=>Q7 c (fun n=> ∀m w,p w→g m w→X6 P .append [T.d,T.d] T.d [false,false] [u,m] w (dk c n w)) fun n=>Q7 c (fun o=> ∀k w,p w→i k w→Q2 P T.d k w (dk c o w)) fun o=>∀j k f m q s w,p w→h j w→i k w→l f w→g m w→n q w→o s w→ X6 P .append [T.d,T.d] T.d [false,false] [q,s] w fun B w=>b B w))) (K (.bool false) w)
theorem Be {b a c:Value} {w:World} {K:Value→World→Prop} (h:La b a c w K):Q0 P F.u [b,a,c] w K:=Q9 Fp Tryz.func99 rfl (by decide) (by kernel_rfl) h
def Zi (g h:Value) (w:World) (K:Value→World→Prop):Prop:= box P T.a g w fun a w=>fieldAddr P T.a a 0 w fun b w=>Q2 P T.b b w fun e w=>fieldAddr P T.a h 0 w fun d w=>Q2 P T.b d w fun c w=>Q3 P .eql T.b (.tmp 5) (.tmp 7) e c w fun f w=>K f w
theorem Dy {b a:Value} {w:World} {K:Value→World→Prop} (h:Zi b a w K):Q0 P F.bI [b,a] w K:=Q9 (List.replicate 2 none) Tryz.func100 rfl (by decide) (by kernel_rfl) h
def Ua (d e f:Value) (w:World) (K:Value→World→Prop):Prop:= Q2 P T.s e w fun b w=>M4 P (.func F.bI) [] [f] w fun a w=>Q0 P F.u [b,d,a] w fun c w=>K c w
theorem Sg {b a c:Value} {w:World} {K:Value→World→Prop} (h:Ua b a c w K):Q0 P F.aT [b,a,c] w K:=Q9 (List.replicate 2 none) Tryz.func98 rfl (by decide) (by kernel_rfl) h
def Wu (l m:Value) (w:World) (K:Value→World→Prop):Prop:= box P T.s l w fun c w=>box P T.a m w fun a w=>M4 P (.func F.aT) [] [c,a] w fun i w=>fieldAddr P T.a a 1 w fun k w=>Q2 P T.b k w fun j w=>Z0 P i [j] w fun b w=>Q1 b false w (fieldAddr P T.a a 2) fun e w=>Q1 b false w (Q2 P T.d e) fun g w=>Q1 b false w (fun w J=>J i w) fun d w=>Q1 b false w (Q0 P F.d [g,d]) fun f w=>pick P b (.bool true) f w fun h w=>K h w
theorem Bb {b a:Value} {w:World} {K:Value→World→Prop} (h:Wu b a w K):Q0 P F.b4 [b,a] w K:=Q9 (List.replicate 3 none) Tryz.func49 rfl (by decide) (by kernel_rfl) h
def El:V1:=[none,none,none,some ([8],[4,5,8,9,10,11,12,13,14,15,16,17,18]),none,none,none,none,none,none,none]
def Yx (g j:Value) (w:World) (K:Value→World→Prop):Prop:= X6 P .len [T.z] T.e [false] [g] w fun h w=>lp (α:=Value) (.int .i64 0) w fun a b k w=>Q3 P .lss T.e (.tmp 8) (.tmp 7) b h w fun i w=>X1 i (indexAddr P T.z g b w fun c w=>Q2 P T.e c w fun d w=>Q3 P .eql T.e (.tmp 11) (.tmp 15) j d w fun f w=>X1 f (K b w) (Q3 P .add T.e (.tmp 8) (.const (.int .i64 1)) b (.int .i64 1) w fun e w=>a e w)) (K (.int .i64 (-1)) w)
theorem Em {b a:Value} {w:World} {K:Value→World→Prop} (h:Yx b a w K):Q0 P F.bJ [b,a] w K:=Q9 El Tryz.func160 rfl (by decide) (by kernel_rfl) h
def Qo (c d:Value) (w:World) (K:Value→World→Prop):Prop:= Q0 P F.bJ [c,d] w fun a w=>Q3 P .geq T.e (.tmp 7) (.const (.int .i64 0)) a (.int .i64 0) w fun b w=>K b w
theorem Ob {b a:Value} {w:World} {K:Value→World→Prop} (h:Qo b a w K):Q0 P F.az [b,a] w K:=Q9 (List.replicate 2 none) Tryz.func103 rfl (by decide) (by kernel_rfl) h
def Sc:V1:=[none,none,none,none,some ([35],[7,35,36,37,38,39,40,41,42,43,44,45,46,47]),none,none,none,none]
def P1 (a0 a1 a2 a3 a4:Value) (w:World) (K:Value→World→Prop):Prop:= Q2 P T.e a1 w fun t9 w=>Q3 P .lss T.e (.tmp 8) (.tmp 9) a0 t9 w fun l w=>Q1 l false w (Q2 P T.z a2) fun av w=>Q1 l false w (fun w J=>J a0 w) fun ai w=>Q1 l false w (Q0 P F.az [av,ai]) fun al w=>pick P l (.bool true) al w fun an w=>X1 an (K (.tuple #[]) w) (dr w fun a b=>Q7 a (fun d=> ∀w,b w→Q2 P T.s a3 w (dk a d w)) fun d=>Q7 a (fun e=> ∀V w,b w→d V w→nilCheck P V w (dk a e w)) fun e=>Q7 a (fun q=> ∀E w,b w→e E w→fieldAddr P T.u E 0 w (dk a q w)) fun q=>Q7 a (fun j=> ∀B w,b w→q B w→Q2 P T.h B w (dk a j w)) fun j=>Q7 a (fun L=> ∀C w,b w→j C w→indexAddr P T.h C a0 w (dk a L w)) fun L=>Q7 a (fun m=> ∀f w,b w→L f w→fieldAddr P T.a f 1 w (dk a m w)) fun m=>Q7 a (fun M=> ∀N w,b w→m N w→Q2 P T.b N w (dk a M w)) fun M=>Q7 a (fun Y=> ∀y w,b w→M y w→buildSlice P T.d 1 [(0,y)] w (dk a Y w)) fun Y=>Q7 a (fun z=> ∀w,b w→Q2 P T.s a3 w (dk a z w)) fun z=>Q7 a (fun k=> ∀n w,b w→z n w→nilCheck P n w (dk a k w)) fun k=>Q7 a (fun H=> ∀r w,b w→k r w→fieldAddr P T.u r 0 w (dk a H w)) fun H=>Q7 a (fun s=> ∀U w,b w→H U w→Q2 P T.h U w (dk a s w)) fun s=>Q7 a (fun i=> ∀v w,b w→s v w→indexAddr P T.h v a0 w (dk a i w)) fun i=>Q7 a (fun A=> ∀Q w,b w→i Q w→fieldAddr P T.a Q 2 w (dk a A w)) fun A=>Q7 a (fun X=> ∀R w,b w→A R w→Q2 P T.d R w (dk a X w)) fun X=>∀V E B C f N y ad n r U v Q R ae w,b w→d V w→e E w→q B w→j C w→L f w→m N w→M y w→Y ad w→z n w→k r w→H U w→s v w→i Q w→A R w→X ae w→ X6 P .append [T.d,T.d] T.d [false,false] [ad,ae] w fun af w=>X6 P .len [T.d] T.e [false] [af] w fun ap w=>lp (α:=Value) (.int .i64 0) w fun c x4 d_ w=>Q3 P .lss T.e (.tmp 35) (.tmp 34) x4 ap w fun am w=>X1 am (indexAddr P T.d af x4 w fun ah w=>Q2 P T.b ah w fun aq w=>dr w fun a b=>Q7 a (fun Z=> ∀w,b w→Q2 P T.ai a4 w (dk a Z w)) fun Z=>Q7 a (fun o=> ∀w,b w→Q2 P T.s a3 w (dk a o w)) fun o=>Q7 a (fun D=> ∀p w,b w→o p w→nilCheck P p w (dk a D w)) fun D=>Q7 a (fun t=> ∀g w,b w→D g w→fieldAddr P T.u g 1 w (dk a t w)) fun t=>Q7 a (fun O=> ∀h w,b w→t h w→Q2 P T.v h w (dk a O w)) fun O=>Q7 a (fun W=> ∀u w,b w→O u w→lookup P T.v u aq false w (dk a W w)) fun W=>∀ac p g h u aa w,b w→Z ac w→o p w→D g w→t h w→O u w→W aa w→ Z0 P ac [aa] w fun a5 w=>Q3 P .add T.e (.tmp 35) (.const (.int .i64 1)) x4 (.int .i64 1) w fun ag w=>c ag w) (Q2 P T.z a2 w fun ax w=>buildSlice P T.z 1 [(0,a0)] w fun ar w=>X6 P .append [T.z,T.z] T.z [false,false] [ax,ar] w fun ao w=>Z3 P T.z a2 ao w fun _u w=>K (.tuple #[]) w))
theorem Ud {b a e d c:Value} {w:World} {K:Value→World→Prop} (h:P1 b a e d c w K):Q0 P F.v [b,a,e,d,c] w K:=Q9 Sc Tryz.func102 rfl (by decide) (by kernel_rfl) h
def Bc:V1:=[none,none,none,none,none,none,some ([7],[7,10,11,12,13,14,15,16,17,18,19,20,21]),none,none,none,none]
def Wb (q t:Value) (w:World) (K:Value→World→Prop):Prop:= box P T.s q w fun d w=>box P T.e t w fun b w=>W3 P T.z w fun c w=>W3 P T.ai w fun a w=>M4 P (.func F.v) [] [b,c,d,a] w fun s w=>Z3 P T.ai a s w fun _u w=>Q2 P T.e b w fun r w=>lp (α:=Value) r w fun e f u w=>Q2 P T.s d w fun h w=>nilCheck P h w fun m w=>fieldAddr P T.u m 0 w fun g w=>Q2 P T.h g w fun i w=>X6 P .len [T.h] T.e [false] [i] w fun j w=>Q3 P .lss T.e (.tmp 10) (.tmp 15) f j w fun o w=>X1 o (Q2 P T.ai a w fun k w=>Z0 P k [f] w fun p w=>Q3 P .add T.e (.tmp 17) (.const (.int .i64 1)) f (.int .i64 1) w fun n w=>e n w) (Q2 P T.z c w fun l w=>K l w)
theorem Bq {b a:Value} {w:World} {K:Value→World→Prop} (h:Wb b a w K):Q0 P F.b5 [b,a] w K:=Q9 Bc Tryz.func50 rfl (by decide) (by kernel_rfl) h
def Xw:V1:=[none,some ([2,3],[2,3,7,8,9,10,11,12,13,14,15,16,17,18,19,20,21,22,23,24,25,26,27]),none,none,none]
def C5 (k:Value) (w:World) (K:Value→World→Prop):Prop:= X6 P .len [T.h] T.e [false] [k] w fun t w=>Q3 P .sub T.e (.tmp 5) (.const (.int .i64 1)) t (.int .i64 1) w fun r w=>lp (α:=Value×Value) ((.int .i64 0),r) w fun e f u w=>Q3 P .lss T.e (.tmp 7) (.tmp 8) f.1 f.2 w fun s w=>X1 s (dr w fun g m=>Q7 g (fun a=> ∀w,m w→indexAddr P T.h k f.2 w (dk g a w)) fun a=>Q7 g (fun c=> ∀w,m w→indexAddr P T.h k f.1 w (dk g c w)) fun c=>Q7 g (fun i=> ∀d w,m w→a d w→Q2 P T.a d w (dk g i w)) fun i=>Q7 g (fun h=> ∀b w,m w→c b w→Q2 P T.a b w (dk g h w)) fun h=>∀d b j l w,m w→a d w→c b w→i j w→h l w→ indexAddr P T.h k f.1 w fun p w=>Z3 P T.a p j w fun _u w=>indexAddr P T.h k f.2 w fun q w=>Z3 P T.a q l w fun _u w=>Q3 P .add T.e (.tmp 10) (.const (.int .i64 1)) f.1 (.int .i64 1) w fun o w=>Q3 P .sub T.e (.tmp 12) (.const (.int .i64 1)) f.2 (.int .i64 1) w fun n w=>e (o,n) w) (K (.tuple #[]) w)
theorem Xu {a:Value} {w:World} {K:Value→World→Prop} (h:C5 a w K):Q0 P F.p [a] w K:=Q9 Xw Tryz.func167 rfl (by decide) (by kernel_rfl) h
def Ih:V1:=[none,none,none,none,some ([5,6],[5,6,8,9,10,11,12,13,14,15,16,17,18,19,20]),none,none,none,none,none]
def Me (g k:Value) (w:World) (K:Value→World→Prop):Prop:= lp (α:=Value×Value) ((.slice none 0 0),k) w fun a b l w=>Q0 P F.k [g,b.2] w fun d w=>X1 d (Q0 P F.h [g,b.2] w fun h w=>buildSlice P T.h 1 [(0,h)] w fun e w=>X6 P .append [T.h,T.h] T.h [false,false] [b.1,e] w fun i w=>Q0 P F.h [g,b.2] w fun f w=>Vv P T.a f 1 w fun c w=>a (i,c) w) (Q0 P F.p [b.1] w fun j w=>K b.1 w)
theorem Km {b a:Value} {w:World} {K:Value→World→Prop} (h:Me b a w K):Q0 P F.aJ [b,a] w K:=Q9 Ih Tryz.func166 rfl (by decide) (by kernel_rfl) h
def Cs:V1:=[none,none,none,none,some ([5,12],[5,7,12,13,14,15,16,17,18,19,20]),none,none,none,none,none]
def Vd (m n:Value) (w:World) (K:Value→World→Prop):Prop:= Q0 P F.aJ [m,n] w fun c w=>X6 P .len [T.h] T.e [false] [c] w fun k w=>lp (α:=Value×Value) ((.slice none 0 0),(.int .i64 0)) w fun b d o w=>Q3 P .lss T.e (.tmp 12) (.tmp 11) d.2 k w fun i w=>X1 i (indexAddr P T.h c d.2 w fun e w=>Q2 P T.a e w fun f w=>W3 P T.a w fun a w=>Z3 P T.a a f w fun _u w=>fieldAddr P T.a a 6 w fun h w=>Q2 P T.i h w fun j w=>X6 P .append [T.i,T.i] T.i [false,false] [d.1,j] w fun g w=>Q3 P .add T.e (.tmp 12) (.const (.int .i64 1)) d.2 (.int .i64 1) w fun l w=>b (g,l) w) (K d.1 w)
theorem Ce {b a:Value} {w:World} {K:Value→World→Prop} (h:Vd b a w K):Q0 P F.b0 [b,a] w K:=Q9 Cs Tryz.func162 rfl (by decide) (by kernel_rfl) h
def Uc (g f:Value) (w:World) (K:Value→World→Prop):Prop:= box P T.k g w fun a w=>fieldAddr P T.k a 0 w fun b w=>Q2 P T.b b w fun e w=>Q2 P T.b f w fun d w=>Q3 P .eql T.b (.tmp 5) (.tmp 6) e d w fun c w=>K c w
theorem Rx {b a:Value} {w:World} {K:Value→World→Prop} (h:Uc b a w K):Q0 P F.bS [b,a] w K:=Q9 (List.replicate 2 none) Tryz.func163 rfl (by decide) (by kernel_rfl) h
def Ln (f e g:Value) (w:World) (K:Value→World→Prop):Prop:= box P T.b g w fun a w=>Q0 P F.b0 [f,e] w fun d w=>M4 P (.func F.bS) [] [a] w fun b w=>Q0 P F.j [d,b] w fun c w=>K c w
theorem Gh {b a c:Value} {w:World} {K:Value→World→Prop} (h:Ln b a c w K):Q0 P F.b9 [b,a,c] w K:=Q9 (List.replicate 2 none) Tryz.func104 rfl (by decide) (by kernel_rfl) h
def P9 (d e:Value) (w:World) (K:Value→World→Prop):Prop:= nilCheck P d w fun a w=>indexAddr P T.a4 a e w fun c w=>Q2 P T.m c w fun b w=>K b w
theorem Lq {b a:Value} {w:World} {K:Value→World→Prop} (h:P9 b a w K):Q0 P F.au [b,a] w K:=Q9 (List.replicate 2 none) Tryz.func135 rfl (by decide) (by kernel_rfl) h
def Ej:V1:=[none,some ([0],[0,5,6,7,8,9,10,11,12,13,14,15,16,17,18,19,20]),some ([0],[0,5,6,7,8,9,10,11,12,13,14,15,16,17,18,19,20]),none,none,none,none,none]
def Yy (m q:Value) (w:World) (K:Value→World→Prop):Prop:= jn (α:=Value) w (fun k w=>lp (α:=Value) m w fun a b l w=>X6 P .len [T.b] T.e [false] [b] w fun o w=>Q3 P .gtr T.e (.tmp 6) (.const (.int .i64 0)) o (.int .i64 0) w fun n w=>X1 n (X6 P .len [T.b] T.e [false] [b] w fun d w=>Q3 P .sub T.e (.tmp 11) (.const (.int .i64 1)) d (.int .i64 1) w fun i w=>D9 P T.b b i w fun c w=>Q0 P F.au [q,c] w fun e w=>J0 P .not e w fun f w=>X1 f (k b w) (X6 P .len [T.b] T.e [false] [b] w fun j w=>Q3 P .sub T.e (.tmp 18) (.const (.int .i64 1)) j (.int .i64 1) w fun g w=>H3 P T.b b none (some g) none w fun h w=>a h w)) (k b w)) fun p l w=>K p w
theorem En {b a:Value} {w:World} {K:Value→World→Prop} (h:Yy b a w K):Q0 P F.ag [b,a] w K:=Q9 Ej Tryz.func89 rfl (by decide) (by kernel_rfl) h
end Go.Proofs.YtfppjenblllfaaaGreatDoor
