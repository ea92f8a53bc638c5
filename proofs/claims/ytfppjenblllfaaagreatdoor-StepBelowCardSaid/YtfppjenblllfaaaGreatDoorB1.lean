/- Parts of a proof about the given program: its functions as texts of their own, what each computes, plain laws of that. The conditions of each stand in its statement. -/
import Derived.WalkKit
import Derived.Test.YtfppjenblllfaaaGreatDoorProg
import Derived.KernelRfl
set_option linter.unnecessarySimpa false
set_option linter.defProp false
set_option linter.unusedSectionVars false
set_option linter.unusedVariables false
set_option linter.unusedSimpArgs false
namespace Go.Emb
def P7 (P:Program) (s:Sem Next) (w:World) (K:Value→World→Prop):Prop:=
 match s.run P w with
 | .ok (.value v) w'=>K v w'
 | .ok .skip w'=>K undef w'
 | .ok (.enter f a) w'=>Calls P f a w' fun e b=>match e with | .returned v=>K v b | _=>False
 | .ok (.row row a) w'=>Rows P row a w' K
 | _=>False
theorem X2k: ∃f:Program→Sem Next→World→(Value→World→Prop)→Prop,f=P7:=⟨_,rfl⟩
noncomputable def op:Program→Sem Next→World→(Value→World→Prop)→Prop:=Classical.choose X2k
theorem Qj:op=P7:=Classical.choose_spec X2k
theorem X4N {P:Program} {o:Oper} {a:Act} {w:World} {next:Act→World→Prop} {Q:Exit→Act→World→Prop}
 (h:op P (execOp a.eval o) w (fun v w=>next (a.put o.dst v) w)):o.wp P a w next Q:=by
 unfold Oper.wp
 rw[Qj] at h
 unfold P7 at h
 cases c:(execOp a.eval o).run P w with
 | halt x w'=>rw[c] at h;exact h.elim
 | ok n w'=>
  rw[c] at h
  cases n<;>simp only at h<;>try exact h.elim
  ·exact h
  ·exact h
  ·refine Calls.mono h fun e d b=>?_
   cases e<;>first | exact b | exact b.elim
  ·exact h
theorem Rf {P:Program} {s:Sem Next} {K d:Value→World→Prop} {w:World} (a: ∀v w,K v w→d v w) (h:op P s w K):op P s w d:=by
 rw[Qj] at*
 unfold P7 at*
 cases c:s.run P w with
 | halt x w'=>rw[c] at h;exact h.elim
 | ok n w'=>
  rw[c] at h
  cases n<;>simp only at h⊢ <;>try exact h.elim
  ·exact a _ _ h
  ·exact a _ _ h
  ·refine Calls.mono h fun e f b=>?_
   cases e<;>first | exact a _ _ b | exact b.elim
  ·exact h.mono a
def sv (s:Sem Value):Sem Next:=do Pure.pure (.value (←s))
def su (s:Sem Unit):Sem Next:=do s;Pure.pure .skip
section
variable (P : Program)
noncomputable def pick (c a b:Value) (w:World) (K:Value→World→Prop):Prop:=op P (do Pure.pure (.value (if←asBool c then a else b))) w K
noncomputable def W6 (e:TypeId) (w:World) (K:Value→World→Prop):Prop:=op P (sv (Instr.alloc e true (.tuple #[]))) w K
noncomputable def box (e:TypeId) (x:Value) (w:World) (K:Value→World→Prop):Prop:=op P (sv (Instr.box e x)) w K
noncomputable def O4 (t:TypeId) (a:List (Nat×Value)) (w:World) (K:Value→World→Prop):Prop:=op P (sv (Instr.build t a.toArray)) w K
noncomputable def buildSlice (t:TypeId) (n:Nat) (a:List (Nat×Value)) (w:World) (K:Value→World→Prop):Prop:=op P (sv (Instr.buildSlice t n a.toArray)) w K
noncomputable def Q2 (t:TypeId) (a:Value) (w:World) (K:Value→World→Prop):Prop:=op P (sv (Instr.loadAt t a)) w K
noncomputable def Z4 (t:TypeId) (a x:Value) (w:World) (K:Value→World→Prop):Prop:=op P (su (Instr.storeAt t a x)) w K
noncomputable def nilCheck (x:Value) (w:World) (K:Value→World→Prop):Prop:=op P (execOp (fun _=>x) {dst:=none,op:= .nilCheck (.const x),type:=0,pos:= "",after:= #[],guard:=none}) w K
noncomputable def Q3 (o:BinOp) (t:TypeId) (b a:Operand) (x y:Value) (w:World) (K:Value→World→Prop):Prop:=op P (sv (do eqGuard o t b a x y;Go.binOp o t x y)) w K
noncomputable def J4 (o:UnOp) (x:Value) (w:World) (K:Value→World→Prop):Prop:=op P (sv (Op.unary o x)) w K
noncomputable def conv (s d:TypeId) (x:Value) (w:World) (K:Value→World→Prop):Prop:=op P (sv (Go.convert s d x)) w K
noncomputable def X2Z (t:TypeId) (x:Value) (w:World) (K:Value→World→Prop):Prop:=op P (sv (Instr.makeInterface t x)) w K
noncomputable def N7 (f:Fn) (first caps:List Value) (w:World) (K:Value→World→Prop):Prop:=op P (sv (Instr.makeFunc f first.toArray caps.toArray)) w K
noncomputable def Cw (t:TypeId) (r:Option Value) (w:World) (K:Value→World→Prop):Prop:=op P (sv (Instr.makeMap t r)) w K
noncomputable def Dh (t:TypeId) (n c:Value) (w:World) (K:Value→World→Prop):Prop:=op P (sv (Instr.makeSlice t n c)) w K
noncomputable def R5 (t:TypeId) (x:Value) (c b a:Option Value) (w:World) (K:Value→World→Prop):Prop:=op P (sv (Instr.sliceAt t x c b a)) w K
noncomputable def fieldAddr (t:TypeId) (x:Value) (f:Nat) (w:World) (K:Value→World→Prop):Prop:=op P (sv (Instr.fieldAt t x f)) w K
noncomputable def Ww (t:TypeId) (x:Value) (f:Nat) (w:World) (K:Value→World→Prop):Prop:=op P (sv (Instr.field t x f)) w K
noncomputable def indexAddr (t:TypeId) (x i:Value) (w:World) (K:Value→World→Prop):Prop:=op P (sv (Instr.indexAt t x i)) w K
noncomputable def H2 (t:TypeId) (x i:Value) (w:World) (K:Value→World→Prop):Prop:=op P (sv (Instr.index t x i)) w K
noncomputable def lookup (t:TypeId) (x i:Value) (ok:Bool) (w:World) (K:Value→World→Prop):Prop:=op P (sv (Instr.lookup t x i ok)) w K
noncomputable def mapUpdate (t:TypeId) (m k x:Value) (w:World) (K:Value→World→Prop):Prop:=op P (su (Instr.mapUpdate t m k x)) w K
noncomputable def mapEntry (t:TypeId) (m k:Value) (w:World) (K:Value→World→Prop):Prop:=op P (sv (Instr.mapEntry t m k)) w K
noncomputable def entryStore (t:TypeId) (m s x:Value) (w:World) (K:Value→World→Prop):Prop:=op P (su (Instr.entryStore t m s x)) w K
noncomputable def rng (t:TypeId) (x:Value) (w:World) (K:Value→World→Prop):Prop:=op P (sv (Instr.range t x)) w K
noncomputable def J6 (b:Value) (a:Bool) (t:TypeId) (w:World) (K:Value→World→Prop):Prop:=op P (sv (Instr.next b a t)) w K
noncomputable def Q8Y (a:Value) (w:World) (K:Value→World→Prop):Prop:=op P (sv (Instr.entry a)) w K
noncomputable def pnc (x:Value) (w:World) (K:Value→World→Prop):Prop:=op P (sv (Instr.panic x)) w K
noncomputable def ext (x:Value) (i:Nat) (w:World) (K:Value→World→Prop):Prop:=op P (sv (Instr.extract x i)) w K
noncomputable def X5 (b:Builtin) (a:List TypeId) (t:TypeId) (cs:List Bool) (xs:List Value) (w:World) (K:Value→World→Prop):Prop:=op P (Go.builtin b a.toArray t cs.toArray xs.toArray) w K
noncomputable def Q0 (f:FuncId) (xs:List Value) (w:World) (K:Value→World→Prop):Prop:=op P (callFunc f xs.toArray) w K
noncomputable def Z5 (f:Value) (xs:List Value) (w:World) (K:Value→World→Prop):Prop:=op P (do let d←Deferred.ofValue f xs.toArray;invoke d.target d.args) w K
end
def get (l:List Value) (t:Nat):Value:=l.getD t undef
def ev (l:List Value):Operand→Value
 | .tmp t=>get l t
 | .const v=>v
 | .global g=> .pointer (some ⟨g,0,none⟩)
 | .func f=> .func (.func f) #[] #[]
def put (l:List Value) (d:Option Tmp) (v:Value):List Value:=
 match d with
 | some d=>l.set d v
 | none=>l
def evs (l:List Value) (xs:Array Operand):List Value:=xs.toList.map (ev l)
def evp (l:List Value) (xs:Array (Nat×Operand)):List (Nat×Value):=xs.toList.map fun p=>(p.1,ev l p.2)
def evo (l:List Value) (x:Option Operand):Option Value:=match x with | some x=>some (ev l x) | none=>none
def isC:Operand→Bool | .const _=>true | _=>false
noncomputable def Dm (P:Program) (l:List Value) (o:Oper) (c:Call) (w:World) (K:Value→World→Prop):Prop:=
 match c.callee with
 | .builtin b=>X5 P b c.argTypes.toList o.type (c.args.toList.map isC) (evs l c.args) w K
 | .value (.func f)=>Q0 P f (evs l c.args) w K
 | .value f=>Z5 P (ev l f) (evs l c.args) w K
 | _=>op P (execOp (ev l) o) w K
noncomputable def V9 (P:Program) (l:List Value) (o:Oper) (w:World) (K:Value→World→Prop):Prop:=
 match o.op with
 | .move x=>K (ev l x) w
 | .assign x=>K (ev l x) w
 | .pick c a b=>pick P (ev l c) (ev l a) (ev l b) w K
 | .alloc e=>W6 P e w K
 | .box e x=>box P e (ev l x) w K
 | .build t g=>O4 P t (evp l g) w K
 | .buildSlice t n g=>buildSlice P t n (evp l g) w K
 | .load t a=>Q2 P t (ev l a) w K
 | .store t a x=>Z4 P t (ev l a) (ev l x) w K
 | .nilCheck x=>nilCheck P (ev l x) w K
 | .binOp op t x y _=>Q3 P op t x y (ev l x) (ev l y) w K
 | .unOp op _ x=>J4 P op (ev l x) w K
 | .convert s d x=>conv P s d (ev l x) w K
 | .makeInterface t x=>X2Z P t (ev l x) w K
 | .makeFunc f first caps=>N7 P f (evs l first) (evs l caps) w K
 | .makeMap t r=>Cw P t (evo l r) w K
 | .makeSlice t n c=>Dh P t (ev l n) (ev l c) w K
 | .slice t x u q p=>R5 P t (ev l x) (evo l u) (evo l q) (evo l p) w K
 | .fieldAddr t x f=>fieldAddr P t (ev l x) f w K
 | .field t x f=>Ww P t (ev l x) f w K
 | .indexAddr t x i=>indexAddr P t (ev l x) (ev l i) w K
 | .index t x i=>H2 P t (ev l x) (ev l i) w K
 | .lookup t x i ok=>lookup P t (ev l x) (ev l i) ok w K
 | .mapUpdate t m k x=>mapUpdate P t (ev l m) (ev l k) (ev l x) w K
 | .insert t m k x=>mapUpdate P t (ev l m) (ev l k) (ev l x) w K
 | .mapEntry t m k=>mapEntry P t (ev l m) (ev l k) w K
 | .entryStore t m s x=>entryStore P t (ev l m) (ev l s) (ev l x) w K
 | .range t x=>rng P t (ev l x) w K
 | .next j h=>J6 P (ev l j) h o.type w K
 | .extract x i=>ext P (ev l x) i w K
 | .entry j=>Q8Y P (ev l j) w K
 | .panic x=>pnc P (ev l x) w K
 | .call c=>Dm P l o c w K
 | _=>op P (execOp (ev l) o) w K
theorem Q9A {α β:Type} (f:α→β) (a:Array α):a.map f=(a.toList.map f).toArray:=by rw[←Array.toList_map,Array.toArray_toList]
theorem X3x (l:List Value) (x:Option Operand):x.map (ev l)=evo l x:=by cases x<;>rfl
theorem Q6S {P:Program} {l:List Value} {o:Oper} {c:Call} {K g:Value→World→Prop} {w:World} (d: ∀v w,K v w→g v w) (h:Dm P l o c w K):Dm P l o c w g:=by
 obtain ⟨a,e,i⟩:=c
 cases a with
 | builtin b=>exact Rf d h
 | invoke r m=>exact Rf d h
 | value f=>cases f<;>(simp only[Dm,Z5,Q0] at h⊢;exact Rf d h)
theorem G3 {P:Program} {l:List Value} {o:Oper} {K b:Value→World→Prop} {w:World} (a: ∀v w,K v w→b v w) (h:V9 P l o w K):V9 P l o w b:=by
 obtain ⟨d,p,ty,pos,c,g⟩:=o
 cases p<;>first | exact a _ _ h | exact Q6S a h | exact Rf a h | (simp only[V9] at h⊢;exact Rf a h)
theorem Q7p {P:Program} {l:List Value} {o:Oper} {K:Value→World→Prop} {w:World} (h:V9 P l o w K):op P (execOp (ev l) o) w K:=by
 unfold V9 at h
 split at h<;>rename_i a
 all_goals first
  | exact h
  | (unfold execOp;rw[a];exact h)
  | (unfold execOp;rw[a];simp only[Q9A,X3x];exact h)
  | (unfold execOp;rw[a,Qj];exact h)
  | skip
 rename_i c
 unfold Dm at h
 split at h<;>rename_i b
 ·unfold execOp;rw[a];simp only[resolve,b,Q9A]
  simp only[pure_bind,invoke]
  unfold X5 at h
  simp only[Array.toArray_toList] at h
  refine (congrArg (fun z=>op P (builtin _ c.argTypes o.type (List.toArray z) _) w K) (List.map_congr_left (fun x _=>?_))).mp h
  cases x<;>rfl
 ·unfold execOp;rw[a];simp only[resolve,b,Q9A]
  simp only[ev,Deferred.ofValue,pure_bind,invoke]
  simpa [Q0,evs] using h
 ·unfold execOp;rw[a];simp only[resolve,b,Q9A]
  exact h
 ·exact h
def Lu (v:Value) (b:Bool) (w:World) (a:World→(Value→World→Prop)→Prop) (J:Value→World→Prop):Prop:=
 match v with
 | .bool c=>if c=b then a w J else J undef w
 | _=>J undef w
theorem X0O: ∃f:Value→Bool→World→(World→(Value→World→Prop)→Prop)→(Value→World→Prop)→Prop,f=Lu:=⟨_,rfl⟩
noncomputable def Q1:Value→Bool→World→(World→(Value→World→Prop)→Prop)→(Value→World→Prop)→Prop:=Classical.choose X0O
theorem Et:Q1=Lu:=Classical.choose_spec X0O
def Q3F (v:Value) (t e:Prop):Prop:=
 match v with
 | .bool true=>t
 | .bool false=>e
 | _=>False
theorem X0c: ∃f:Value→Prop→Prop→Prop,f=Q3F:=⟨_,rfl⟩
noncomputable def X1:Value→Prop→Prop→Prop:=Classical.choose X0c
theorem Q63:X1=Q3F:=Classical.choose_spec X0c
noncomputable def Y4 (P:Program) (ops:List Oper) (next:List Value→World→Prop):List Oper→List Value→World→Prop
 | [],l,w=>next l w
 | o::a,l,w=>
  match o.guard with
  | none=>V9 P l o w (fun v w=>Y4 P ops next a (put l o.dst v) w)
  | some (j,b)=>match (ops[j]?).bind (·.dst) with
   | some d=>Q1 (get l d) b w (V9 P l o) (fun v w=>Y4 P ops next a (put l o.dst v) w)
   | none=>Y4 P ops next a (put l o.dst undef) w
def Px:Nat→Type
 | 0=>Unit
 | 1=>Value
 | n+2=>Value×Px (n+1)
def Ow (l:List Value):(a:List Nat)→Px a.length
 | []=>()
 | [s]=>get l s
 | s::t::r=>(get l s,Ow l (t::r))
def Hw (i:Nat) (e:Value):(a:List Nat)→Px a.length→Value
 | [],_=>e
 | [s],x=>if s=i then x else e
 | s::t::r,x=>if s=i then x.1 else Hw i e (t::r) x.2
def O8 (a b:List Nat) (x:Px a.length) (d:Nat→Value):Nat→List Value→List Value
 | _,[]=>[]
 | i,v::l=>Hw i (if b.contains i then d i else v) a x::O8 a b x d (i+1) l
def X2b (α:Type) (c:α) (w:World) (a:(α→World→Prop)→α→(Nat→Value)→World→Prop):Prop:=
 ∃(I:α→World→Prop) (μ:α→World→Nat),I c w∧ ∀x d w,I x w→a (fun b w'=>I b w'∧μ b w'<μ x w) x d w
theorem X2C: ∃f:(α:Type)→α→World→((α→World→Prop)→α→(Nat→Value)→World→Prop)→Prop,f=X2b:=⟨_,rfl⟩
noncomputable def lp {α:Type}:α→World→((α→World→Prop)→α→(Nat→Value)→World→Prop)→Prop:=Classical.choose X2C α
theorem X2A {α:Type} (b:α) (w:World) (a:(α→World→Prop)→α→(Nat→Value)→World→Prop):lp b w a=X2b α b w a:=
 congrFun (congrFun (congrFun (congrFun (Classical.choose_spec X2C) α) b) w) a
def X2d (α:Type) (w:World) (A:(α→World→Prop)→World→Prop) (B:α→(Nat→Value)→World→Prop):Prop:=
 ∃I:α→World→Prop,A I w∧ ∀x d w,I x w→B x d w
theorem X2g: ∃f:(α:Type)→World→((α→World→Prop)→World→Prop)→(α→(Nat→Value)→World→Prop)→Prop,f=X2d:=⟨_,rfl⟩
noncomputable def jn {α:Type}:World→((α→World→Prop)→World→Prop)→(α→(Nat→Value)→World→Prop)→Prop:=Classical.choose X2g α
theorem X2l {α:Type} (w:World) (A:(α→World→Prop)→World→Prop) (B:α→(Nat→Value)→World→Prop):jn w A B=X2d α w A B:=
 congrFun (congrFun (congrFun (congrFun (Classical.choose_spec X2g) α) w) A) B
theorem Zj {α:Type} {w:World} {A:(α→World→Prop)→World→Prop} {B:α→(Nat→Value)→World→Prop} (I:α→World→Prop) (h:A I w) (a: ∀x d w,I x w→B x d w):jn w A B:=by
 rw[X2l];exact ⟨I,h,a⟩
theorem Q5X {α:Type} {w:World} {A:(α→World→Prop)→World→Prop} {B:α→(Nat→Value)→World→Prop} (h:jn w A B): ∃I:α→World→Prop,A I w∧ ∀x d w,I x w→B x d w:=by
 rw[X2l] at h;exact h
theorem Uc {α:Type} {b:α} {w:World} {a:(α→World→Prop)→α→(Nat→Value)→World→Prop} (I:α→World→Prop) (μ:α→World→Nat) (e:I b w)
 (f: ∀x d w,I x w→a (fun c w'=>I c w'∧μ c w'<μ x w) x d w):lp b w a:=by
 rw[X2A];exact ⟨I,μ,e,f⟩
theorem X0Q {α:Type} {b:α} {w:World} {a:(α→World→Prop)→α→(Nat→Value)→World→Prop} (h:lp b w a):
 ∃(I:α→World→Prop) (μ:α→World→Nat),I b w∧ ∀x d w,I x w→a (fun c w'=>I c w'∧μ c w'<μ x w) x d w:=by
 rw[X2A] at h;exact h
def D9 (ops:List Oper):List Nat:=ops.filterMap (·.dst)
def Qh:Code→Nat
 | .seq a b=>Qh a+Qh b+1
 | .cond _ a b=>Qh a+Qh b
 | .block _ c=>Qh c
 | .loop c=>Qh c+1
 | .scope c=>Qh c
 | _=>0
def L8 (d:List (Option (List Nat))):Nat→Code→List Nat
 | _, .region _ ops _=>D9 ops.toList
 | k, .seq a b=>(d.getD k none).getD []++(L8 d (k+1) a++L8 d (k+1+Qh a) b)
 | k, .cond _ a b=>L8 d k a++L8 d (k+Qh a) b
 | k, .block _ c=>L8 d k c
 | k, .loop c=>(d.getD k none).getD []++L8 d (k+1) c
 | k, .scope c=>L8 d k c
 | _,_=>[]
abbrev Ha:=Exit→List Value→World→Prop
def thn (next:List Value→World→Prop) (Q:Ha):Ha
 | .normal,a,w=>next a w
 | e,a,w=>Q e a w
def Q2X (id:Nat) (Q:Ha):Ha
 | .exit b,a,w=>if b=id then Q .normal a w else Q (.exit b) a w
 | e,a,w=>Q e a w
noncomputable def Np (P:Program) (a:List (Option (List Nat))):Nat→Code→Ha→List Value→World→Prop
 | _, .skip,Q,l,w=>Q .normal l w
 | _, .label _,Q,l,w=>Q .normal l w
 | _, .exit id,Q,l,w=>Q (.exit id) l w
 | _, .ret,Q,l,w=>Q .ret l w
 | _, .region _ ops false,Q,l,w=>Y4 P ops.toList (fun l w=>Q .normal l w) ops.toList l w
 | _, .region _ ops true,Q,l,w=> ∀t,Y4 P ops.toList (fun l w=>Q .normal l w) ((Region.schedule (P.follows .mixedOrders) ops t).filterMap (ops[·]?)) l w.drew
 | k, .seq x y,Q,l,w=>match a.getD k none with
  | none=>Np P a (k+1) x (thn (fun l w=>Np P a (k+1+Qh x) y Q l w) Q) l w
  | some e=>jn w (fun J w=>Np P a (k+1) x (thn (fun l' w'=>J (Ow l' e) w') Q) l w)
   (fun z d w=>Np P a (k+1+Qh x) y Q (O8 e (L8 a (k+1) x) z d 0 l) w)
 | k, .cond c x y,Q,l,w=>X1 (ev l c) (Np P a k x Q l w) (Np P a (k+Qh x) y Q l w)
 | k, .block id c,Q,l,w=>Np P a k c (Q2X id Q) l w
 | k, .loop c,Q,l,w=>
  lp (Ow l ((a.getD k none).getD [])) w (fun b x d w=>Np P a (k+1) c (thn (fun l' w'=>b (Ow l' ((a.getD k none).getD [])) w') Q) (O8 ((a.getD k none).getD []) (L8 a (k+1) c) x d 0 l) w)
 | _,_,_,_,_=>False
theorem Q8Z {ops:List Oper} {l:List Value} {o:Oper} {j:Nat} {b:Bool} (e:o.guard=some (j,b)) {d:Nat} (a:(ops[j]?).bind (·.dst)=some d):
 Region.wanted o (yielded ops.toArray l.toArray)=true↔get l d= .bool b:=by
 unfold Region.wanted yielded
 rw[e]
 simp only[List.getElem?_toArray]
 rw[a]
 simp only[Option.bind_some,get,List.getD_eq_getElem?_getD]
 have key: ∀x:Option Value,((match x with | some (.bool c)=>some c | _=>none)==some b)=true↔x.getD undef= .bool b:=by
  intro x
  cases x with
  | none=>simp[undef]
  | some v=>cases v<;>simp
 exact key _
theorem Q7N {ops:List Oper} {l:List Value} {o:Oper} {j:Nat} {b:Bool} (c:o.guard=some (j,b)) (a:(ops[j]?).bind (·.dst)=none):
 Region.wanted o (yielded ops.toArray l.toArray)=false:=by
 unfold Region.wanted yielded
 rw[c]
 simp only[List.getElem?_toArray]
 rw[a]
 rfl
theorem Wq {v:Value} {b:Bool} {a:World→(Value→World→Prop)→Prop} {J:Value→World→Prop} {w:World} (h:Q1 v b w a J):
 (v= .bool b∧a w J)∨(v≠ .bool b∧J undef w):=by
 rw[Et] at h
 unfold Lu at h
 split at h
 ·split at h
  ·rename_i c;subst c;exact .inl ⟨rfl,h⟩
  ·rename_i c;exact .inr ⟨by simp[c],h⟩
 ·rename_i d;exact .inr ⟨d b,h⟩
theorem Q1h {v:Value} {b:Bool} {a:World→(Value→World→Prop)→Prop} {J:Value→World→Prop} {w:World}
 (h:(v= .bool b∧a w J)∨(v≠ .bool b∧J undef w)):Q1 v b w a J:=by
 rw[Et]
 unfold Lu
 split
 ·split
  ·rename_i c;subst c
   rcases h with h | h
   ·exact h.2
   ·exact absurd rfl h.1
  ·rename_i c
   rcases h with h | h
   ·exact absurd (Value.bool.inj h.1) c
   ·exact h.2
 ·rename_i d
  rcases h with h | h
  ·exact absurd h.1 (d b)
  ·exact h.2
theorem Q4a (a:Act):a.eval=ev a.tmps.toList:=by
 funext x
 cases x<;>simp[Act.eval,ev,get,List.getD_eq_getElem?_getD]
theorem Q93 (a:Act) (d:Option Tmp) (v:Value):(a.put d v).tmps.toList=put a.tmps.toList d v:=by
 cases d<;>simp[Act.put,put]
theorem Q9J (a:Act) (d:Option Tmp) (v:Value):(a.put d v).defers=a.defers:=by
 cases d<;>simp[Act.put]
def lift (Q:Ha):Exit→Act→World→Prop:=fun e a w=>a.defers=[]∧Q e a.tmps.toList w
theorem Q0n (P:Program) (ops:Array Oper) (Q:Exit→Act→World→Prop) (next:List Value→World→Prop)
 (u: ∀a w,a.defers=[]→next a.tmps.toList w→Q .normal a w) (is:List Nat) (r: ∀i∈is,i<ops.size):
 ∀(a:Act) (w:World),a.defers=[]→Y4 P ops.toList next (is.filterMap (ops[·]?)) a.tmps.toList w→wpOps P ops Q is a w:=by
 induction is with
 | nil=>intro a w p h;exact u a w p h
 | cons i is t=>
  intro a w p h
  have o:=r i (by simp)
  have k:ops[i]? =some ops[i]:=by simp[o]
  rw[List.filterMap_cons,k] at h
  simp only[Y4] at h
  simp only[wpOps,k]
  have s:ops.toList.toArray=ops:=by simp
  have q:a.tmps.toList.toArray=a.tmps:=by simp
  have f: ∀{v w},Y4 P ops.toList next (is.filterMap (ops[·]?)) (put a.tmps.toList ops[i].dst v) w→wpOps P ops Q is (a.put ops[i].dst v) w:=by
   intro v w e
   refine t (fun j y=>r j (by simp[y])) _ _ (by rw[Q9J];exact p) ?_
   rw[Q93];exact e
  have m:V9 P a.tmps.toList ops[i] w (fun v w=>Y4 P ops.toList next (is.filterMap (ops[·]?)) (put a.tmps.toList ops[i].dst v) w)→
   ops[i].wp P a w (wpOps P ops Q is) Q:=by
   intro h
   refine X4N ?_
   rw[Q4a]
   exact Rf (fun v w e=>f e) (Q7p h)
  split at h
  ·rename_i n
   rw[if_pos (by simp[Region.wanted,n])]
   exact .inl (m h)
  ·rename_i j b n
   split at h
   ·rename_i d c
    have g:=Q8Z (ops:=ops.toList) (l:=a.tmps.toList) n c
    rw[s,q] at g
    rcases Wq h with ⟨e,h⟩ | ⟨e,h⟩
    ·rw[if_pos (g.2 e)];exact .inl (m h)
    ·rw[if_neg (fun h=>e (g.1 h))];exact f h
   ·rename_i c
    have g:=Q7N (ops:=ops.toList) (l:=a.tmps.toList) n c
    rw[s,q] at g
    rw[if_neg (by rw[g];simp)];exact f h
theorem As (ops:Array Oper):(List.range ops.size).filterMap (ops[·]?)=ops.toList:=by
 apply List.ext_getElem?
 intro i
 rw[←Array.length_toList]
 have: ∀l:List Oper,(List.range l.length).filterMap (l[·]?)=l:=by
  intro l
  induction l with
  | nil=>rfl
  | cons x l a=>
   rw[List.length_cons,List.range_succ_eq_map,List.filterMap_cons]
   simp only[List.getElem?_cons_zero,List.filterMap_map]
   congr 1
 have h:=this ops.toList
 simp only[Array.getElem?_toList] at h
 rw[h]
theorem Q2e (b:Bool) (ops:Array Oper) (t:Nat): ∀i∈Region.schedule b ops t,i<ops.size:=by
 have key: ∀m c t a e,(∀i∈e,i<ops.size)→ ∀i∈Region.linearise.go m ops c t a e,i<ops.size:=by
  intro m c
  induction c with
  | zero=>intro t a e h i d;simp[Region.linearise.go] at d;exact h i d
  | succ c g=>
   intro t a e h i d
   simp only[Region.linearise.go] at d
   split at d
   ·rename_i j f
    refine g _ _ _ ?_ i d
    intro k hk
    rcases List.mem_cons.1 hk with rfl | hk
    ·have:=List.mem_of_getElem? f
     simp only[List.mem_filter,List.mem_range] at this
     exact this.1
    ·exact h k hk
   ·simp at d;exact h i d
 intro i d
 unfold Region.schedule at d
 split at d
 ·exact key _ _ _ _ _ (by simp) i d
 ·exact key _ _ _ _ _ (by simp) i d
def Qc (W:List Nat) (l l':List Value):Prop:=l'.length=l.length∧ ∀i,W.contains i=false→l'[i]? =l[i]?
theorem Qc.refl (W:List Nat) (l:List Value):Qc W l l:=⟨rfl,fun _ _=>rfl⟩
theorem Qc.trans {W:List Nat} {a b c:List Value} (h:Qc W a b) (k:Qc W b c):Qc W a c:=
 ⟨k.1.trans h.1,fun i d=>(k.2 i d).trans (h.2 i d)⟩
theorem Rm (a b:List Nat) (x:Px a.length) (d:Nat→Value) (l:List Value): ∀i,(O8 a b x d i l).length=l.length:=by
 induction l with
 | nil=>intro i;rfl
 | cons v l c=>intro i;simp[O8,c]
theorem Cr (a b:List Nat) (x:Px a.length) (d:Nat→Value) (l:List Value): ∀i j,(O8 a b x d i l)[j]? =(l[j]?).map fun v=>Hw (i+j) (if b.contains (i+j) then d (i+j) else v) a x:=by
 induction l with
 | nil=>intro i j;simp[O8]
 | cons v l c=>
  intro i j
  cases j with
  | zero=>simp[O8]
  | succ j=>simp only[O8,List.getElem?_cons_succ,c];rw[show i+1+j=i+(j+1) from by omega]
theorem Uv (i:Nat) (e:Value): ∀(b:List Nat) (x:Px b.length),b.contains i=false→Hw i e b x=e
 | [],_,_=>rfl
 | [s],x,h=>by
  have a: ¬s=i:=by intro a;subst a;simp at h
  exact if_neg a
 | s::t::r,x,h=>by
  simp only[Hw]
  split
  ·rename_i a;subst a;simp at h
  ·refine Uv i e (t::r) x.2 ?_
   simp only[List.contains_cons,Bool.or_eq_false_iff] at h⊢
   exact h.2
theorem Q5V (l:List Value) (i:Nat) (e c:Value): ∀(a:List Nat),a.contains i=true→Hw i e a (Ow l a)=get l i
 | [],h=>by simp at h
 | [s],h=>by
  simp only[List.contains_cons,List.contains_nil,Bool.or_false,beq_iff_eq] at h
  subst h;simp[Hw,Ow]
 | s::t::r,h=>by
  simp only[Hw,Ow]
  split
  ·rename_i b;subst b;rfl
  ·rename_i b
   refine Q5V l i e c (t::r) ?_
   simp only[List.contains_cons,Bool.or_eq_true,beq_iff_eq] at h⊢
   rcases h with h | h
   ·exact absurd h.symm b
   ·exact h
theorem Il (a c:List Nat) (l l':List Value) (k:l'.length=l.length)
 (h: ∀i,a.contains i=false→c.contains i=false→l'[i]? =l[i]?):l'=O8 a c (Ow l' a) (get l') 0 l:=by
 apply List.ext_getElem?
 intro i
 rw[Cr]
 simp only[Nat.zero_add]
 cases e:l[i]? with
 | none=>
  have:=List.getElem?_eq_none_iff.1 e
  simp only[Option.map_none]
  exact List.getElem?_eq_none (by omega)
 | some v=>
  have m:i<l.length:=(List.getElem?_eq_some_iff.1 e).1
  have j:l'[i]? =some (get l' i):=by
   simp only[get,List.getD_eq_getElem?_getD]
   rw[List.getElem?_eq_getElem (by omega)];rfl
  rw[j]
  simp only[Option.map_some,Option.some.injEq]
  by_cases g:a.contains i=true
  ·rw[Q5V l' i _ undef a g]
  ·have b:a.contains i=false:=by simpa using g
   rw[Uv _ _ _ _ b]
   by_cases f:c.contains i=true
   ·rw[if_pos f]
   ·have d:c.contains i=false:=by simpa using f
    rw[if_neg f]
    have:=h i b d
    rw[j,e] at this
    exact Option.some.inj this
theorem Q4L {v:Value} {t e a b:Prop} (c:t→a) (d:e→b) (h:X1 v t e):X1 v a b:=by
 rw[Q63] at*
 unfold Q3F at*
 split at h
 ·exact c h
 ·exact d h
 ·exact h.elim
theorem Jl (P:Program) (c:List Oper) (next a:List Value→World→Prop) (W:List Nat) (j:List Value): ∀(ops:List Oper) (l:List Value) (w:World),
 (∀o∈ops,∀d,o.dst=some d→W.contains d=true)→Qc W j l→(∀l w,next l w→Qc W j l→a l w)→Y4 P c next ops l w→Y4 P c a ops l w
 | [],l,w,_,k,m,h=>m l w h k
 | o::f,l,w,q,k,m,h=>by
  have g: ∀v,Qc W j (put l o.dst v):=by
   intro v
   cases y:o.dst with
   | none=>exact k
   | some d=>
    have t:=q o (by simp) d y
    refine k.trans ⟨by simp[put],fun i r=>?_⟩
    have:d≠i:=by intro e;subst e;rw[t] at r;cases r
    simp[put,this]
  have b: ∀v w,Y4 P c next f (put l o.dst v) w→Y4 P c a f (put l o.dst v) w:=fun v w u=>
   Jl P c next a W j f _ w (fun o s=>q o (by simp[s])) (g v) m u
  simp only[Y4] at h⊢
  split at h
  ·exact G3 b h
  ·split at h
   ·refine Q1h ((Wq h).imp (fun ⟨n,p⟩=>⟨n,G3 b p⟩) (fun ⟨n,p⟩=>⟨n,b _ _ p⟩))
   ·exact b _ _ h
theorem Q4r {α:Type} {e:α} {c a:(α→World→Prop)→α→(Nat→Value)→World→Prop} {w:World}
 (f: ∀b x d w,c b x d w→a b x d w) (h:lp e w c):lp e w a:=by
 obtain ⟨I,μ,i,j⟩:=X0Q h
 exact Uc I μ i fun x d w g=>f _ _ _ _ (j x d w g)
theorem K6 {a b:List Nat} {i:Nat} (h:a.contains i=true):(a++b).contains i=true:=by simp at h⊢;exact .inl h
theorem E1 {a b:List Nat} {i:Nat} (h:b.contains i=true):(a++b).contains i=true:=by simp at h⊢;exact .inr h
theorem Q4E (P:Program) (q:List (Option (List Nat))) (c:Code): ∀(k:Nat) (Q A:Ha) (W:List Nat) (m l:List Value) (w:World),
 (∀i,(L8 q k c).contains i=true→W.contains i=true)→Qc W m l→
 (∀e l w,Q e l w→Qc W m l→A e l w)→Np P q k c Q l w→Np P q k c A l w:=by
 induction c with
 | skip=>intro k Q A W m l w _ g j h;exact j _ _ _ h g
 | label n=>intro k Q A W m l w _ g j h;exact j _ _ _ h g
 | exit id=>intro k Q A W m l w _ g j h;exact j _ _ _ h g
 | ret=>intro k Q A W m l w _ g j h;exact j _ _ _ h g
 | goto n=>intro k Q A W m l w _ g j h;exact h.elim
 | refuse s=>intro k Q A W m l w _ g j h;exact h.elim
 | scope c=>intro k Q A W m l w _ g j h;exact h.elim
 | rangeFunc f p a b=>intro k Q A W m l w _ g j h;exact h.elim
 | region id ops N=>
  intro k Q A W m l w B g j h
  have L: ∀o∈ops.toList,∀d,o.dst=some d→W.contains d=true:=by
   intro o R d hd
   refine B d ?_
   simp only[L8,D9,List.contains_eq_mem,List.mem_filterMap,decide_eq_true_eq]
   exact ⟨o,R,hd⟩
  cases N with
  | false=>exact Jl P _ _ _ W m _ _ _ L g (fun l w V g=>j _ _ _ V g) h
  | true=>
   intro t
   refine Jl P _ _ _ W m _ _ _ ?_ g (fun l w V g=>j _ _ _ V g) (h t)
   intro o R
   simp only[List.mem_filterMap] at R
   obtain ⟨i,_,r⟩:=R
   exact L o (by simpa using Array.mem_of_getElem? r)
 | seq x y D E=>
  intro k Q A W m l w B g j h
  have X: ∀i,(L8 q (k+1) x).contains i=true→W.contains i=true:=fun i r=>B i (E1 (K6 r))
  have hy: ∀i,(L8 q (k+1+Qh x) y).contains i=true→W.contains i=true:=fun i r=>B i (E1 (E1 r))
  simp only[Np] at h⊢
  split at h
  ·refine D _ _ _ W m l w X g ?_ h
   intro e l' w' C u
   cases e with
   | normal=>exact E _ _ _ W m l' w' hy u j C
   | _=>exact j _ _ _ C u
  ·rename_i sl Y
   obtain ⟨J,M,O⟩:=Q5X h
   refine Zj J (D _ _ _ W m l w X g ?_ M) fun z d w hz=>?_
   ·intro e l' w' C u
    cases e with
    | normal=>exact C
    | _=>exact j _ _ _ C u
   ·refine E _ _ _ W m _ w hy (g.trans ⟨Rm _ _ _ _ _ _,fun i r=>?_⟩) j (O z d w hz)
    rw[Cr]
    have M:sl.contains i=false:=by
     cases H:sl.contains i with
     | false=>rfl
     | true=>rw[B i (K6 (by rw[Y];exact H))] at r;cases r
    have O:(L8 q (k+1) x).contains i=false:=by
     cases H:(L8 q (k+1) x).contains i with
     | false=>rfl
     | true=>rw[X i H] at r;cases r
    simp only[Nat.zero_add]
    cases hl:l[i]? with
    | none=>rfl
    | some v=>simp only[Option.map_some,Uv _ _ _ _ M,O,Bool.false_eq_true,if_false]
 | cond c x y D E=>
  intro k Q A W m l w B g j h
  exact Q4L (D k _ _ W m l w (fun i r=>B i (K6 r)) g j) (E _ _ _ W m l w (fun i r=>B i (E1 r)) g j) h
 | block id c U=>
  intro k Q A W m l w B g j h
  refine U k _ _ W m l w B g ?_ h
  intro e l' w' C u
  cases e with
  | exit ae=>simp only[Q2X] at C⊢;split<;>rename_i Z<;>simp only[Z,if_true,if_false] at C<;>exact j _ _ _ C u
  | _=>exact j _ _ _ C u
 | loop c U=>
  intro k Q A W m l w B g j h
  refine Q4r (fun aa x d w hb=>?_) h
  refine U _ _ _ W m _ _ (fun i r=>B i (E1 r)) ?_ ?_ hb
  ·refine g.trans ⟨Rm _ _ _ _ _ _,fun i r=>?_⟩
   rw[Cr]
   have M:((q.getD k none).getD []).contains i=false:=by
    cases H:((q.getD k none).getD []).contains i with
    | false=>rfl
    | true=>rw[B i (K6 H)] at r;cases r
   have O:(L8 q (k+1) c).contains i=false:=by
    cases H:(L8 q (k+1) c).contains i with
    | false=>rfl
    | true=>rw[B i (E1 H)] at r;cases r
   simp only[Nat.zero_add]
   cases hl:l[i]? with
   | none=>rfl
   | some v=>simp only[Option.map_some,Uv _ _ _ _ M,O,Bool.false_eq_true,if_false]
  ·intro e l' w' C u
   cases e with
   | normal=>exact C
   | _=>exact j _ _ _ C u
theorem X0q (P:Program) (g:List (Option (List Nat))) (c:Code): ∀(k:Nat) (Q:Ha) (a:Act) (w:World),
 a.defers=[]→Np P g k c Q a.tmps.toList w→c.wp P (lift Q) a w:=by
 induction c with
 | skip=>intro k Q a w j h;exact wp_skip ⟨j,h⟩
 | label n=>intro k Q a w j h;exact wp_label ⟨j,h⟩
 | exit id=>intro k Q a w j h;exact wp_exit ⟨j,h⟩
 | ret=>intro k Q a w j h;exact wp_ret ⟨j,h⟩
 | goto n=>intro k Q a w j h;exact h.elim
 | refuse s=>intro k Q a w j h;exact h.elim
 | scope c=>intro k Q a w j h;exact h.elim
 | rangeFunc f p a b=>intro k Q a w j h;exact h.elim
 | region id ops B=>
  intro k Q a w j h
  cases B with
  | false=>
   refine wp_region (Q0n P ops _ _ (fun a w j h=>⟨j,h⟩) _ (by simp) a w j ?_)
   rw[As];exact h
  | true=>
   refine wp_region_draw fun t=>?_
   exact Q0n P ops _ _ (fun a w j h=>⟨j,h⟩) _ (Q2e _ _ _) a _ j (h t)
 | seq x y r u=>
  intro k Q a w j h
  simp only[Np] at h
  split at h
  ·refine wp_seq (wp_mono (r _ _ a w j h) ?_)
   intro e o w' ⟨m,q⟩
   cases e with
   | normal=>exact u _ _ o w' m q
   | _=>exact ⟨m,q⟩
  ·rename_i Y ac
   obtain ⟨J,U,E⟩:=Q5X h
   have H:=Q4E P g x (k+1) _ (fun e l' w'=>thn (fun l' w'=>J (Ow l' Y) w') Q e l' w'∧Qc (L8 g (k+1) x) a.tmps.toList l') (L8 g (k+1) x) a.tmps.toList a.tmps.toList w (fun _ h=>h) (Qc.refl _ _) (fun e l w h X=>⟨h,X⟩) U
   refine wp_seq (wp_mono (r (k+1) _ a w j H) ?_)
   intro e o w' ⟨m,q,D⟩
   cases e with
   | normal=>
    refine u (k+1+Qh x) _ o w' m ?_
    rw[Il Y (L8 g (k+1) x) a.tmps.toList o.tmps.toList D.1 (fun i _ h=>D.2 i h)]
    exact E _ _ _ q
   | _=>exact ⟨m,q⟩
 | cond c x y r u=>
  intro k Q a w j h
  simp only[Np,Q63,Q3F] at h
  split at h
  ·rename_i N
   exact wp_cond_true (by rw[Q4a];exact N) (r _ _ _ _ j h)
  ·rename_i N
   exact wp_cond_false (by rw[Q4a];exact N) (u _ _ _ _ j h)
  ·exact h.elim
 | block id c L=>
  intro k Q a w j h
  refine wp_block (wp_mono (L k _ a w j h) ?_)
  intro e o w' ⟨m,q⟩
  cases e with
  | exit aa=>
   simp only[Q2X,Exit.inBlock] at q⊢
   split<;>rename_i W<;>simp only[W,if_true,if_false] at q<;>exact ⟨m,q⟩
  | _=>exact ⟨m,q⟩
 | loop c L=>
  intro k Q a w j h
  obtain ⟨I,μ,h0,hr⟩:=X0Q h
  refine wp_loop (fun o w'=>o.defers=[]∧(∃d,o.tmps.toList=O8 ((g.getD k none).getD []) (L8 g (k+1) c) (Ow o.tmps.toList ((g.getD k none).getD [])) d 0 a.tmps.toList)∧I (Ow o.tmps.toList ((g.getD k none).getD [])) w') (fun o w'=>μ (Ow o.tmps.toList ((g.getD k none).getD [])) w') ⟨j,⟨get a.tmps.toList,Il _ _ _ _ rfl (fun _ _ _=>rfl)⟩,h0⟩ ?_
  intro C w1 ⟨M,⟨Z,v⟩,R⟩
  have V:=hr _ Z w1 R
  dsimp only at V
  rw[←v] at V
  have O:=Q4E P g c (k+1) _ (fun e l' w'=>thn (fun l' w'=>I (Ow l' ((g.getD k none).getD [])) w'∧μ (Ow l' ((g.getD k none).getD [])) w'<μ (Ow C.tmps.toList ((g.getD k none).getD [])) w1) Q e l' w'∧Qc (L8 g (k+1) c) C.tmps.toList l') (L8 g (k+1) c) C.tmps.toList C.tmps.toList w1 (fun _ h=>h) (Qc.refl _ _) (fun e l w h X=>⟨h,X⟩) V
  refine wp_mono (L _ _ C w1 M O) ?_
  intro e a2 w2 ⟨z,E,A⟩
  cases e with
  | normal=>
   refine ⟨⟨z,⟨get a2.tmps.toList,Il _ _ _ _ ?_ ?_⟩,E.1⟩,E.2⟩
   ·rw[A.1,v,Rm]
   ·intro i U H
    rw[A.2 i H,v,Cr]
    simp only[Nat.zero_add,Uv _ _ _ _ U,H,Bool.false_eq_true,if_false,Option.map_id']
  | _=>exact ⟨z,E⟩
def Q9h:List Value→Nat→Value→(List Value→Prop)→Prop
 | [],_,_,k=>k []
 | _::l,0,v,k=>k (v::l)
 | x::l,n+1,v,k=>Q9h l n v (fun l'=>k (x::l'))
def Q4c (l:List Value) (d:Option Tmp) (v:Value) (k:List Value→Prop):Prop:=
 match d with
 | some d=>Q9h l d v k
 | none=>k l
def Q9z:List Value→Nat→(Value→Prop)→Prop
 | [],_,k=>k undef
 | x::_,0,k=>k x
 | _::l,n+1,k=>Q9z l n k
def evK (l:List Value) (o:Operand) (k:Value→Prop):Prop:=
 match o with
 | .tmp t=>Q9z l t k
 | .const v=>k v
 | .global g=>k (.pointer (some ⟨g,0,none⟩))
 | .func f=>k (.func (.func f) #[] #[])
def Q30 (i:Nat) (e:Value):(a:List Nat)→Px a.length→(Value→Prop)→Prop
 | [],_,k=>k e
 | [s],x,k=>if s=i then k x else k e
 | s::t::r,x,k=>if s=i then k x.1 else Q30 i e (t::r) x.2 k
def Fg (a b:List Nat) (x:Px a.length) (d:Nat→Value):Nat→List Value→(List Value→Prop)→Prop
 | _,[],k=>k []
 | i,v::l,k=>match b.contains i with
  | true=>Q30 i (d i) a x (fun u=>Fg a b x d (i+1) l (fun l'=>k (u::l')))
  | false=>Q30 i v a x (fun u=>Fg a b x d (i+1) l (fun l'=>k (u::l')))
theorem X35 (l:List Value): ∀(n:Nat) (v:Value) (k:List Value→Prop),Q9h l n v k=k (l.set n v):=by
 induction l with
 | nil=>intro n v k;rfl
 | cons x l a=>intro n v k;cases n with
  | zero=>rfl
  | succ n=>simp only[Q9h,a,List.set_cons_succ]
theorem Q8E (l:List Value) (d:Option Tmp) (v:Value) (k:List Value→Prop):Q4c l d v k=k (put l d v):=by
 cases d with
 | none=>rfl
 | some d=>exact X35 l d v k
theorem X3C (l:List Value): ∀(n:Nat) (k:Value→Prop),Q9z l n k=k (get l n):=by
 induction l with
 | nil=>intro n k;rfl
 | cons x l a=>intro n k;cases n with
  | zero=>rfl
  | succ n=>simp only[Q9z,a];rfl
theorem X3U (l:List Value) (o:Operand) (k:Value→Prop):evK l o k=k (ev l o):=by
 cases o with
 | tmp t=>exact X3C l t k
 | _=>rfl
theorem Q0D (i:Nat) (e:Value) (k:Value→Prop): ∀(a:List Nat) (x:Px a.length),Q30 i e a x k=k (Hw i e a x)
 | [],_=>rfl
 | [s],x=>by
  by_cases h:s=i
  ·exact (if_pos h).trans (congrArg k (if_pos h).symm)
  ·exact (if_neg h).trans (congrArg k (if_neg h).symm)
 | s::t::r,x=>by
  by_cases h:s=i
  ·exact (if_pos h).trans (congrArg k (if_pos h).symm)
  ·exact ((if_neg h).trans (Q0D i e k (t::r) x.2)).trans (congrArg k (if_neg h).symm)
theorem Q4B (a b:List Nat) (x:Px a.length) (d:Nat→Value) (l:List Value): ∀(i:Nat) (k:List Value→Prop),Fg a b x d i l k=k (O8 a b x d i l):=by
 induction l with
 | nil=>intro i k;rfl
 | cons v l c=>
  intro i k
  simp only[Fg,O8]
  split
  ·rename_i h;rw[Q0D,c,if_pos h]
  ·rename_i h;rw[Q0D,c,if_neg (by rw[h];simp)]
theorem Bj (b c a:List Nat) (h: ∀i,c.contains i=a.contains i) (x:Px b.length) (d:Nat→Value) (l:List Value): ∀i,O8 b c x d i l=O8 b a x d i l:=by
 induction l with
 | nil=>intro i;rfl
 | cons v l e=>intro i;simp only[O8,e,h]
noncomputable def I3 (P:Program) (ops:List Oper) (next:List Value→World→Prop):List Oper→List Value→World→Prop
 | [],l,w=>next l w
 | o::a,l,w=>
  match o.guard with
  | none=>match o.op with
   | .move x=>evK l x fun v=>Q4c l o.dst v fun l=>I3 P ops next a l w
   | .assign x=>evK l x fun v=>Q4c l o.dst v fun l=>I3 P ops next a l w
   | _=>V9 P l o w (fun v w=>Q4c l o.dst v fun l=>I3 P ops next a l w)
  | some (j,b)=>match (ops[j]?).bind (·.dst) with
   | some d=>Q1 (get l d) b w (V9 P l o) (fun v w=>Q4c l o.dst v fun l=>I3 P ops next a l w)
   | none=>Q4c l o.dst undef fun l=>I3 P ops next a l w
theorem Hr (P:Program) (ops:List Oper) (next:List Value→World→Prop) (os:List Oper): ∀(l:List Value) (w:World),I3 P ops next os l w=Y4 P ops next os l w:=by
 induction os with
 | nil=>intro l w;rfl
 | cons o c a=>
  intro l w
  obtain ⟨dst,p,ty,pos,d,g⟩:=o
  cases g with
  | none=>cases p<;>simp only[I3,Y4,Q8E,X3U,a,V9]
  | some q=>obtain ⟨j,b⟩:=q;simp only[I3,Y4,Q8E,a]
def D6 (T:World→World→Prop) (φ:Value→World→Prop):Prop:= ∀v w w',φ v w→T w w'→φ v w'
def dk (T:World→World→Prop) (φ:Value→World→Prop) (w:World):Value→World→Prop:=fun v w'=>T w w'∧φ v w'
def Q72 (T:World→World→Prop) (A:(Value→World→Prop)→Prop) (a:(Value→World→Prop)→Prop):Prop:=
 ∃φ,D6 T φ∧A φ∧a φ
theorem X0W: ∃f:(World→World→Prop)→((Value→World→Prop)→Prop)→((Value→World→Prop)→Prop)→Prop,f=Q72:=⟨_,rfl⟩
noncomputable def Q6:(World→World→Prop)→((Value→World→Prop)→Prop)→((Value→World→Prop)→Prop)→Prop:=Classical.choose X0W
theorem X0u:Q6=Q72:=Classical.choose_spec X0W
def Q9C (w:World) (A:(World→World→Prop)→(World→Prop)→Prop):Prop:= ∃T B,B w.drew∧(∀w w',B w→T w w'→B w')∧A T B
theorem X2h: ∃f:World→((World→World→Prop)→(World→Prop)→Prop)→Prop,f=Q9C:=⟨_,rfl⟩
noncomputable def dr:World→((World→World→Prop)→(World→Prop)→Prop)→Prop:=Classical.choose X2h
theorem X2x:dr=Q9C:=Classical.choose_spec X2h
theorem Q1G {w:World} {A:(World→World→Prop)→(World→Prop)→Prop} (T:World→World→Prop) (B:World→Prop) (h:B w.drew) (b: ∀w w',B w→T w w'→B w') (a:A T B):dr w A:=by
 rw[X2x];exact ⟨T,B,h,b,a⟩
theorem L3 {T:World→World→Prop} {A a:(Value→World→Prop)→Prop} (φ:Value→World→Prop) (c:D6 T φ) (h:A φ) (b:a φ):Q6 T A a:=by
 rw[X0u];exact ⟨φ,c,h,b⟩
def Q4h (T:World→World→Prop) (A a:(List Value→Value→World→Prop)→Prop):Prop:=
 ∃φ,(∀xs,D6 T (φ xs))∧A φ∧a φ
theorem Q8q: ∃f:(World→World→Prop)→((List Value→Value→World→Prop)→Prop)→((List Value→Value→World→Prop)→Prop)→Prop,f=Q4h:=⟨_,rfl⟩
noncomputable def Q2N:(World→World→Prop)→((List Value→Value→World→Prop)→Prop)→((List Value→Value→World→Prop)→Prop)→Prop:=Classical.choose Q8q
theorem Q8a:Q2N=Q4h:=Classical.choose_spec Q8q
theorem Q8m {T:World→World→Prop} {A a:(List Value→Value→World→Prop)→Prop} (φ:List Value→Value→World→Prop) (c: ∀xs,D6 T (φ xs)) (h:A φ) (b:a φ):Q2N T A a:=by
 rw[Q8a];exact ⟨φ,c,h,b⟩
abbrev Iv:=Nat×Nat
def Ap (a:Nat→Iv):Prop:= ∀i j,i≠j→(a i).2≤(a j).1∨(a j).2≤(a i).1
def Pw (T:World→World→Prop) (φ:Iv→Value→World→Prop) (w:World):Value→World→Prop:=fun v w'=>T w w'∧φ (w.heap.size,w'.heap.size) v w'
def Q3Y (T:(Nat→Iv)→World→World→Prop) (j:Nat) (A a:(Iv→Value→World→Prop)→Prop):Prop:=
 ∃φ,(∀b,Ap b→D6 (T b) (φ (b j)))∧A φ∧a φ
theorem Q8w: ∃f:((Nat→Iv)→World→World→Prop)→Nat→((Iv→Value→World→Prop)→Prop)→((Iv→Value→World→Prop)→Prop)→Prop,f=Q3Y:=⟨_,rfl⟩
noncomputable def Ce:((Nat→Iv)→World→World→Prop)→Nat→((Iv→Value→World→Prop)→Prop)→((Iv→Value→World→Prop)→Prop)→Prop:=Classical.choose Q8w
theorem Q85:Ce=Q3Y:=Classical.choose_spec Q8w
theorem Oy {T:(Nat→Iv)→World→World→Prop} {j:Nat} {A a:(Iv→Value→World→Prop)→Prop} (φ:Iv→Value→World→Prop) (d: ∀b,Ap b→D6 (T b) (φ (b j))) (h:A φ) (c:a φ):Ce T j A a:=by
 rw[Q85];exact ⟨φ,d,h,c⟩
def Q3Q (T:(Nat→Iv)→World→World→Prop) (A a:(Value→World→Prop)→Prop):Prop:=
 ∃φ,(∀b,Ap b→D6 (T b) φ)∧A φ∧a φ
theorem Q8n: ∃f:((Nat→Iv)→World→World→Prop)→((Value→World→Prop)→Prop)→((Value→World→Prop)→Prop)→Prop,f=Q3Q:=⟨_,rfl⟩
noncomputable def K5:((Nat→Iv)→World→World→Prop)→((Value→World→Prop)→Prop)→((Value→World→Prop)→Prop)→Prop:=Classical.choose Q8n
theorem Q8I:K5=Q3Q:=Classical.choose_spec Q8n
theorem Rd {T:(Nat→Iv)→World→World→Prop} {A a:(Value→World→Prop)→Prop} (φ:Value→World→Prop) (d: ∀b,Ap b→D6 (T b) φ) (h:A φ) (c:a φ):K5 T A a:=by
 rw[Q8I];exact ⟨φ,d,h,c⟩
def Q2q (T:(Nat→Iv)→World→World→Prop) (A a:(List Value→Value→World→Prop)→Prop):Prop:=
 ∃φ,(∀xs b,Ap b→D6 (T b) (φ xs))∧A φ∧a φ
theorem Q6d: ∃f:((Nat→Iv)→World→World→Prop)→((List Value→Value→World→Prop)→Prop)→((List Value→Value→World→Prop)→Prop)→Prop,f=Q2q:=⟨_,rfl⟩
noncomputable def Pi:((Nat→Iv)→World→World→Prop)→((List Value→Value→World→Prop)→Prop)→((List Value→Value→World→Prop)→Prop)→Prop:=Classical.choose Q6d
theorem Q74:Pi=Q2q:=Classical.choose_spec Q6d
theorem Q2E {T:(Nat→Iv)→World→World→Prop} {A a:(List Value→Value→World→Prop)→Prop} (φ:List Value→Value→World→Prop) (d: ∀xs b,Ap b→D6 (T b) (φ xs)) (h:A φ) (c:a φ):Pi T A a:=by
 rw[Q74];exact ⟨φ,d,h,c⟩
def Q6q (w:World) (A:((Nat→Iv)→World→World→Prop)→(World→Prop)→Prop):Prop:= ∃T B,B w.drew∧(∀a w w',B w→T a w w'→B w')∧(∀a w w',T a w w'→w.heap.size≤w'.heap.size)∧A T B
theorem X0t: ∃f:World→(((Nat→Iv)→World→World→Prop)→(World→Prop)→Prop)→Prop,f=Q6q:=⟨_,rfl⟩
noncomputable def drR:World→(((Nat→Iv)→World→World→Prop)→(World→Prop)→Prop)→Prop:=Classical.choose X0t
theorem X0n:drR=Q6q:=Classical.choose_spec X0t
theorem Q6v {w:World} {A:((Nat→Iv)→World→World→Prop)→(World→Prop)→Prop} (T:(Nat→Iv)→World→World→Prop) (B:World→Prop) (h:B w.drew) (d: ∀a w w',B w→T a w w'→B w') (b: ∀a w w',T a w w'→w.heap.size≤w'.heap.size) (c:A T B):drR w A:=by
 rw[X0n];exact ⟨T,B,h,d,b,c⟩
def Mo:Bool→((Nat→Iv)→Prop)→Prop
 | false,k=>k fun _=>(0,0)
 | true,k=> ∀a:Nat→Iv,Ap a→k a
def OkI:Bool→(Nat→Iv)→Prop
 | false,a=>a=fun _=>(0,0)
 | true,a=>Ap a
def Oc:Bool→World→Nat
 | false,_=>0
 | true,w=>w.heap.size
theorem Q5P {r:Bool} {k:(Nat→Iv)→Prop} (h:Mo r k) {a:Nat→Iv} (b:OkI r a):k a:=by
 cases r with
 | false=>have b:a=_:=b;subst b;exact h
 | true=>exact h a b
def Cv (r:Bool) (a:Nat→Iv) (w:World):Prop:=OkI r a∧ ∀q,(a q).2≤Oc r w
theorem Cv.init {r:Bool} {w:World}:Cv r (fun _=>(0,0)) w:=⟨by cases r<;>first | rfl | exact fun _ _ _=> .inl (Nat.le_refl _),fun _=>Nat.zero_le _⟩
theorem Cv.step {r:Bool} {c:Nat→Iv} {w w':World} (h:Cv r c w) (g:Oc r w≤Oc r w') (q:Nat):Cv r (fun n=>if n=q then (Oc r w,Oc r w') else c n) w':=by
 obtain ⟨a,d⟩:=h
 refine ⟨?_,fun n=>?_⟩
 ·cases r with
  | false=>
   have a:c=_:=a
   subst a
   funext n
   simp[Oc]
  | true=>
   intro i j b
   have a:Ap c:=a
   simp only
   by_cases f:i=q
   ·subst f
    rw[if_pos rfl,if_neg (Ne.symm b)]
    exact .inr (d j)
   ·rw[if_neg f]
    by_cases e:j=q
    ·subst e
     rw[if_pos rfl]
     exact .inl (d i)
    ·rw[if_neg e]
     exact a i j b
 ·simp only
  split
  ·exact Nat.le_refl _
  ·exact Nat.le_trans (d n) g
noncomputable def runOp (P:Program) (ops:List Oper) (l:List Value) (o:Oper) (w:World) (K:Value→World→Prop):Prop:=
 match o.guard with
 | none=>V9 P l o w K
 | some (j,b)=>match (ops[j]?).bind (·.dst) with
  | some d=>Q1 (get l d) b w (V9 P l o) K
  | none=>False
inductive Ent where
  | val (v : Value)
  | ref (j : Nat)
def Ent.at (u:Nat→Value):Ent→Value
 | .val v=>v
 | .ref j=>u j
def B8 (u:Nat→Value) (S:List Ent):List Value:=S.map (Ent.at u)
def getE:List Ent→Nat→Ent
 | [],_=> .val undef
 | x::_,0=>x
 | _::l,n+1=>getE l n
def entOf (S:List Ent):Operand→Ent
 | .tmp t=>getE S t
 | .const v=> .val v
 | .global g=> .val (.pointer (some ⟨g,0,none⟩))
 | .func f=> .val (.func (.func f) #[] #[])
def mv (o:Oper):Option Operand:=
 match o.guard with
 | some _=>none
 | none=>match o.op with
  | .move x=>some x
  | .assign x=>some x
  | _=>none
def Q2K:List Ent→Nat→Ent→List Ent
 | [],_,_=>[]
 | _::l,0,e=>e::l
 | x::l,n+1,e=>x::Q2K l n e
def putE (S:List Ent) (d:Option Nat) (e:Ent):List Ent:=
 match d with
 | some d=>Q2K S d e
 | none=>S
def E6 (o:Oper):List Nat:=o.op.operands.toList.filterMap fun | .tmp t=>some t | _=>none
def D2 (ops:List Oper) (o:Oper):List Nat:=
 match o.guard with
 | none=>[]
 | some (j,_)=>match (ops[j]?).bind (·.dst) with | some d=>[d] | none=>[]
def Q1k:List Nat→List Nat
 | []=>[]
 | x::l=>x::(Q1k l).filter (fun y=> !(y==x))
def Q5y:Ent→List Nat
 | .ref j=>[j]
 | .val _=>[]
def Q1l (S:List Ent):List Nat→List Nat
 | []=>[]
 | s::l=>Q5y (getE S s)++Q1l S l
def refs (ops:List Oper) (S:List Ent) (o:Oper):List Nat:=Q1k (Q1l S (D2 ops o++E6 o))
def Vu:List Nat→(Nat→Value)→((Nat→Value)→Prop)→Prop
 | [],u,k=>k u
 | j::a,u,k=> ∀t:Value,Vu a (fun n=>if n=j then t else u n) k
abbrev Cd:=List (Nat×List Nat×(List Value→Iv→Value→World→Prop))
def Uk:Cd→Nat→Option (List Nat×(List Value→Iv→Value→World→Prop))
 | [],_=>none
 | (i,φ)::l,j=>if i=j then some φ else Uk l j
def Vw (c:Cd) (u:Nat→Value) (b:Nat→Iv) (w:World) (a:Prop):List Nat→Prop
 | []=>a
 | j::d=>match Uk c j with
  | some ([],φ)=>φ [] (b j) (u j) w→Vw c u b w a d
  | _=>Vw c u b w a d
def Q1E (c:Cd) (u:Nat→Value) (b:Nat→Iv) (w:World) (a:Prop):List Nat→Prop
 | []=>a
 | j::d=>match Uk c j with
  | some (R,φ)=>φ (R.map u) (b j) (u j) w→Q1E c u b w a d
  | none=>Q1E c u b w a d
def Q9n (o:Oper):Bool:=match o.op with | .store .. =>true | _=>false
def Q0B (o:Oper):Bool:=match o.op with | .call c=>(match c.callee with | .value (.func _)=>true | _=>false) | _=>false
def X5i (o:Oper):Bool:=match o.op with | .build .. =>true | _=>false
def X1X (o:Oper):Bool:=match o.op with | .call c=>(match c.callee with | .builtin .append=>true | _=>false) | _=>false
def Q9D (r:Bool) (o:Oper):Bool:=match r with | true=>Q0B o||X1X o | false=>false
abbrev ivZ:Nat→Iv:=fun _=>(0,0)
def Q8R (r:Bool) (o:Oper):Bool:=match r with | true=>Q9n o||X5i o | false=>Q9n o
noncomputable def chain (P:Program) (r:Bool) (ops:List Oper) (T:(Nat→Iv)→World→World→Prop) (B:World→Prop) (J6:List Value→World→Prop) (tail:List Oper):Nat→List Oper→List Ent→Cd→List Nat→Prop
 | _,[],S,c,done=>Vu done (fun _=>undef) fun u=>Mo r fun b=> ∀w,B w→Q1E c u b w (I3 P ops J6 tail (B8 u S) w) done
 | i,o::a,S,c,done=>
  match mv o with
  | some x=>chain P r ops T B J6 tail (i+1) a (putE S o.dst (entOf S x)) c done
  | none=>match Q8R r o with
   | true=>match r with
    | true=>Pi T (fun φ=>Vu (refs ops S o) (fun _=>undef) fun u=>Mo true fun b=> ∀w,B w→Vw c u b w (runOp P ops (B8 u S) o w (dk (T b) (φ ((refs ops S o).map u)) w)) (refs ops S o))
     (fun φ=>chain P r ops T B J6 tail (i+1) a (putE S o.dst (.ref i)) (c++[(i,refs ops S o,fun xs (_:Iv)=>φ xs)]) (done++[i]))
    | false=>Q2N (T ivZ) (fun φ=>Vu (refs ops S o) (fun _=>undef) fun u=>Mo false fun b=> ∀w,B w→Vw c u b w (runOp P ops (B8 u S) o w (dk (T b) (φ ((refs ops S o).map u)) w)) (refs ops S o))
     (fun φ=>chain P r ops T B J6 tail (i+1) a (putE S o.dst (.ref i)) (c++[(i,refs ops S o,fun xs (_:Iv)=>φ xs)]) (done++[i]))
   | false=>match Q9D r o with
    | true=>Ce T i (fun φ=>Vu (refs ops S o) (fun _=>undef) fun u=>Mo r fun b=> ∀w,B w→Vw c u b w (runOp P ops (B8 u S) o w (Pw (T b) φ w)) (refs ops S o))
     (fun φ=>chain P r ops T B J6 tail (i+1) a (putE S o.dst (.ref i)) (c++[(i,[],fun (_:List Value)=>φ)]) (done++[i]))
    | false=>match r with
     | true=>K5 T (fun φ=>Vu (refs ops S o) (fun _=>undef) fun u=>Mo true fun b=> ∀w,B w→Vw c u b w (runOp P ops (B8 u S) o w (dk (T b) φ w)) (refs ops S o))
      (fun φ=>chain P r ops T B J6 tail (i+1) a (putE S o.dst (.ref i)) (c++[(i,[],fun (_:List Value) (_:Iv)=>φ)]) (done++[i]))
     | false=>Q6 (T ivZ) (fun φ=>Vu (refs ops S o) (fun _=>undef) fun u=>Mo false fun b=> ∀w,B w→Vw c u b w (runOp P ops (B8 u S) o w (dk (T b) φ w)) (refs ops S o))
      (fun φ=>chain P r ops T B J6 tail (i+1) a (putE S o.dst (.ref i)) (c++[(i,[],fun (_:List Value) (_:Iv)=>φ)]) (done++[i]))
def Xp:Op→Bool
 | .ready _ | .waits _ | .sliceToArrayPointer .. | .makeChan .. | .typeAssert .. | .go _ | .defer _ | .send .. | .recv .. | .select .. =>false
 | .call c=>match c.callee with | .invoke .. =>false | _=>true
 | _=>true
theorem Cx {l l':List Value} {x:Option Operand} (h: ∀y∈x.toArray,ev l y=ev l' y):evo l x=evo l' x:=by
 cases x with
 | none=>rfl
 | some y=>simp only[evo];rw[h y (by simp)]
theorem Q0h {l l':List Value} {xs:Array Operand} (h: ∀y∈xs,ev l y=ev l' y):evs l xs=evs l' xs:=by
 unfold evs;exact List.map_congr_left fun y a=>h y (by simpa using a)
theorem Q4H {l l':List Value} {xs:Array (Nat×Operand)} (h: ∀y∈(xs.toList.map (·.2)).toArray,ev l y=ev l' y):evp l xs=evp l' xs:=by
 unfold evp
 refine List.map_congr_left fun y a=>?_
 rw[h y.2 (by simp;exact ⟨y.1,by simpa using a⟩)]
theorem Dp {P:Program} {l l':List Value} {o:Oper} (k:Xp o.op=true) (h: ∀x∈o.op.operands,ev l x=ev l' x):V9 P l o=V9 P l' o:=by
 obtain ⟨d,p,ty,pos,B,g⟩:=o
 funext w K
 cases p with
 | call c=>
  obtain ⟨j,i,C⟩:=c
  have q:evs l i=evs l' i:=Q0h fun y e=>h y (by simp[Op.operands,Call.operands];exact .inr e)
  cases j with
  | invoke r m=>simp[Xp] at k
  | builtin b=>simp only[V9,Dm,q]
  | value f=>
   have v:ev l f=ev l' f:=h f (by simp[Op.operands,Call.operands])
   cases f<;>simp only[V9,Dm,q,v]
 | build t s=>simp only[V9];rw[Q4H h]
 | buildSlice t n s=>simp only[V9];rw[Q4H h]
 | makeFunc f a b=>
  simp only[V9]
  rw[Q0h (xs:=a) fun y e=>h y (by simp[Op.operands];exact .inl e),Q0h (xs:=b) fun y e=>h y (by simp[Op.operands];exact .inr e)]
 | makeMap t r=>simp only[V9];rw[Cx h]
 | slice t x A z u=>
  simp only[V9]
  rw[h x (by simp[Op.operands]),Cx (x:=A) fun y e=>h y (by simp[Op.operands] at e⊢;simp[e]),Cx (x:=z) fun y e=>h y (by simp[Op.operands] at e⊢;simp[e]),Cx (x:=u) fun y e=>h y (by simp[Op.operands] at e⊢;simp[e])]
 | _=>first
  | (simp[Xp] at k;done)
  | (simp only[Op.operands,List.mem_toArray,List.mem_cons,List.not_mem_nil,or_false,forall_eq_or_imp,forall_eq] at h;simp only[V9,h];done)
  | rfl
def Ix:List Oper→List Nat→List Nat
 | [],acc=>acc
 | o::a,acc=>Ix a (acc++[(o.after.toList.filter (Region.binds .any)).foldl (fun s e=>s ||| 2 ^ e.on ||| acc.getD e.on 0) 0])
def Qg (a b:Oper):Bool:=
 match a.dst with
 | some d=>(E6 b).contains d||b.dst==some d
 | none=>false
def Q40 (a:List Nat) (ops:List Oper):Bool:=
 ops.zipIdx.all fun (o,j)=>ops.zipIdx.all fun (q,i)=> !(decide (i<j))|| !(Qg q o||Qg o q)||(a.getD j 0).testBit i
def Ua (ops:List Oper):Bool:=
 ops.zipIdx.all fun (o,i)=>Xp o.op&&(o.after.toList.filter (Region.binds .any)).all (fun e=>decide (e.on<i))&&
  match o.guard with | none=>true | some (j,_)=>(o.after.toList.filter (Region.binds .any)).any (fun e=>e.on==j)
def Q5u (m:Region.Mode) (ops:List Oper):List Nat→List Nat→Bool
 | [],_=>true
 | j::L,seen=>((ops[j]?.map fun o=>o.after.toList).getD []).all (fun e=> !Region.binds m e||seen.contains e.on)&&Q5u m ops L (j::seen)
def K9 (m:Region.Mode) (ops:List Oper) (L:List Nat):Bool:=
 Q5u m ops L []&&(List.range ops.length).all (L.contains ·)&&ops.all (fun o=>o.after.toList.all fun e=> !Region.binds m e||decide (e.on<ops.length))
def X1O (m:Region.Mode) (ops:List Oper):Nat→List Nat→List Nat→List Nat
 | 0,_,seen=>seen.reverse
 | n+1,a,seen=>
  match a.find? (fun j=>((ops[j]?.map fun o=>o.after.toList).getD []).all (fun e=> !Region.binds m e||seen.contains e.on)) with
  | some j=>X1O m ops n (a.erase j) (j::seen)
  | none=>seen.reverse
def Xg:List Nat→Bool
 | []=>true
 | x::l=> !l.contains x&&Xg l
def P0 (ops:List Oper) (j:Nat):List Nat:=(ops[j]?.map fun o=>(o.after.toList.filter (Region.binds .any)).map (·.on)).getD []
def Rx (ops:List Oper) (L:List Nat):Prop:= ∀a j b,L=a++j::b→ ∀i∈P0 ops j,i∈a
theorem Q61 (f:Edge→Nat) (l:List Edge): ∀(s i:Nat),(l.foldl (fun s e=>s ||| 2 ^ e.on ||| f e) s).testBit i=true→
 s.testBit i=true∨ ∃e∈l,e.on=i∨(f e).testBit i=true:=by
 induction l with
 | nil=>intro s i h;exact .inl h
 | cons e l a=>
  intro s i h
  rcases a _ _ h with h | ⟨b,c,h⟩
  ·simp only[Nat.testBit_or,Bool.or_eq_true] at h
   rcases h with (h | h) | h
   ·exact .inl h
   ·rw[Nat.testBit_two_pow] at h
    exact .inr ⟨e,by simp, .inl (by simpa using h)⟩
   ·exact .inr ⟨e,by simp, .inr h⟩
  ·exact .inr ⟨b,by simp[c],h⟩
theorem Q4D (a:List Oper): ∀(b:List Oper) (acc:List Nat),acc.length+b.length=a.length→(∀k,acc.length≤k→a[k]? =b[k-acc.length]?)→
 (∀j i,j<acc.length→(acc.getD j 0).testBit i=true→ ∃k∈P0 a j,k=i∨(k<j∧(acc.getD k 0).testBit i=true))→
 (∀j,j<a.length→ ∀k∈P0 a j,k<j)→
 ∀j i,j<a.length→((Ix b acc).getD j 0).testBit i=true→ ∃k∈P0 a j,k=i∨(k<j∧((Ix b acc).getD k 0).testBit i=true)
 | [],acc,q,_,c,_=>by
  intro j i t h
  exact c j i (by simp at q;omega) h
 | o::b,acc,q,g,c,n=>by
  have u:a[acc.length]? =some o:=by rw[g _ (Nat.le_refl _)];simp
  refine Q4D a b _ (by simp at q⊢;omega) ?_ ?_ n
  ·intro k l
   simp only[List.length_append,List.length_cons,List.length_nil] at l⊢
   rw[g k (by omega)]
   obtain ⟨m,v⟩: ∃m,k-acc.length=m+1:=⟨k-acc.length-1,by omega⟩
   rw[v,List.getElem?_cons_succ]
   congr 1;omega
  ·intro j i t h
   simp only[List.length_append,List.length_cons,List.length_nil] at t
   have d: ∀k,k<acc.length→(acc++[(o.after.toList.filter (Region.binds .any)).foldl (fun s e=>s ||| 2 ^ e.on ||| acc.getD e.on 0) 0]).getD k 0=acc.getD k 0:=by
    intro k l
    simp only[List.getD_eq_getElem?_getD]
    rw[List.getElem?_append_left l]
   by_cases p:j<acc.length
   ·rw[d j p] at h
    obtain ⟨k,l,h⟩:=c j i p h
    exact ⟨k,l,h.imp id fun ⟨y,z⟩=>⟨y,by rw[d k (by omega)];exact z⟩⟩
   ·have r:j=acc.length:=by omega
    subst r
    simp only[List.getD_eq_getElem?_getD,List.getElem?_append_right (Nat.le_refl _),Nat.sub_self,List.getElem?_cons_zero,Option.getD_some] at h
    rcases Q61 (fun e=>acc.getD e.on 0) _ _ _ (by simpa only[List.getD_eq_getElem?_getD] using h) with h | ⟨e,w,h⟩
    ·simp at h
    ·have f:e.on∈P0 a acc.length:=by
      unfold P0;rw[u];simp only[Option.map_some,Option.getD_some,List.mem_map];exact ⟨e,w,rfl⟩
     refine ⟨e.on,f,h.imp id fun h=>?_⟩
     have l:=n acc.length (by simp at q;omega) _ f
     exact ⟨l,by rw[d _ l];exact h⟩
theorem Pc {ops:List Oper} (h:Ua ops=true): ∀j,j<ops.length→ ∀k∈P0 ops j,k<j:=by
 intro j b k a
 simp only[Ua,List.all_eq_true,Bool.and_eq_true] at h
 unfold P0 at a
 rw[List.getElem?_eq_getElem b] at a
 simp only[Option.map_some,Option.getD_some,List.mem_map] at a
 obtain ⟨e,c,rfl⟩:=a
 have:=(h (ops[j],j) (by rw[List.mem_zipIdx_iff_getElem?];simp[b])).1.2 e c
 simpa using this
theorem Q6K {ops:List Oper} (m:Ua ops=true) {L:List Nat} (q:Rx ops L): ∀(j:Nat),j<ops.length→ ∀i b a,L=b++j::a→((Ix ops []).getD j 0).testBit i=true→i∈b:=by
 intro j
 induction j using Nat.strongRecOn with
 | _ j l=>
  intro e i b a f o
  obtain ⟨k,p,h⟩:=Q4D ops ops [] (by simp) (by simp) (by intro j i e;simp at e) (Pc m) j i e o
  have c:=q b j a f k p
  rcases h with rfl | ⟨d,h⟩
  ·exact c
  ·obtain ⟨g,n,rfl⟩:=List.append_of_mem c
   have:=l k d (by omega) i g (n++j::a) (by rw[f];simp) h
   exact List.mem_append_left _ this
theorem Vy: ∀(n:Nat) (a:List Nat),(∀k,k<n→k∈a)→n≤a.length
 | 0,_,_=>Nat.zero_le _
 | n+1,a,h=>by
  have d:=Vy n (a.erase n) fun k c=>(List.mem_erase_of_ne (by omega)).2 (h k (by omega))
  have e:=List.length_erase_of_mem (h n (by omega))
  have b:=List.length_pos_of_mem (h n (by omega))
  omega
theorem C9: ∀(n:Nat) (l:List Nat),l.Nodup→(∀k∈l,k<n)→l.length≤n
 | 0,l,_,h=>by
  cases l with
  | nil=>simp
  | cons x l=>exact absurd (h x (by simp)) (by omega)
 | n+1,l,c,h=>by
  by_cases b:n∈l
  ·have g:=C9 n (l.erase n) (c.erase n) fun k a=>by
    have f:=h k (List.mem_of_mem_erase a)
    have d:k≠n:=fun e=>by subst e;exact (List.Nodup.not_mem_erase c) a
    omega
   have f:=List.length_erase_of_mem b
   have d:=List.length_pos_of_mem b
   omega
  ·have:=C9 n l c fun k a=>by
    have f:=h k a
    have d:k≠n:=fun e=>by subst e;exact b a
    omega
   omega
theorem X0B {m:Region.Mode} {e:Edge} (h:Region.binds .any e=true):Region.binds m e=true:=by
 unfold Region.binds at h⊢
 cases a:e.ground<;>rw[a] at h<;>first | rfl | (exact absurd h (by simp<;>rfl)) | (simp at h;cases h)
theorem Q9F {m:Region.Mode} {ops:List Oper} {L:List Nat} (h:K9 m ops L=true) (k:Nat) (b:k<ops.length): ∀e∈(ops[k]?.map fun o=>o.after.toList).getD [],Region.binds m e=true→e.on<ops.length:=by
 intro e a c
 simp only[K9,Bool.and_eq_true,List.all_eq_true] at h
 rw[List.getElem?_eq_getElem b] at a
 have:=h.2 ops[k] (List.getElem_mem b) e (by simpa using a)
 rw[c] at this
 simpa using this
theorem Q5G {m:Region.Mode} {ops:List Oper} {L:List Nat} (h:K9 m ops L=true): ∀k,k<ops.length→k∈L:=by
 intro k a
 simp only[K9,Bool.and_eq_true,List.all_eq_true] at h
 simpa using h.1.2 k (by simpa using a)
theorem Q8o (m:Region.Mode) (ops:Array Oper) (Q:Ua ops.toList=true) (Y:List Nat) (O:K9 m ops.toList Y=true): ∀(fuel t:Nat) (listed:Array Bool) (a:List Nat),
 fuel+a.length=ops.size→listed.size=ops.size→(∀i,i<ops.size→(listed.getD i true=true↔i∈a))→a.Nodup→(∀i∈a,i<ops.size)→Rx ops.toList a.reverse→
 (Region.linearise.go m ops fuel t listed a).Nodup∧(Region.linearise.go m ops fuel t listed a).length=ops.size∧Rx ops.toList (Region.linearise.go m ops fuel t listed a)
 | 0,t,listed,a,hf,_,_,hn,_,hr=>by
  simp only[Region.linearise.go]
  exact ⟨List.pairwise_reverse.2 (hn.imp fun h=>Ne.symm h),by simp;omega,hr⟩
 | fuel+1,t,listed,a,hf,v,B,hn,y,hr=>by
  -- one that isn't listed may come
  have V: ∃k,k<ops.size∧k∉a:=by
   refine Classical.byContradiction fun Z=>?_
   have z: ∀k,k<ops.size→k∈a:=fun k hk=>Classical.byContradiction fun h=>Z ⟨k,hk,h⟩
   have:=Vy ops.size a z
   omega
  simp only[Region.linearise.go]
  split
  ·rename_i i hi
   have l:=List.mem_of_getElem? hi
   simp only[List.mem_filter,List.mem_range,Bool.and_eq_true,Bool.not_eq_true'] at l
   obtain ⟨c,D,r⟩:=l
   have u:i∉a:=fun h=>by rw[(B i c).2 h] at D;cases D
   refine Q8o m ops Q Y O fuel _ _ _ (by simp;omega) (by simp[v]) ?_ (List.nodup_cons.2 ⟨u,hn⟩) ?_ ?_
   ·intro j hj
    by_cases n:i=j
    ·subst n;simp[Array.getD,v,c]
    ·have:(listed.setIfInBounds i true).getD j true=listed.getD j true:=by
      simp only[Array.getD_eq_getD_getElem?]
      rw[Array.getElem?_setIfInBounds_ne n]
     rw[this,B j hj]
     simp[Ne.symm n]
   ·intro j hj
    rcases List.mem_cons.1 hj with rfl | hj
    ·exact c
    ·exact y j hj
   ·rw[List.reverse_cons]
    intro ad j A W k hk
    rcases List.eq_nil_or_concat A with rfl | ⟨q,x,rfl⟩
    ·have hh:=List.append_inj' W rfl
     obtain ⟨h1,h2⟩:=hh
     simp only[List.cons.injEq,and_true] at h2
     subst h2;subst h1
     have U:=hk
     unfold P0 at hk
     rw[show ops.toList[i]? =some ops[i] by simp[c]] at hk
     simp only[Option.map_some,Option.getD_some,List.mem_map,List.mem_filter] at hk
     obtain ⟨e,⟨f,aa⟩,rfl⟩:=hk
     rw[show ops[i]? =some ops[i] by simp[c]] at r
     simp only[Option.map_some,Option.getD_some,Array.all_eq_true'] at r
     have h4:=r e (by simpa using f)
     simp only[Bool.or_eq_true,Bool.not_eq_true'] at h4
     rcases h4 with h4 | h4
     ·rw[X0B aa] at h4;cases h4
     ·have ao:=Pc Q i (by simpa using c) e.on U
      have:listed.getD e.on true=true:=by
       simp only[Array.getD_eq_getD_getElem?] at h4⊢
       rw[Array.getElem?_eq_getElem (by omega)] at h4⊢
       simpa using h4
      simpa using (B e.on (by omega)).1 this
    ·rw[List.concat_eq_append,←List.cons_append,←List.append_assoc] at W
     have hh:=List.append_inj' W rfl
     exact hr ad j q hh.1 k hk
  ·rename_i p
   exfalso
   obtain ⟨k0,C,H⟩:=V
   have E:=O
   simp only[K9,Bool.and_eq_true] at E
   -- every number of L0 that is none of an operation's has no edges: it may stand there, but isn't looked at
   have g: ∃k,k<ops.size∧k∉a∧ ∀e∈(ops.toList[k]?.map fun o=>o.after.toList).getD [],Region.binds m e=true→e.on∈a∨ops.size≤e.on:=by
    -- the first of L0 that is an operation's number and isn't listed
    have key: ∀(L b:List Nat),Q5u m ops.toList L b=true→(∀k∈b,k∈a∨ops.size≤k)→(∃k∈L,k<ops.size∧k∉a)→
     ∃k,k<ops.size∧k∉a∧ ∀e∈(ops.toList[k]?.map fun o=>o.after.toList).getD [],Region.binds m e=true→e.on∈a∨ops.size≤e.on:=by
     intro L
     induction L with
     | nil=>rintro b _ _ ⟨k,hk,_⟩;simp at hk
     | cons j L ih=>
      rintro b h hs ⟨k,hk,X,w⟩
      simp only[Q5u,Bool.and_eq_true,List.all_eq_true] at h
      by_cases hj:j∈a∨ops.size≤j
      ·refine ih (j::b) h.2 (fun x hx=>by rcases List.mem_cons.1 hx with rfl | hx;exact hj;exact hs x hx) ⟨k,?_,X,w⟩
       rcases List.mem_cons.1 hk with rfl | hk
       ·rcases hj with hj | hj
        ·exact absurd hj w
        ·omega
       ·exact hk
      ·have ac:j<ops.size:=by
        refine Nat.lt_of_not_le fun h=>hj (.inr h)
       refine ⟨j,ac,fun h=>hj (.inl h),fun e Q R=>?_⟩
       have:=h.1 e Q
       rw[R] at this
       exact hs _ (by simpa using this)
    exact key Y [] E.1.1 (by simp) ⟨k0,Q5G O k0 (by simpa using C),C,H⟩
   obtain ⟨k,d,ae,N⟩:=g
   by_cases J:k∈(List.range ops.size).filter fun i=> !listed.getD i true&&((ops[i]?).map (·.after.all fun e=> !Region.binds m e||listed.getD e.on false)).getD false
   ·have M:=List.length_pos_of_mem J
    have:=List.getElem?_eq_none_iff.1 p
    have:=Nat.mod_lt t M
    omega
   ·refine J ?_
    simp only[List.mem_filter,List.mem_range,Bool.and_eq_true,Bool.not_eq_true']
    refine ⟨d,?_,?_⟩
    ·cases hc:listed.getD k true with
     | false=>rfl
     | true=>exact absurd ((B k d).1 hc) ae
    ·rw[show ops[k]? =some ops[k] by simp[d]]
     simp only[Option.map_some,Option.getD_some,Array.all_eq_true']
     intro e f
     simp only[Bool.or_eq_true,Bool.not_eq_true']
     cases R:Region.binds m e with
     | false=>exact .inl rfl
     | true=>
      right
      rw[show ops.toList[k]? =some ops[k] by simp[d]] at N
      rcases N e (by simpa using f) R with h | h
      ·have s:=y _ h
       have:=(B e.on s).2 h
       simp only[Array.getD_eq_getD_getElem?] at this⊢
       rw[Array.getElem?_eq_getElem (by omega)] at this⊢
       simpa using this
      ·exact absurd h (by
        have:=Q9F O k (by simpa using d) e (by rw[show ops.toList[k]? =some ops[k] by simp[d]];simpa using f) R
        simp at this;omega)
theorem Q5f (b:Bool) (ops:Array Oper) (t:Nat) (f:Ua ops.toList=true) (d: ∀m,∃L,K9 m ops.toList L=true):
 (Region.schedule b ops t).Nodup∧(Region.schedule b ops t).length=ops.size∧Rx ops.toList (Region.schedule b ops t):=by
 have key: ∀m t,(Region.linearise m ops t).Nodup∧(Region.linearise m ops t).length=ops.size∧Rx ops.toList (Region.linearise m ops t):=by
  intro m t
  obtain ⟨L,g⟩:=d m
  refine Q8o m ops f L g _ _ _ _ (by simp) (by simp) ?_ List.nodup_nil (by simp) ?_
  ·intro i c;simp[Array.getD,c]
  ·intro e j a h;simp at h
 unfold Region.schedule
 split<;>exact key _ _
theorem Yk: ∀(ops:List Oper),Xg (D9 ops)=true→ ∀(i j:Nat) (a b:Oper) (d:Nat),ops[i]? =some a→ops[j]? =some b→a.dst=some d→b.dst=some d→i=j
 | [],_,i,j,a,b,d,h,_,_,_=>by simp at h
 | o::c,l,i,j,a,b,d,m,n,r,p=>by
  have f: ∀(k:Nat) (q:Oper),c[k]? =some q→q.dst=some d→d∈D9 c:=by
   intro k q v u
   simp only[D9,List.mem_filterMap]
   exact ⟨q,List.mem_of_getElem? v,u⟩
  have g:Xg (D9 c)=true:=by
   simp only[D9,List.filterMap_cons] at l
   split at l
   ·exact l
   ·simp only[Xg,Bool.and_eq_true] at l;exact l.2
  have e:o.dst=some d→d∉D9 c:=by
   intro s
   simp only[D9,List.filterMap_cons,s,Xg,Bool.and_eq_true,Bool.not_eq_true'] at l
   intro t
   have:=l.1
   simp only[List.contains_eq_mem,decide_eq_false_iff_not] at this
   exact this t
  cases i with
  | zero=>
   simp only[List.getElem?_cons_zero,Option.some.injEq] at m
   subst m
   cases j with
   | zero=>rfl
   | succ j=>exact absurd (f j b (by simpa using n) p) (e r)
  | succ i=>
   cases j with
   | zero=>
    simp only[List.getElem?_cons_zero,Option.some.injEq] at n
    subst n
    exact absurd (f i a (by simpa using m) r) (e p)
   | succ j=>rw[Yk c g i j a b d (by simpa using m) (by simpa using n) r p]
theorem Iy (u:Nat→Value): ∀(S:List Ent) (s:Nat),get (B8 u S) s=(getE S s).at u
 | [],s=>by simp[B8,get,getE,Ent.at]
 | e::S,0=>rfl
 | e::S,s+1=>Iy u S s
theorem Gy: ∀(S:List Ent) (s:Nat),getE S s=(S[s]?).getD (.val undef)
 | [],s=>by simp[getE]
 | e::S,0=>rfl
 | e::S,s+1=>by simp only[getE,List.getElem?_cons_succ];exact Gy S s
theorem Q1A: ∀(S:List Ent) (n:Nat) (e:Ent),Q2K S n e=S.set n e
 | [],n,e=>by simp[Q2K]
 | x::S,0,e=>rfl
 | x::S,n+1,e=>by simp only[Q2K,List.set_cons_succ,Q1A S n e]
theorem Q4x {x:Nat}: ∀{l:List Nat},x∈l→x∈Q1k l
 | y::l,h=>by
  simp only[Q1k,List.mem_cons,List.mem_filter]
  by_cases e:x=y
  ·exact .inl e
  ·exact .inr ⟨Q4x ((List.mem_cons.1 h).resolve_left e),by simpa using e⟩
theorem Ba {x:Nat}: ∀{l:List Nat},x∈Q1k l→x∈l
 | y::l,h=>by
  simp only[Q1k,List.mem_cons,List.mem_filter] at h⊢
  exact h.imp id fun h=>Ba h.1
theorem Q4P {S:List Ent} {j:Nat}: ∀{l:List Nat} {s:Nat},s∈l→getE S s= .ref j→j∈Q1l S l
 | x::l,s,h,e=>by
  simp only[Q1l,List.mem_append]
  rcases List.mem_cons.1 h with rfl | h
  ·left;rw[e];simp[Q5y]
  ·right;exact Q4P h e
theorem Cs {S:List Ent} {j:Nat}: ∀{l:List Nat},j∈Q1l S l→ ∃s∈l,getE S s= .ref j
 | x::l,h=>by
  simp only[Q1l,List.mem_append] at h
  rcases h with h | h
  ·refine ⟨x,by simp,?_⟩
   cases a:getE S x with
   | val v=>rw[a] at h;simp[Q5y] at h
   | ref k=>rw[a] at h;simp[Q5y] at h;rw[h]
  ·obtain ⟨s,b,e⟩:=Cs h
   exact ⟨s,by simp[b],e⟩
theorem Q2R: ∀(a:List Nat) (c u:Nat→Value) (k:(Nat→Value)→Prop),Vu a c k→ ∃b,k b∧ ∀x,(x∈a→b x=u x)∧(x∉a→b x=c x)
 | [],c,u,k,h=>⟨c,h,fun x=>⟨fun h=>by simp at h,fun _=>rfl⟩⟩
 | j::a,c,u,k,h=>by
  obtain ⟨b,g,f⟩:=Q2R a _ u k (h (u j))
  refine ⟨b,g,fun x=>⟨fun hx=>?_,fun hx=>?_⟩⟩
  ·by_cases d:x∈a
   ·exact (f x).1 d
   ·rw[(f x).2 d]
    rcases List.mem_cons.1 hx with rfl | hx
    ·simp
    ·exact absurd hx d
  ·rw[(f x).2 (fun h=>hx (List.mem_cons_of_mem _ h))]
   have:x≠j:=fun e=>hx (by simp[e])
   simp[this]
theorem Q2z {f:Cd} {u:Nat→Value} {e:Nat→Iv} {w:World} {a:Prop}: ∀{d:List Nat},Vw f u e w a d→(∀j∈d,∀φ,Uk f j=some ([],φ)→φ [] (e j) (u j) w)→a
 | [],h,_=>h
 | j::d,h,b=>by
  simp only[Vw] at h
  split at h
  ·rename_i φ g
   exact Q2z (h (b j (by simp) φ g)) fun k c=>b k (by simp[c])
  ·exact Q2z h fun k c=>b k (by simp[c])
theorem Q1g {f:Cd} {u:Nat→Value} {e:Nat→Iv} {w:World} {a:Prop}: ∀{d:List Nat},Q1E f u e w a d→(∀j∈d,∀R φ,Uk f j=some (R,φ)→φ (R.map u) (e j) (u j) w)→a
 | [],h,_=>h
 | j::d,h,b=>by
  simp only[Q1E] at h
  split at h
  ·rename_i R φ g
   exact Q1g (h (b j (by simp) R φ g)) fun k c=>b k (by simp[c])
  ·exact Q1g h fun k c=>b k (by simp[c])
theorem Ie {a:Cd} {i j:Nat} {φ:List Nat×(List Value→Iv→Value→World→Prop)} (h:i≠j):Uk (a++[(i,φ)]) j=Uk a j:=by
 induction a with
 | nil=>simp[Uk,h]
 | cons p a b=>obtain ⟨k,ψ⟩:=p;simp only[List.cons_append,Uk,b]
theorem Ml {a:Cd} {i:Nat} {φ:List Nat×(List Value→Iv→Value→World→Prop)} (h:Uk a i=none):Uk (a++[(i,φ)]) i=some φ:=by
 induction a with
 | nil=>simp[Uk]
 | cons p a b=>
  obtain ⟨k,ψ⟩:=p
  simp only[Uk] at h
  split at h
  ·cases h
  ·rename_i c;simp only[List.cons_append,Uk,c,if_false];exact b h
def Ru (S:List Ent) (i:Nat) (o:Oper):Ent:=match mv o with | some x=>entOf S x | none=> .ref i
def M0 (S:List Ent):Nat→List Oper→List Ent
 | _,[]=>S
 | i,o::a=>M0 (putE S o.dst (Ru S i o)) (i+1) a
theorem Q4u: ∀(a:List Oper) (S:List Ent) (i k:Nat) (o:Oper),a[k]? =some o→
 M0 S i (a.take (k+1))=putE (M0 S i (a.take k)) o.dst (Ru (M0 S i (a.take k)) (i+k) o)
 | [],_,_,_,_,h=>by simp at h
 | x::a,S,i,0,o,h=>by
  simp only[List.getElem?_cons_zero,Option.some.injEq] at h
  subst h
  simp[M0]
 | x::a,S,i,k+1,o,h=>by
  simp only[List.getElem?_cons_succ] at h
  have:=Q4u a (putE S x.dst (Ru S i x)) (i+1) k o h
  simp only[List.take_succ_cons,M0]
  rw[this,show i+1+k=i+(k+1) from by omega]
def Yp (S:List Ent) (D:List Nat):Prop:= ∀e∈S,∀j,e= .ref j→j∈D
theorem Yp.getE {S:List Ent} {D:List Nat} (h:Yp S D) {s j:Nat} (e:Go.Emb.getE S s= .ref j):j∈D:=by
 rw[Gy] at e
 cases a:S[s]? with
 | none=>rw[a] at e;cases e
 | some x=>rw[a] at e;exact h x (List.mem_of_getElem? a) j e
theorem Yp.putE {S:List Ent} {D:List Nat} (h:Yp S D) (d:Option Nat) {e:Ent} (c: ∀j,e= .ref j→j∈D):Yp (Go.Emb.putE S d e) D:=by
 cases d with
 | none=>exact h
 | some d=>
  intro x a j b
  simp only[Go.Emb.putE,Q1A] at a
  rcases List.mem_or_eq_of_mem_set a with a | rfl
  ·exact h x a j b
  ·exact c j b
theorem Yp.mono {S:List Ent} {D a:List Nat} (h:Yp S D) (c: ∀j∈D,j∈a):Yp S a:=fun e d j b=>c j (h e d j b)
theorem Yp.entOf {S:List Ent} {D:List Nat} (h:Yp S D) (x:Operand) {j:Nat} (e:Go.Emb.entOf S x= .ref j):j∈D:=by
 cases x with
 | tmp t=>exact h.getE e
 | _=>cases e
theorem Q9q {S:List Ent} {D:List Nat} (h:Yp S D) {u a:Nat→Value} (b: ∀j∈D,a j=u j):B8 a S=B8 u S:=by
 unfold B8
 refine List.map_congr_left fun e c=>?_
 cases e with
 | val v=>rfl
 | ref j=>exact b j (h _ c j rfl)
theorem Q1X {P:Program} {ops:List Oper} {l l':List Value} {o:Oper} (f:Xp o.op=true) (h: ∀s∈D2 ops o++E6 o,get l s=get l' s):runOp P ops l o=runOp P ops l' o:=by
 funext w K
 unfold runOp
 rw[Dp f fun x e=>by
  cases x with
  | tmp s=>exact h s (List.mem_append_right _ (by simp only[E6,List.mem_filterMap];exact ⟨.tmp s,by simpa using e,rfl⟩))
  | _=>rfl]
 cases a:o.guard with
 | none=>rfl
 | some q=>
  obtain ⟨j,b⟩:=q
  simp only
  cases c:(ops[j]?).bind (·.dst) with
  | none=>rfl
  | some d=>simp only;rw[h d (List.mem_append_left _ (by simp[D2,a,c]))]
theorem Q2Z {P:Program} {ops:List Oper} {l:List Value} {o:Oper} {w:World} {K d:Value→World→Prop} (a: ∀v w,K v w→d v w) (h:runOp P ops l o w K):runOp P ops l o w d:=by
 unfold runOp at*
 split at h
 ·exact G3 a h
 ·split at h
  ·exact Q1h ((Wq h).imp (fun ⟨b,c⟩=>⟨b,G3 a c⟩) (fun ⟨b,c⟩=>⟨b,a _ _ c⟩))
  ·exact h.elim
theorem Q3u {P:Program} {ops:List Oper} {J6:List Value→World→Prop} {o:Oper} {a:List Oper} {l:List Value} {w:World}
 (h:runOp P ops l o w (fun v w=>Y4 P ops J6 a (put l o.dst v) w)):Y4 P ops J6 (o::a) l w:=by
 simp only[Y4]
 unfold runOp at h
 cases e:o.guard with
 | none=>simp only[e] at h⊢;exact h
 | some q=>
  obtain ⟨j,b⟩:=q
  simp only[e] at h⊢
  split at h
  ·rename_i d c
   first | exact h | (simp only[c];exact h) | (rw[c];exact h)
  ·exact h.elim
structure Whole (P : Program) (r : Bool) (ops : List Oper) (T : (Nat → Iv) → World → World → Prop) (B : World → Prop) (J6 : List Value → World → Prop) (tail : List Oper) (Φ : Nat → (Nat → Value) → Iv → World → Prop) (S : List Ent) (i : Nat) (rest : List Oper) (D : List Nat) : Prop where
  stable : ∀ k o, rest[k]? = some o → mv o = none → ∀ u iv w w', OkI r iv → Φ (i + k) u (iv (i + k)) w → T iv w w' → Φ (i + k) u (iv (i + k)) w'
  loc : ∀ k o, rest[k]? = some o → mv o = none → ∀ u u', (∀ r ∈ (i + k) :: refs ops (M0 S i (rest.take k)) o, u r = u' r) → Φ (i + k) u = Φ (i + k) u'
  run : ∀ k o, rest[k]? = some o → mv o = none → Xp o.op = true → ∀ u iv w, OkI r iv → B w → (∀ j ∈ refs ops (M0 S i (rest.take k)) o, Φ j u (iv j) w) →
    runOp P ops (B8 u (M0 S i (rest.take k))) o w (fun v w' => T iv w w' ∧ ∀ u', (∀ r ∈ refs ops (M0 S i (rest.take k)) o, u' r = u r) → u' (i + k) = v → Φ (i + k) u' (Oc r w, Oc r w') w')
  last : ∀ u iv w, OkI r iv → B w → (∀ j ∈ D, Φ j u (iv j) w) → (∀ k o, rest[k]? = some o → mv o = none → Φ (i + k) u (iv (i + k)) w) → Y4 P ops J6 tail (B8 u (M0 S i rest)) w
theorem Q0X (P:Program) (r:Bool) (ops:List Oper) (T:(Nat→Iv)→World→World→Prop) (B:World→Prop) (J6:List Value→World→Prop) (tail:List Oper): ∀(g:List Oper) (i:Nat) (S:List Ent) (t:Cd) (done:List Nat),
 Yp S done→(∀j,j∈done→j<i∧ ∃φ,Uk t j=some φ)→(∀j φ,Uk t j=some φ→j<i∧ ∀r∈φ.1,r∈done)→chain P r ops T B J6 tail i g S t done→
 ∃Φ:Nat→(Nat→Value)→Iv→World→Prop,(∀j R φ,Uk t j=some (R,φ)→Φ j=fun u p w=>φ (R.map u) p (u j) w)∧Whole P r ops T B J6 tail Φ S i g done
 | [],i,S,t,done,Q,Y,J,h=>by
  refine ⟨fun j u p w=>match Uk t j with | some (R,φ)=>φ (R.map u) p (u j) w | none=>True,fun j R φ hj=>by simp[hj],⟨by simp,by simp,by simp,?_⟩⟩
  intro u b w y hB H _
  obtain ⟨C,m,f⟩:=Q2R done _ u _ h
  have n:=Q1g (Q5P m y w hB) fun j hj R φ U=>by
   have:=H j hj
   simp only[U] at this
   rw[(f j).1 hj,show R.map C=R.map u from List.map_congr_left fun r l=>(f r).1 ((J j _ U).2 r l)];exact this
  rw[Q9q Q fun j hj=>(f j).1 hj,Hr] at n
  exact n
 | o::g,i,S,t,done,Q,Y,J,h=>by
  simp only[chain] at h
  cases z:mv o with
  | some x=>
   simp only[z] at h
   have d:Ru S i o=entOf S x:=by simp[Ru,z]
   obtain ⟨Φ,m,f⟩:=Q0X P r ops T B J6 tail g (i+1) _ t done (Q.putE _ fun j hj=>Q.entOf x hj) (fun j hj=>⟨by have:=(Y j hj).1;omega,(Y j hj).2⟩) (fun j φ hj=>⟨by have:=(J j φ hj).1;omega,(J j φ hj).2⟩) h
   refine ⟨Φ,m,⟨?_,?_,?_,?_⟩⟩
   ·intro k q c a
    cases k with
    | zero=>simp only[List.getElem?_cons_zero,Option.some.injEq] at c;subst c;rw[z] at a;cases a
    | succ k=>have:=f.stable k q (by simpa using c) a;rwa [show i+1+k=i+(k+1) from by omega] at this
   ·intro k q c a u C O
    cases k with
    | zero=>simp only[List.getElem?_cons_zero,Option.some.injEq] at c;subst c;rw[z] at a;cases a
    | succ k=>
     simp only[List.take_succ_cons,M0,d] at O
     have:=f.loc k q (by simpa using c) a u C (by rwa [show i+1+k=i+(k+1) from by omega])
     rwa [show i+1+k=i+(k+1) from by omega] at this
   ·intro k q c a D u b w y hB l
    cases k with
    | zero=>simp only[List.getElem?_cons_zero,Option.some.injEq] at c;subst c;rw[z] at a;cases a
    | succ k=>
     simp only[List.take_succ_cons,M0,d] at l⊢
     have:=f.run k q (by simpa using c) a D u b w y hB l
     rwa [show i+1+k=i+(k+1) from by omega] at this
   ·intro u b w y hB H W
    simp only[M0,d]
    refine f.last u b w y hB H fun k q c a=>?_
    have:=W (k+1) q (by simpa using c) a
    rwa [show i+(k+1)=i+1+k from by omega] at this
  | none=>
   have h': ∃(R:List Nat) (φ:List Value→Iv→Value→World→Prop),(∀r∈R,r∈refs ops S o)∧(∀xs b,OkI r b→D6 (T b) (φ xs (b i)))∧
    (Vu (refs ops S o) (fun _=>undef) fun u=>Mo r fun b=> ∀w,B w→Vw t u b w (runOp P ops (B8 u S) o w (fun v w'=>T b w w'∧φ (R.map u) (Oc r w,Oc r w') v w')) (refs ops S o))∧
    chain P r ops T B J6 tail (i+1) g (putE S o.dst (.ref i)) (t++[(i,R,φ)]) (done++[i]):=by
    cases M:Q8R r o with
    | true=>
     cases r with
     | true=>
      simp only[z,M,Q74,Q2q] at h
      obtain ⟨φ,m,f,n⟩:=h
      exact ⟨_,fun xs _=>φ xs,fun _ h=>h,fun xs b e=>m xs b e,f,n⟩
     | false=>
      simp only[z,M,Q8a,Q4h] at h
      obtain ⟨φ,m,f,n⟩:=h
      exact ⟨_,fun xs _=>φ xs,fun _ h=>h,fun xs b e=>by have e:b=_:=e;subst e;exact m xs,f,n⟩
    | false=>
     cases X:Q9D r o with
     | true=>
      simp only[z,M,X,Q85,Q3Y] at h
      obtain ⟨φ,m,f,n⟩:=h
      cases r with
      | false=>cases X
      | true=>exact ⟨[],fun _=>φ,by simp,fun _ b e=>m b e,f,n⟩
     | false=>
      cases r with
      | true=>
       simp only[z,M,X,Q8I,Q3Q] at h
       obtain ⟨φ,m,f,n⟩:=h
       exact ⟨[],fun _ _=>φ,by simp,fun _ b e=>m b e,f,n⟩
      | false=>
       simp only[z,M,X,X0u,Q72] at h
       obtain ⟨φ,m,f,n⟩:=h
       exact ⟨[],fun _ _=>φ,by simp,fun _ b e=>by have e:b=_:=e;subst e;exact m,f,n⟩
   clear h
   obtain ⟨R,φ,hR,ag,V,h⟩:=h'
   have ab: ∀r∈refs ops S o,r∈done:=fun r l=>by
    obtain ⟨s,_,he⟩:=Cs (Ba l)
    exact Q.entOf (.tmp s) he
   have d:Ru S i o= .ref i:=by simp[Ru,z]
   have A:Uk t i=none:=by
    cases H:Uk t i with
    | none=>rfl
    | some ψ=>have:=(J i ψ H).1;omega
   obtain ⟨Φ,m,f⟩:=Q0X P r ops T B J6 tail g (i+1) _ (t++[(i,R,φ)]) (done++[i])
    ((Q.mono fun j hj=>List.mem_append_left _ hj).putE _ fun j hj=>by cases hj;simp)
    (fun j hj=>by
     rcases List.mem_append.1 hj with hj | hj
     ·obtain ⟨n,ψ,L⟩:=Y j hj
      exact ⟨by omega,ψ,by rw[Ie (by omega)];exact L⟩
     ·simp at hj;subst hj;exact ⟨by omega,(R,φ),Ml A⟩)
    (fun j ψ hj=>by
     by_cases e:i=j
     ·subst e
      rw[Ml A] at hj;cases hj
      exact ⟨by omega,fun r l=>List.mem_append_left _ (ab r (hR r l))⟩
     ·rw[Ie e] at hj
      obtain ⟨n,L⟩:=J j ψ hj
      exact ⟨by omega,fun r l=>List.mem_append_left _ (L r l)⟩) h
   have N:Φ i=fun u p w=>φ (R.map u) p (u i) w:=m i R φ (Ml A)
   have E: ∀j Z ψ,Uk t j=some (Z,ψ)→Φ j=fun u p w=>ψ (Z.map u) p (u j) w:=fun j Z ψ hj=>m j Z ψ (by rw[Ie (by have:=(J j _ hj).1;omega)];exact hj)
   refine ⟨Φ,E,⟨?_,?_,?_,?_⟩⟩
   ·intro k q c a
    cases k with
    | zero=>
     intro u b w w' y ha hT
     rw[Nat.add_zero,N] at ha⊢
     exact ag _ b y _ _ _ ha hT
    | succ k=>have:=f.stable k q (by simpa using c) a;rwa [show i+1+k=i+(k+1) from by omega] at this
   ·intro k q c a u C O
    cases k with
    | zero=>
     simp only[List.getElem?_cons_zero,Option.some.injEq] at c
     subst c
     simp only[List.take_zero,M0,Nat.add_zero] at O
     rw[Nat.add_zero,N]
     funext p w
     show φ (R.map u) p (u i) w=φ (R.map C) p (C i) w
     rw[show R.map u=R.map C from List.map_congr_left fun r l=>O r (List.mem_cons_of_mem _ (hR r l)),O i (by simp)]
    | succ k=>
     simp only[List.take_succ_cons,M0,d] at O
     have:=f.loc k q (by simpa using c) a u C (by rwa [show i+1+k=i+(k+1) from by omega])
     rwa [show i+1+k=i+(k+1) from by omega] at this
   ·intro k q c a D u b w y hB l
    cases k with
    | zero=>
     simp only[List.getElem?_cons_zero,Option.some.injEq] at c
     subst c
     simp only[List.take_zero,M0,Nat.add_zero] at l⊢
     obtain ⟨C,n,L⟩:=Q2R _ _ u _ V
     have h5:=Q2z (Q5P n y w hB) fun j hj ψ hψ=>by
      have h6:=l j hj
      rw[E j [] ψ hψ] at h6
      rw[(L j).1 hj];exact h6
     rw[Q1X D (l':=B8 u S)] at h5
     ·refine Q2Z ?_ h5
      rintro v w' ⟨hT,hf⟩
      refine ⟨hT,fun u2 ae hi=>?_⟩
      rw[N]
      show φ (R.map u2) (Oc r w,Oc r w') (u2 i) w'
      rw[hi,show R.map u2=R.map C from List.map_congr_left fun r l=>by rw[ae r (hR r l),(L r).1 (hR r l)]]
      exact hf
     ·intro s M
      rw[Iy,Iy]
      cases he:getE S s with
      | val v=>rfl
      | ref j=>exact (L j).1 (Q4x (Q4P M he))
    | succ k=>
     simp only[List.take_succ_cons,M0,d] at l⊢
     have:=f.run k q (by simpa using c) a D u b w y hB l
     rwa [show i+1+k=i+(k+1) from by omega] at this
   ·intro u b w y hB H W
    simp only[M0,d]
    refine f.last u b w y hB (fun j hj=>?_) fun k q c a=>?_
    ·rcases List.mem_append.1 hj with hj | hj
     ·exact H j hj
     ·simp at hj;subst hj
      have:=W 0 o (by simp) z
      simpa using this
    ·have:=W (k+1) q (by simpa using c) a
     rwa [show i+(k+1)=i+1+k from by omega] at this
def Qb (os:List Oper) (S0:List Ent) (q:Nat):Ent:=
 match os[q]? with
 | some o=>Ru (M0 S0 0 (os.take q)) q o
 | none=> .val undef
theorem Q8e {os:List Oper} {S0:List Ent} {q:Nat} {o:Oper} (h:os[q]? =some o):M0 S0 0 (os.take (q+1))=putE (M0 S0 0 (os.take q)) o.dst (Qb os S0 q):=by
 rw[Q4u os S0 0 q o h]
 simp[Qb,h]
theorem Q7z (S:List Ent) (d:Option Nat) (e:Ent):(putE S d e).length=S.length:=by
 cases d with
 | none=>rfl
 | some d=>simp[putE,Q1A]
theorem Ky (os:List Oper) (S0:List Ent): ∀q,q≤os.length→(M0 S0 0 (os.take q)).length=S0.length
 | 0,_=>by simp[M0]
 | q+1,h=>by rw[Q8e (List.getElem?_eq_getElem (by omega)),Q7z,Ky os S0 q (by omega)]
theorem Rk {os:List Oper} {S0:List Ent} (n:Xg (D9 os)=true) (r: ∀d∈D9 os,d<S0.length): ∀q,q≤os.length→
 (∀p,p<q→ ∀o d,os[p]? =some o→o.dst=some d→(M0 S0 0 (os.take q))[d]? =some (Qb os S0 p))∧
  (∀s,(∀p,p<q→ ∀o,os[p]? =some o→o.dst≠some s)→(M0 S0 0 (os.take q))[s]? =S0[s]?)
 | 0,_=>⟨fun p g=>absurd g (by omega),fun s _=>by simp[M0]⟩
 | q+1,h=>by
  obtain ⟨t,u⟩:=Rk n r q (by omega)
  have i:os[q]? =some os[q]:=List.getElem?_eq_getElem (by omega)
  have k:=Ky os S0 q (by omega)
  rw[Q8e i]
  cases b:os[q].dst with
  | none=>
   refine ⟨fun p g o d a c=>?_,fun s l=>u s fun p g=>l p (by omega)⟩
   by_cases e:p=q
   ·subst e;rw[i] at a;cases a;rw[b] at c;cases c
   ·exact t p (by omega) o d a c
  | some j=>
   have m:j<S0.length:=r j (by simp only[D9,List.mem_filterMap];exact ⟨os[q],List.getElem_mem _,b⟩)
   simp only[putE,Q1A]
   refine ⟨fun p g o d a c=>?_,fun s l=>?_⟩
   ·by_cases e:p=q
    ·subst e;rw[i] at a;cases a;rw[b] at c;cases c
     rw[List.getElem?_set_self (by rw[k];exact m)]
    ·have f:j≠d:=by
      rintro rfl
      exact e (Yk os n p q o os[q] j a i c b)
     rw[List.getElem?_set_ne f]
     exact t p (by omega) o d a c
   ·have f:j≠s:=fun e=>l q (by omega) os[q] i (by rw[b,e])
    rw[List.getElem?_set_ne f]
    exact u s fun p g=>l p (by omega)
def Ld (os:List Oper) (p:Nat):Bool:=
 match os[p]? with
 | some o=>match mv o with
  | some (.tmp s)=> !(D9 os).contains s
  | some _=>true
  | none=>false
 | none=>false
theorem X3Q {P:Program} {o:Oper} {x:Operand} (h:mv o=some x) (l:List Value) (w:World) (K:Value→World→Prop):o.guard=none∧V9 P l o w K=K (ev l x) w:=by
 unfold mv at h
 split at h
 ·cases h
 ·rename_i b
  refine ⟨b,?_⟩
  split at h
  ·rename_i y a;cases h;simp only[V9,a]
  ·rename_i y a;cases h;simp only[V9,a]
  ·cases h
theorem Q7o {P:Program} {ops:List Oper} {J6:List Value→World→Prop} {o:Oper} {c a:List Oper} {l l':List Value} {w:World} (r:Xp o.op=true) (m: ∀s∈D2 ops o++E6 o,get l' s=get l s)
 (f: ∀v w,Y4 P ops J6 c (put l o.dst v) w→Y4 P ops J6 a (put l' o.dst v) w) (h:Y4 P ops J6 (o::c) l w):Y4 P ops J6 (o::a) l' w:=by
 have n:V9 P l' o=V9 P l o:=Dp r fun x p=>by
  cases x with
  | tmp s=>exact m s (List.mem_append_right _ (by simp only[E6,List.mem_filterMap];exact ⟨.tmp s,by simpa using p,rfl⟩))
  | _=>rfl
 simp only[Y4] at h⊢
 cases e:o.guard with
 | none=>simp only[e] at h⊢;rw[n];exact G3 f h
 | some q=>
  obtain ⟨j,b⟩:=q
  simp only[e] at h⊢
  cases g:(ops[j]?).bind (·.dst) with
  | none=>simp only[g] at h⊢;exact f _ _ h
  | some d=>
   simp only[g] at h⊢
   rw[m d (List.mem_append_left _ (by simp[D2,e,g])),n]
   exact Q1h ((Wq h).imp (fun ⟨i,k⟩=>⟨i,G3 f k⟩) (fun ⟨i,k⟩=>⟨i,f _ _ k⟩))
structure At (os : List Oper) (l0 : List Value) (pre : List Nat) (l : List Value) (u : Nat → Value) : Prop where
  len : l.length = l0.length
  done : ∀ p ∈ pre, ∀ o d, os[p]? = some o → o.dst = some d → l[d]? = some ((Qb os (l0.map .val) p).at u)
  rest : ∀ s, (∀ p ∈ pre, ∀ o, os[p]? = some o → o.dst ≠ some s) → l[s]? = l0[s]?
  refs : ∀ p ∈ pre, ∀ r, Qb os (l0.map .val) p = .ref r → r ∈ pre ∧ ∃ o, os[r]? = some o ∧ mv o = none
theorem X5h {P:Program} {r0:Bool} {ops os:List Oper} {T:(Nat→Iv)→World→World→Prop} {B:World→Prop} {J6:List Value→World→Prop} {m:Nat} {C:List Value} {Φ:Nat→(Nat→Value)→Iv→World→Prop}
 (bit:Nat→Nat→Bool) (bs: ∀o∈os,Xp o.op=true) (hn:Xg (D9 os)=true) (hd: ∀d∈D9 os,d<C.length)
 (ae: ∀p q a b,p<q→os[p]? =some a→os[q]? =some b→(Qg a b||Qg b a)=true→bit p q=true)
 (hg: ∀q o j b,os[q]? =some o→o.guard=some (j,b)→ ∃p,p<q∧os[p]? =ops[j]? ∧bit p q=true)
 (hm:m≤os.length) (am: ∀q,m≤q→q<os.length→ ∀p,p<q→bit p q=true∨(p<m∧Ld os p=true))
 (hT: ∀iv w w',B w→T iv w w'→B w') (hM: ∀iv w w',T iv w w'→Oc r0 w≤Oc r0 w') (hW:Whole P r0 ops T B J6 (os.drop m) Φ (C.map .val) 0 (os.take m) [])
 (L:List Nat) (H:L.Nodup) (bx:L.length=os.length) (ad: ∀q∈L,q<os.length)
 (hC: ∀c q f,L=c++q::f→ ∀p,bit p q=true→p<os.length→p∈c):
 ∀(f c:List Nat),L=c++f→(∀q∈c,q<m)→ ∀(l:List Value) (u:Nat→Value) (iv:Nat→Iv) (w:World),Cv r0 iv w→At os C c l u→B w→
  (∀r∈c,∀o,os[r]? =some o→mv o=none→Φ r u (iv r) w∧ ∀j∈refs ops (M0 (C.map .val) 0 (os.take r)) o,j∈c)→Y4 P ops J6 (f.filterMap (os[·]?)) l w:=by
 have ba: ∀d∈D9 os,d<(C.map Ent.val).length:=by simpa using hd
 have a5: ∀q,q≤m→(os.take m).take q=os.take q:=fun q hq=>by rw[List.take_take,Nat.min_eq_left hq]
 have W: ∀q,q<m→(os.take m)[q]? =os[q]? :=fun q hq=>by rw[List.getElem?_take_of_lt hq]
 -- when all of the first part is done
 have cv: ∀(c f:List Nat),L=c++f→(∀q∈c,q<m)→(∀q,q<m→q∈c)→ ∀l u iv w,Cv r0 iv w→At os C c l u→B w→
  (∀r∈c,∀o,os[r]? =some o→mv o=none→Φ r u (iv r) w∧ ∀j∈refs ops (M0 (C.map .val) 0 (os.take r)) o,j∈c)→Y4 P ops J6 (f.filterMap (os[·]?)) l w:=by
  intro c f E D ao l u iv w hI hA hB hΦ
  have ca: ∀(f c:List Nat),L=c++f→m≤c.length→(∀q,q∈c↔q<c.length)→f.filterMap (os[·]?)=os.drop c.length:=by
   intro f
   induction f with
   | nil=>
    intro c E _ _
    rw[List.append_nil] at E
    rw[←E,bx];simp
   | cons q f ih=>
    intro c E c8 ax
    have cx:q∉c:=by
     rw[E] at H
     intro h
     exact (List.nodup_append.1 H).2.2 q h q (by simp) rfl
    have c0:c.length≤q:=Nat.le_of_not_lt fun h=>cx ((ax q).2 h)
    have X:=ad q (by rw[E];simp)
    have cw:q=c.length:=by
     refine Nat.le_antisymm (Nat.le_of_not_lt fun h=>?_) c0
     have:=hC c q f E c.length ((am q (by omega) X _ h).resolve_right (by omega)) (by omega)
     have:=(ax _).1 this
     omega
    subst cw
    rw[List.filterMap_cons,List.getElem?_eq_getElem X]
    simp only
    rw[ih (c++[c.length]) (by rw[E];simp) (by simp;omega) (by intro x;simp only[List.mem_append,ax,List.mem_singleton,List.length_append,List.length_cons,List.length_nil];omega)]
    simp only[List.length_append,List.length_cons,List.length_nil]
    rw[←List.drop_eq_getElem_cons X]
  have bh:c.length=m:=by
   have J:=C9 m c (by rw[E] at H;exact (List.nodup_append.1 H).1) D
   have R:=Vy m c ao
   omega
  have J:=ca f c E (by omega) (fun q=>by rw[bh];exact ⟨D q,ao q⟩)
  rw[J,bh]
  have R:=hW.last u iv w hI.1 hB (by simp) fun k o hk t=>by
   have ay:k<m:=by
    have:=(List.getElem?_eq_some_iff.1 hk).1
    simp at this;omega
   rw[Nat.zero_add]
   rw[W k ay] at hk
   exact (hΦ k (ao k ay) o hk t).1
  have h3:l=B8 u (M0 (C.map .val) 0 (os.take m)):=by
   obtain ⟨g1,g2⟩:=Rk hn ba m hm
   apply List.ext_getElem?
   intro s
   rw[B8,List.getElem?_map]
   by_cases hs: ∃p,p<m∧ ∃o,os[p]? =some o∧o.dst=some s
   ·obtain ⟨p,hp,o,i,z⟩:=hs
    rw[hA.done p (ao p hp) o s i z,g1 p hp o s i z];rfl
   ·have ag: ∀p,p<m→ ∀o,os[p]? =some o→o.dst≠some s:=fun p hp o i z=>hs ⟨p,hp,o,i,z⟩
    rw[hA.rest s (fun p hp=>ag p (D p hp)),g2 s ag,List.getElem?_map]
    cases C[s]? <;>rfl
  rw[h3];exact R
 -- moves that come late, among the tail
 have ck: ∀(f c:List Nat) (k:Nat),L=c++f→m≤k→k≤os.length→(∀q,m≤q→(q∈c↔q<k))→(∀p∈f,p<m→Ld os p=true)→
  ∀(l lf:List Value) (w:World),l.length=C.length→lf.length=C.length→(∀s,(∀p∈f,p<m→ ∀o,os[p]? =some o→o.dst≠some s)→l[s]? =lf[s]?)→
   (∀p∈f,p<m→ ∀o d x,os[p]? =some o→mv o=some x→o.dst=some d→lf[d]? =some (ev C x))→(∀s,(D9 os).contains s=false→l[s]? =C[s]?)→
   Y4 P ops J6 (os.drop k) lf w→Y4 P ops J6 (f.filterMap (os[·]?)) l w:=by
  intro f
  induction f with
  | nil=>
   intro c k E bd bv ac _ l lf w hl bb ar _ _ h
   rw[List.append_nil] at E
   have hk:k=os.length:=by
    refine Nat.le_antisymm bv (Nat.le_of_not_lt fun D=>?_)
    have cq:k∉c:=fun e=>by have:=(ac k bd).1 e;omega
    have J:=C9 os.length (k::c) (List.nodup_cons.2 ⟨cq,E▸H⟩) (fun x hx=>by
     rcases List.mem_cons.1 hx with rfl | hx
     ·exact D
     ·exact ad x (by rw[E];exact hx))
    simp at J
    rw[E] at bx;omega
   have:l=lf:=List.ext_getElem? fun s=>ar s (by simp)
   rw[this]
   rw[hk,List.drop_length] at h
   exact h
  | cons q f ih=>
   intro c k E bd bv ac al l lf w hl bb ar a4 aa h
   have O:q∉c:=by
    rw[E] at H
    intro h
    exact (List.nodup_append.1 H).2.2 q h q (by simp) rfl
   have cp:q∉f:=by
    rw[E] at H
    exact (List.nodup_cons.1 (List.nodup_append.1 H).2.1).1
   have X:=ad q (by rw[E];simp)
   have A:os[q]? =some os[q]:=List.getElem?_eq_getElem X
   have cd:L=(c++[q])++f:=by rw[E];simp
   rw[List.filterMap_cons,A]
   simp only
   by_cases Z:q<m
   ·-- a late move
    have D:=al q (by simp) Z
    unfold Ld at D
    rw[A] at D
    simp only at D
    cases t:mv os[q] with
    | none=>rw[t] at D;cases D
    | some x=>
     rw[t] at D
     have hx:ev l x=ev C x:=by
      cases x with
      | tmp s=>
       simp only[Bool.not_eq_true'] at D
       simp only[ev,get,List.getD_eq_getElem?_getD,aa s D]
      | _=>rfl
     obtain ⟨a7,a0⟩:=X3Q (P:=P) t l w (fun v w=>Y4 P ops J6 (f.filterMap (os[·]?)) (put l os[q].dst v) w)
     simp only[Y4,a7]
     rw[a0,hx]
     refine ih (c++[q]) k cd bd bv (fun q' aw=>?_) (fun p hp=>al p (by simp[hp])) _ lf w ?_ bb (fun s hs=>?_) (fun p hp=>a4 p (by simp[hp])) (fun s hs=>?_) h
     ·rw[←ac q' aw];simp only[List.mem_append,List.mem_singleton]
      exact ⟨fun e=>e.resolve_right (by omega), .inl⟩
     ·cases g:os[q].dst<;>simp[put,hl]
     ·cases g:os[q].dst with
      | none=>
       refine ar s fun p hp M o i=>?_
       rcases List.mem_cons.1 hp with rfl | hp
       ·rw[A] at i;cases i;rw[g];simp
       ·exact hs p hp M o i
      | some d=>
       have aq:d<C.length:=hd d (by simp only[D9,List.mem_filterMap];exact ⟨os[q],List.getElem_mem _,g⟩)
       simp only[put]
       by_cases e:d=s
       ·subst e
        rw[List.getElem?_set_self (by rw[hl];exact aq)]
        exact (a4 q (by simp) Z os[q] d x A t g).symm
       ·rw[List.getElem?_set_ne e]
        refine ar s fun p hp M o i=>?_
        rcases List.mem_cons.1 hp with rfl | hp
        ·rw[A] at i;cases i;rw[g];simpa using e
        ·exact hs p hp M o i
     ·cases g:os[q].dst with
      | none=>exact aa s hs
      | some d=>
       have aj:(D9 os).contains d=true:=by
        rw[List.contains_iff_mem];simp only[D9,List.mem_filterMap];exact ⟨os[q],List.getElem_mem _,g⟩
       simp only[put]
       rw[List.getElem?_set_ne (by rintro rfl;rw[hs] at aj;cases aj)]
       exact aa s hs
   ·have Z:m≤q:=by omega
    have cr:q=k:=by
     have J:k≤q:=Nat.le_of_not_lt fun e=>O ((ac q Z).2 e)
     refine Nat.le_antisymm (Nat.le_of_not_lt fun e=>?_) J
     have:=hC c q f E k ((am q Z X k e).resolve_right (by omega)) (by omega)
     have:=(ac k bd).1 this
     omega
    subst cr
    rw[List.drop_eq_getElem_cons X] at h
    have ci: ∀p∈f,p<m→bit p q=true→False:=fun p hp M hb=>by
     have:=hC c q f E p hb (by omega)
     rw[E] at H
     exact (List.nodup_append.1 H).2.2 p this p (by simp[hp]) rfl
    refine Q7o (bs _ (List.getElem_mem _)) (fun s hs=>?_) (fun v w' hv=>?_) h
    ·have:l[s]? =lf[s]? :=ar s fun p hp M o i z=>by
      rcases List.mem_cons.1 hp with rfl | hp
      ·omega
      refine ci p hp M ?_
      rcases List.mem_append.1 hs with hs | hs
      ·unfold D2 at hs
       split at hs
       ·simp at hs
       ·rename_i j b bq
        split at hs
        ·rename_i d bp
         simp only[List.mem_singleton] at hs
         subst hs
         obtain ⟨p',av,b1,hb⟩:=hg q os[q] j b A bq
         obtain ⟨o',bo,cj⟩:=Option.bind_eq_some_iff.1 bp
         have:=Yk os hn p' p o' o s (by rw[b1,bo]) i cj z
         subst this;exact hb
        ·simp at hs
      ·exact ae p q o os[q] (by omega) i A (by simp only[Qg,z,Bool.or_eq_true];left;left;simpa using hs)
     simp only[get,List.getD_eq_getElem?_getD,this]
    ·refine ih (c++[q]) (q+1) cd (by omega) (by omega) (fun q' aw=>?_) (fun p hp=>al p (by simp[hp])) _ _ w' ?_ ?_ (fun s hs=>?_) (fun p hp M o d x i a8 z=>?_) (fun s hs=>?_) hv
     ·simp only[List.mem_append,List.mem_singleton,ac q' aw];omega
     ·cases g:os[q].dst<;>simp[put,hl]
     ·cases g:os[q].dst<;>simp[put,bb]
     ·have hb:l[s]? =lf[s]? ∨os[q].dst=some s:=by
       left
       refine ar s fun p hp M o i=>?_
       rcases List.mem_cons.1 hp with rfl | hp
       ·omega
       ·exact hs p hp M o i
      cases g:os[q].dst with
      | none=>
       rcases hb with hb | hb
       ·exact hb
       ·rw[g] at hb;cases hb
      | some d=>
       simp only[put]
       by_cases e:d=s
       ·subst e
        have aq:d<C.length:=hd d (by simp only[D9,List.mem_filterMap];exact ⟨os[q],List.getElem_mem _,g⟩)
        rw[List.getElem?_set_self (by rw[hl];exact aq),List.getElem?_set_self (by rw[bb];exact aq)]
       ·rw[List.getElem?_set_ne e,List.getElem?_set_ne e]
        rcases hb with hb | hb
        ·exact hb
        ·rw[g] at hb;cases hb;exact absurd rfl e
     ·have b9:=a4 p (by simp[hp]) M o d x i a8 z
      cases g:os[q].dst with
      | none=>exact b9
      | some d'=>
       have Y:d'≠d:=by
        rintro rfl
        have:=Yk os hn p q o os[q] d' i A z g
        omega
       simp only[put]
       rw[List.getElem?_set_ne Y];exact b9
     ·cases g:os[q].dst with
      | none=>exact aa s hs
      | some d=>
       have aj:(D9 os).contains d=true:=by
        rw[List.contains_iff_mem];simp only[D9,List.mem_filterMap];exact ⟨os[q],List.getElem_mem _,g⟩
       simp only[put]
       rw[List.getElem?_set_ne (by rintro rfl;rw[hs] at aj;cases aj)]
       exact aa s hs
 intro f
 induction f with
 | nil=>
  intro c E D l u iv w hI hA hB hΦ
  refine cv c [] E D ?_ l u iv w hI hA hB hΦ
  intro q hq
  rw[List.append_nil] at E
  refine Classical.byContradiction fun a1=>?_
  have J:=C9 os.length (q::c) (List.nodup_cons.2 ⟨a1,E▸H⟩) (fun k hk=>by
   rcases List.mem_cons.1 hk with rfl | hk
   ·omega
   ·exact ad k (by rw[E];exact hk))
  simp at J
  rw[E] at bx;omega
 | cons q f ih=>
  intro c E D l u iv w hI hA hB hΦ
  have O:q∉c:=by
   rw[E] at H
   intro h
   exact (List.nodup_append.1 H).2.2 q h q (by simp) rfl
  have X:=ad q (by rw[E];simp)
  by_cases Z:m≤q
  ·-- the tail begins
   have an: ∀p,p<m→p∉c→Ld os p=true:=fun p hp bu=>by
    rcases am q Z X p (by omega) with h | h
    ·exact absurd (hC c q f E p h (by omega)) bu
    ·exact h.2
   have bi: ∀p,Ld os p=true→ ∀o,os[p]? =some o→ ∃x,mv o=some x∧ ∀s,x= .tmp s→(D9 os).contains s=false:=by
    intro p hp o i
    unfold Ld at hp
    rw[i] at hp
    simp only at hp
    cases N:mv o with
    | none=>rw[N] at hp;cases hp
    | some x=>
     refine ⟨x,rfl,fun s hs=>?_⟩
     subst hs
     rw[N] at hp;simpa using hp
   obtain ⟨g1,g2⟩:=Rk hn ba m hm
   have bn: ∀s,(D9 os).contains s=false→ ∀(p:Nat) o,os[p]? =some o→o.dst≠some s:=by
    intro s hs p o i z
    have:(D9 os).contains s=true:=by
     rw[List.contains_iff_mem];simp only[D9,List.mem_filterMap]
     exact ⟨o,List.mem_of_getElem? i,z⟩
    rw[hs] at this;cases this
   refine ck (q::f) c m E (Nat.le_refl _) hm (fun q' aw=>⟨fun e=>D q' e,fun e=>absurd aw (by omega)⟩) (fun p hp M=>an p M fun e=>by
    rw[E] at H
    exact (List.nodup_append.1 H).2.2 p e p hp rfl) l (B8 u (M0 (C.map .val) 0 (os.take m))) w hA.len (by simp[B8,Ky os _ m hm]) (fun s hs=>?_) (fun p hp M o d x i a8 z=>?_) (fun s hs=>?_) ?_
   ·rw[B8,List.getElem?_map]
    by_cases ap: ∃p,p<m∧ ∃o,os[p]? =some o∧o.dst=some s
    ·obtain ⟨p,hp,o,i,z⟩:=ap
     by_cases U:p∈c
     ·rw[hA.done p U o s i z,g1 p hp o s i z];rfl
     ·exfalso
      have cf:p∈L:=by
       refine Classical.byContradiction fun a1=>?_
       have J:=C9 os.length (p::L) (List.nodup_cons.2 ⟨a1,H⟩) (fun k hk=>by
        rcases List.mem_cons.1 hk with rfl | hk
        ·omega
        ·exact ad k hk)
       simp at J;omega
      rw[E] at cf
      rcases List.mem_append.1 cf with h | h
      ·exact U h
      ·exact hs p h hp o i z
    ·have ag: ∀p,p<m→ ∀o,os[p]? =some o→o.dst≠some s:=fun p hp o i z=>ap ⟨p,hp,o,i,z⟩
     rw[hA.rest s (fun p hp=>ag p (D p hp)),g2 s ag,List.getElem?_map]
     cases C[s]? <;>rfl
   ·have U:p∉c:=fun e=>by
     rw[E] at H
     exact (List.nodup_append.1 H).2.2 p e p hp rfl
    rw[B8,List.getElem?_map,g1 p M o d i z]
    simp only[Option.map_some,Option.some.injEq]
    have V:Qb os (C.map .val) p=entOf (M0 (C.map .val) 0 (os.take p)) x:=by simp[Qb,i,Ru,a8]
    rw[V]
    obtain ⟨x',cl,cz⟩:=bi p (an p M U) o i
    rw[a8] at cl;cases cl
    cases x with
    | tmp s=>
     have hs:=cz s rfl
     obtain ⟨_,k2⟩:=Rk (S0:=C.map .val) hn ba p (by omega)
     simp only[entOf]
     rw[Gy,k2 s (fun p' _ o' bo=>bn s hs p' o' bo),List.getElem?_map]
     simp only[ev,get,List.getD_eq_getElem?_getD]
     cases C[s]? <;>rfl
    | _=>rfl
   ·exact hA.rest s fun p _ o i=>bn s hs p o i
   ·refine hW.last u iv w hI.1 hB (by simp) fun k o hk t=>?_
    have ay:k<m:=by
     have:=(List.getElem?_eq_some_iff.1 hk).1
     simp at this;omega
    rw[Nat.zero_add]
    rw[W k ay] at hk
    refine (hΦ k (Classical.byContradiction fun bu=>?_) o hk t).1
    obtain ⟨x,hx,_⟩:=bi k (an k ay bu) o hk
    rw[t] at hx;cases hx
  ·have Z:q<m:=by omega
   have A:os[q]? =some os[q]:=List.getElem?_eq_getElem X
   obtain ⟨g1,g2⟩:=Rk (S0:=C.map .val) hn ba q (by omega)
   -- what a slot holds that this operation reads
   have af: ∀s,(∃p o,os[p]? =some o∧o.dst=some s∧p<q∧bit p q=true)∨s∈E6 os[q]→
    get l s=(getE (M0 (C.map .val) 0 (os.take q)) s).at u∧ ∀r,getE (M0 (C.map .val) 0 (os.take q)) s= .ref r→r∈c∧ ∃o,os[r]? =some o∧mv o=none:=by
    intro s hs
    have ag:(∀p∈c,∀o,os[p]? =some o→o.dst≠some s)→(∀p,p<q→ ∀o,os[p]? =some o→o.dst≠some s)→
     get l s=(getE (M0 (C.map .val) 0 (os.take q)) s).at u∧ ∀r,getE (M0 (C.map .val) 0 (os.take q)) s= .ref r→r∈c∧ ∃o,os[r]? =some o∧mv o=none:=by
     intro J R
     rw[Gy,g2 s R,List.getElem?_map]
     simp only[get,List.getD_eq_getElem?_getD,hA.rest s J]
     cases C[s]? with
     | none=>exact ⟨rfl,fun r hr=>by cases hr⟩
     | some v=>exact ⟨rfl,fun r hr=>by cases hr⟩
    have bl: ∀p o,os[p]? =some o→o.dst=some s→p<q→p∈c→
     get l s=(getE (M0 (C.map .val) 0 (os.take q)) s).at u∧ ∀r,getE (M0 (C.map .val) 0 (os.take q)) s= .ref r→r∈c∧ ∃o,os[r]? =some o∧mv o=none:=by
     intro p o hp i av U
     rw[Gy,g1 p av o s hp i]
     simp only[get,List.getD_eq_getElem?_getD,hA.done p U o s hp i,Option.getD_some]
     first | exact ⟨rfl,hA.refs p U⟩ | exact ⟨trivial,hA.refs p U⟩
    rcases hs with ⟨p,o,hp,i,av,hb⟩ | hs
    ·exact bl p o hp i av (hC c q f E p hb (by omega))
    ·by_cases ap: ∃(p:Nat) (o:Oper),os[p]? =some o∧o.dst=some s
     ·obtain ⟨p,o,hp,i⟩:=ap
      have c2:=(List.getElem?_eq_some_iff.1 hp).1
      have aa: ∀p' o',os[p']? =some o'→o'.dst=some s→p'=p:=fun p' o' J R=>Yk os hn p' p o' o s J hp R i
      rcases Nat.lt_trichotomy p q with h | h | h
      ·have hb:=ae p q o os[q] h hp A (by simp only[Qg,i,Bool.or_eq_true];left;left;simpa using hs)
       exact bl p o hp i h (hC c q f E p hb (by omega))
      ·subst h
       exact ag (fun p' ai o' J R=>by rw[aa p' o' J R] at ai;exact O ai) (fun p' ai o' J R=>by rw[aa p' o' J R] at ai;omega)
      ·refine ag (fun p' ai o' J R=>?_) (fun p' ai o' J R=>by rw[aa p' o' J R] at ai;omega)
       have e:=aa p' o' J R
       subst e
       have hb:=ae q p' os[q] o' h A J (by simp only[Qg,R,Bool.or_eq_true];right;left;simpa using hs)
       obtain ⟨p1,p2,U⟩:=List.append_of_mem ai
       have:=hC p1 p' (p2++q::f) (by rw[E,U];simp) q hb X
       exact O (by rw[U];exact List.mem_append_left _ this)
     ·exact ag (fun p _ o J R=>ap ⟨p,o,J,R⟩) (fun p _ o J R=>ap ⟨p,o,J,R⟩)
   have bz: ∀s∈D2 ops os[q]++E6 os[q],(∃p o,os[p]? =some o∧o.dst=some s∧p<q∧bit p q=true)∨s∈E6 os[q]:=by
    intro s hs
    rcases List.mem_append.1 hs with hs | hs
    ·left
     unfold D2 at hs
     split at hs
     ·simp at hs
     ·rename_i j b bq
      split at hs
      ·rename_i d bp
       simp only[List.mem_singleton] at hs
       subst hs
       obtain ⟨p,av,b1,hb⟩:=hg q os[q] j b A bq
       obtain ⟨o,i,z⟩:=Option.bind_eq_some_iff.1 bp
       exact ⟨p,o,by rw[b1,i],z,av,hb⟩
      ·simp at hs
    ·exact .inr hs
   have a2:=W q Z
   rw[A] at a2
   rw[List.filterMap_cons,A]
   simp only
   -- the state behind it
   have step: ∀(v:Value) (u':Nat→Value) (bc:Nat→Iv) (w':World),Cv r0 bc w'→(∀p∈c,(Qb os (C.map .val) p).at u'=(Qb os (C.map .val) p).at u)→v=(Qb os (C.map .val) q).at u'→
    (∀r,Qb os (C.map .val) q= .ref r→r∈q::c∧ ∃o,os[r]? =some o∧mv o=none)→B w'→(∀r∈q::c,∀o,os[r]? =some o→mv o=none→Φ r u' (bc r) w'∧ ∀j∈refs ops (M0 (C.map .val) 0 (os.take r)) o,j∈q::c)→
    Y4 P ops J6 (f.filterMap (os[·]?)) (put l os[q].dst v) w':=by
    intro v u' bc w' ct hu hv hr cu ch
    have Q: ∀x,x∈c++[q]↔x∈q::c:=by intro x;simp[or_comm]
    refine ih (c++[q]) (by rw[E];simp) (fun x hx=>by rcases List.mem_cons.1 ((Q x).1 hx) with rfl | hx;exact Z;exact D x hx) _ u' bc w' ct ?_ cu (fun r hr o i N=>⟨(ch r ((Q r).1 hr) o i N).1,fun j hj=>(Q j).2 ((ch r ((Q r).1 hr) o i N).2 j hj)⟩)
    have az: ∀p∈c++[q],∀r,Qb os (C.map .val) p= .ref r→r∈c++[q]∧ ∃o,os[r]? =some o∧mv o=none:=by
     intro p hp r b0
     rcases List.mem_cons.1 ((Q p).1 hp) with rfl | hp
     ·exact ⟨(Q r).2 (hr r b0).1,(hr r b0).2⟩
     ·obtain ⟨J,R⟩:=hA.refs p hp r b0
      exact ⟨List.mem_append_left _ J,R⟩
    cases g:os[q].dst with
    | none=>
     refine ⟨hA.len,?_,?_,az⟩
     ·intro p hp o d i z
      rcases List.mem_cons.1 ((Q p).1 hp) with rfl | hp
      ·rw[A] at i;cases i;rw[g] at z;cases z
      ·rw[hu p hp];exact hA.done p hp o d i z
     ·intro s hs;exact hA.rest s fun p hp=>hs p (List.mem_append_left _ hp)
    | some d0=>
     have aq:d0<C.length:=hd d0 (by simp only[D9,List.mem_filterMap];exact ⟨os[q],List.getElem_mem _,g⟩)
     refine ⟨by simp[put,hA.len],?_,?_,az⟩
     ·intro p hp o d i z
      rcases List.mem_cons.1 ((Q p).1 hp) with rfl | hp2
      ·rw[A] at i;cases i
       rw[g] at z;cases z
       simp only[put]
       rw[List.getElem?_set_self (by rw[hA.len];exact aq),hv]
      ·have Y:d0≠d:=by
        rintro rfl
        have:=Yk os hn p q o os[q] d0 i A z g
        subst this;exact O hp2
       simp only[put]
       rw[List.getElem?_set_ne Y,hu p hp2]
       exact hA.done p hp2 o d i z
     ·intro s hs
      have Y:d0≠s:=fun e=>hs q (by simp) os[q] A (by rw[g,e])
      simp only[put]
      rw[List.getElem?_set_ne Y]
      exact hA.rest s fun p hp=>hs p (List.mem_append_left _ hp)
   cases t:mv os[q] with
   | some x=>
    have V:Qb os (C.map .val) q=entOf (M0 (C.map .val) 0 (os.take q)) x:=by simp[Qb,A,Ru,t]
    -- a move: what the operand holds
    have hx:ev l x=(entOf (M0 (C.map .val) 0 (os.take q)) x).at u∧ ∀r,entOf (M0 (C.map .val) 0 (os.take q)) x= .ref r→r∈c∧ ∃o,os[r]? =some o∧mv o=none:=by
     cases x with
     | tmp s=>
      have hs:s∈E6 os[q]:=by
       unfold mv at t
       split at t
       ·cases t
       ·simp only[E6,List.mem_filterMap]
        split at t
        ·rename_i y hy;cases t;exact ⟨.tmp s,by rw[hy];simp[Op.operands],rfl⟩
        ·rename_i y hy;cases t;exact ⟨.tmp s,by rw[hy];simp[Op.operands],rfl⟩
        ·cases t
      exact af s (.inr hs)
     | _=>exact ⟨rfl,fun r hr=>by cases hr⟩
    have a7:os[q].guard=none:=by
     unfold mv at t
     split at t
     ·cases t
     ·assumption
    simp only[Y4,a7]
    have a0:V9 P l os[q] w (fun v w=>Y4 P ops J6 (f.filterMap (os[·]?)) (put l os[q].dst v) w)=Y4 P ops J6 (f.filterMap (os[·]?)) (put l os[q].dst (ev l x)) w:=by
     unfold mv at t
     rw[a7] at t
     simp only at t
     split at t
     ·rename_i y hy;cases t;simp only[V9,hy]
     ·rename_i y hy;cases t;simp only[V9,hy]
     ·cases t
    rw[a0]
    refine step _ u iv w hI (fun _ _=>rfl) (by rw[V];exact hx.1) (fun r hr=>by
     rw[V] at hr
     obtain ⟨J,R⟩:=hx.2 r hr
     exact ⟨List.mem_cons_of_mem _ J,R⟩) hB (fun r hr o i N=>by
     rcases List.mem_cons.1 hr with rfl | hr
     ·rw[A] at i;cases i;rw[t] at N;cases N
     ·exact ⟨(hΦ r hr o i N).1,fun j hj=>List.mem_cons_of_mem _ ((hΦ r hr o i N).2 j hj)⟩)
   | none=>
    have V:Qb os (C.map .val) q= .ref q:=by simp[Qb,A,Ru,t]
    have bk:=hW.run q os[q] a2 t (bs _ (List.getElem_mem _)) u iv w hI.1 hB
    rw[a5 q (by omega),Nat.zero_add] at bk
    have c1:=hW.stable
    have b2:=bk (fun j hj=>by
     obtain ⟨s,hs,he⟩:=Cs (Ba hj)
     obtain ⟨J,o,R,h3⟩:=(af s (bz s hs)).2 j he
     exact (hΦ j J o R h3).1)
    have cc: ∀j∈refs ops (M0 (C.map .val) 0 (os.take q)) os[q],j∈c:=fun j hj=>by
     obtain ⟨s,hs,he⟩:=Cs (Ba hj)
     exact ((af s (bz s hs)).2 j he).1
    refine Q3u ?_
    rw[Q1X (bs _ (List.getElem_mem _)) (l':=B8 u (M0 (C.map .val) 0 (os.take q))) (fun s hs=>by rw[Iy];exact (af s (bz s hs)).1)]
    refine Q2Z ?_ b2
    intro v w' ⟨bw,hφ⟩
    have Y: ∀r∈c,r≠q:=fun r hr e=>O (e▸hr)
    refine step v (fun n=>if n=q then v else u n) (fun n=>if n=q then (Oc r0 w,Oc r0 w') else iv n) w' (hI.step (hM iv w w' bw) q) ?_ (by rw[V];simp[Ent.at]) (fun r hr=>by rw[V] at hr;cases hr;exact ⟨by simp,os[q],A,t⟩) (hT iv w w' hB bw) ?_
    ·intro p hp
     cases he:Qb os (C.map .val) p with
     | val x=>rfl
     | ref r=>
      have:=Y r (hA.refs p hp r he).1
      simp[Ent.at,this]
    ·intro r hr o i N
     rcases List.mem_cons.1 hr with rfl | hr
     ·rw[A] at i;cases i
      refine ⟨?_,fun j hj=>List.mem_cons_of_mem _ (cc j hj)⟩
      simp only[if_true]
      exact hφ _ (fun x hx=>by simp[Y x (cc x hx)]) (by simp)
     ·obtain ⟨f1,f2⟩:=hΦ r hr o i N
      have cb:=D r hr
      have bg:=Y r hr
      have hl:=hW.loc r o (by rw[W r cb];exact i) N (fun n=>if n=q then v else u n) u (fun x hx=>by
       rw[a5 r (by omega),Nat.zero_add] at hx
       have:x≠q:=by
        rcases List.mem_cons.1 hx with rfl | hx
        ·exact bg
        ·exact Y x (f2 x hx)
       simp[this])
      have hs:=c1 r o (by rw[W r cb];exact i) N
      rw[Nat.zero_add] at hs hl
      refine ⟨?_,fun j hj=>List.mem_cons_of_mem _ (f2 j hj)⟩
      simp only[if_neg bg]
      rw[hl]
      exact hs _ iv _ _ hI.1 f1 bw
def X4w:Op→Bool
 | .move _ | .assign _ | .fieldAddr .. | .indexAddr .. | .field .. | .index .. | .binOp .. | .unOp .. | .extract .. | .pick .. | .makeFunc .. | .nilCheck _ | .slice .. =>true
 | _=>false
def ready (ops:List Oper) (a:List Nat) (j:Nat):Bool:=(P0 ops j).all (a.contains ·)
def X4l (ops:List Oper) (j:Nat):Bool:=match ops[j]? with | some o=>X4w o.op | none=>false
def Q96 (ops:List Oper):Nat→List Nat→List Nat→List Nat
 | 0,_,a=>a.reverse
 | n+1,b,a=>
  match b.find? (fun j=>X4l ops j&&ready ops a j) with
  | some j=>Q96 ops n (b.erase j) (j::a)
  | none=>match b.find? (ready ops a) with
   | some j=>Q96 ops n (b.erase j) (j::a)
   | none=>a.reverse
def L7 (ops:List Oper):List Nat:=Q96 ops ops.length (List.range ops.length) []
def C5 (ops:List Oper) (a:List Nat) (p q:Nat):Bool:=((Ix ops []).getD (a.getD q 0) 0).testBit (a.getD p 0)
def Y8 (ops:List Oper) (a:List Nat):List Oper:=a.map fun i=>ops.getD i default
def cutA (ops:List Oper) (a:List Nat):Nat→Nat
 | 0=>0
 | j+1=>if (List.range j).all (fun i=>C5 ops a i j||Ld (Y8 ops a) i) then cutA ops a j else j+1
def X5f (ops:List Oper) (a:List Nat) (c n:Nat):Bool:=(List.range n).all fun q=>(List.range q).all fun p=>decide (p<c)||C5 ops a p q
def Vp (ops:List Oper) (a:List Nat) (n:Nat):Nat:=if X5f ops a (cutA ops a n) n then cutA ops a n else n
theorem Q4v (ops:List Oper) (a:List Nat): ∀n,cutA ops a n≤n∧ ∀q,cutA ops a n≤q→q<n→ ∀p,p<q→C5 ops a p q=true∨Ld (Y8 ops a) p=true
 | 0=>⟨Nat.le_refl _,fun q _ h=>by omega⟩
 | j+1=>by
  obtain ⟨g,f⟩:=Q4v ops a j
  simp only[cutA]
  split
  ·rename_i h
   refine ⟨by omega,fun q d b p c=>?_⟩
   by_cases e:q=j
   ·subst e
    simpa using List.all_eq_true.1 h p (by simpa using c)
   ·exact f q d (by omega) p c
  ·exact ⟨Nat.le_refl _,fun q d b=>by omega⟩
theorem Q9t (ops:List Oper) (a:List Nat) (n:Nat):Vp ops a n≤n∧ ∀q,Vp ops a n≤q→q<n→ ∀p,p<q→C5 ops a p q=true∨(p<Vp ops a n∧Ld (Y8 ops a) p=true):=by
 obtain ⟨g,i⟩:=Q4v ops a n
 unfold Vp
 split
 ·rename_i f
  refine ⟨g,fun q e b p d=>?_⟩
  by_cases c:p<cutA ops a n
  ·exact (i q e b p d).imp id fun h=>⟨c,h⟩
  ·left
   have:=List.all_eq_true.1 (List.all_eq_true.1 f q (by simpa using b)) p (by simpa using d)
   simpa [c] using this
 ·exact ⟨Nat.le_refl _,fun q e b=>by omega⟩
def Q5s (ops:List Oper) (a:List Nat):Bool:=
 a.length==ops.length&&(List.range ops.length).all (a.contains ·)&&Xg a&&a.all (fun i=>decide (i<ops.length))&&
  (List.range ops.length).all fun q=>(List.range q).all fun p=> !C5 ops a q p
def Uw (ops:List Oper) (n:Nat):Bool:=
 Ua ops&&Q40 (Ix ops []) ops&&Xg (D9 (Y8 ops (L7 ops)))&&(D9 (Y8 ops (L7 ops))).all (fun d=>decide (d<n))&&
  (K9 .any ops (List.range ops.length)&&K9 .text ops (List.range ops.length)&&K9 .gc ops (X1O .gc ops ops.length (List.range ops.length) []))&&Q5s ops (L7 ops)
theorem Q18: ∀{l:List Nat},Xg l=true→l.Nodup
 | [],_=>List.nodup_nil
 | x::l,h=>by
  simp only[Xg,Bool.and_eq_true,Bool.not_eq_true'] at h
  exact List.nodup_cons.2 ⟨by simpa using h.1,Q18 h.2⟩
theorem Q71 {ops:List Oper}: ∀(b:List Oper) (a:List Nat),a.length+b.length=ops.length→(∀k,a.length≤k→ops[k]? =b[k-a.length]?)→
 (∀j k,j<a.length→k∈P0 ops j→(a.getD j 0).testBit k=true)→ ∀j k,j<ops.length→k∈P0 ops j→((Ix b a).getD j 0).testBit k=true
 | [],a,i,_,c=>fun j k p d=>c j k (by simp at i;omega) d
 | o::b,a,i,f,c=>by
  have q:ops[a.length]? =some o:=by rw[f _ (Nat.le_refl _)];simp
  refine Q71 b _ (by simp at i⊢;omega) ?_ ?_
  ·intro k d
   simp only[List.length_append,List.length_cons,List.length_nil] at d⊢
   rw[f k (by omega)]
   obtain ⟨m,t⟩: ∃m,k-a.length=m+1:=⟨k-a.length-1,by omega⟩
   rw[t,List.getElem?_cons_succ]
   congr 1;omega
  ·intro j k p d
   simp only[List.length_append,List.length_cons,List.length_nil] at p
   by_cases g:j<a.length
   ·simp only[List.getD_eq_getElem?_getD,List.getElem?_append_left g]
    simpa only[List.getD_eq_getElem?_getD] using c j k g d
   ·have n:j=a.length:=by omega
    subst n
    simp only[List.getD_eq_getElem?_getD,List.getElem?_append_right (Nat.le_refl _),Nat.sub_self,List.getElem?_cons_zero,Option.getD_some]
    unfold P0 at d
    rw[q] at d
    simp only[Option.map_some,Option.getD_some,List.mem_map] at d
    obtain ⟨e,u,rfl⟩:=d
    have key: ∀(l:List Edge) (s:Nat),(e∈l∨s.testBit e.on=true)→(l.foldl (fun s e=>s ||| 2 ^ e.on ||| (a[e.on]?).getD 0) s).testBit e.on=true:=by
     intro l
     induction l with
     | nil=>intro s h;simpa using h
     | cons x l r=>
      intro s h
      refine r _ ?_
      rcases h with h | h
      ·rcases List.mem_cons.1 h with rfl | h
       ·right;simp
       ·exact .inl h
      ·right;simp[h]
    exact key _ _ (.inl u)
theorem Cc {α β:Type} {f g:α→Option β}: ∀{l:List α},(∀x∈l,f x=g x)→l.filterMap f=l.filterMap g
 | [],_=>rfl
 | x::l,h=>by
  rw[List.filterMap_cons,List.filterMap_cons,h x (by simp),Cc fun y a=>h y (by simp[a])]
structure Arr (ops : List Oper) (ord : List Nat) (L : List Nat) : Prop where
  hpl : ∀ o ∈ Y8 ops ord, Xp o.op = true
  hclash : ∀ p q a b, p < q → (Y8 ops ord)[p]? = some a → (Y8 ops ord)[q]? = some b → (Qg a b || Qg b a) = true → C5 ops ord p q = true
  hg : ∀ q o j b, (Y8 ops ord)[q]? = some o → o.guard = some (j, b) → ∃ p, p < q ∧ (Y8 ops ord)[p]? = ops[j]? ∧ C5 ops ord p q = true
  hn : L.Nodup
  hlt : ∀ q ∈ L, q < (Y8 ops ord).length
  hC : ∀ pre q post, L = pre ++ q :: post → ∀ p, C5 ops ord p q = true → p < (Y8 ops ord).length → p ∈ pre
  hLl : L.length = (Y8 ops ord).length
theorem Kj {ops:Array Oper} {c:List Nat} (X:Ua ops.toList=true) (hc:Q40 (Ix ops.toList []) ops.toList=true) (a9:K9 .any ops.toList (List.range ops.toList.length)=true) (bc:K9 .text ops.toList (List.range ops.toList.length)=true) (ba:K9 .gc ops.toList (X1O .gc ops.toList ops.toList.length (List.range ops.toList.length) [])=true) (L:Q5s ops.toList c=true) (b:Bool) (t:Nat):
 (Region.schedule b ops t).filterMap (ops[·]?)=((Region.schedule b ops t).map (c.idxOf ·)).filterMap ((Y8 ops.toList c)[·]?)∧Arr ops.toList c ((Region.schedule b ops t).map (c.idxOf ·))∧(Y8 ops.toList c).length=ops.toList.length∧(Region.schedule b ops t).Nodup∧ ∀i∈Region.schedule b ops t,i<ops.toList.length∧c.getD (c.idxOf i) 0=i:=by
 simp only[Q5s,Bool.and_eq_true,beq_iff_eq] at L
 obtain ⟨⟨⟨⟨Z,R⟩,a1⟩,N⟩,D⟩:=L
 have ad:=Q18 a1
 have ae:(Y8 ops.toList c).length=ops.toList.length:=by simp[Y8,Z]
 have g: ∀p,p<ops.toList.length→c.getD p 0<ops.toList.length:=by
  intro p U
  simp only[List.getD_eq_getElem?_getD]
  rw[List.getElem?_eq_getElem (by omega)]
  have:=List.all_eq_true.1 N c[p] (List.getElem_mem _)
  simpa using this
 have d: ∀p,p<ops.toList.length→(Y8 ops.toList c)[p]? =ops.toList[c.getD p 0]? :=by
  intro p U
  have n:=g p U
  simp only[List.getD_eq_getElem?_getD] at n
  rw[List.getElem?_eq_getElem (by omega:p<c.length)] at n
  simp only[Option.getD_some] at n
  simp only[Y8,List.getElem?_map,List.getD_eq_getElem?_getD]
  rw[List.getElem?_eq_getElem (by omega:p<c.length)]
  simp only[Option.map_some,Option.getD_some]
  rw[List.getElem?_eq_getElem n]
  simp
 obtain ⟨W,M,w⟩:=Q5f b ops t X (fun m=>by cases m<;>exact ⟨_,by assumption⟩)
 have f:=Q2e b ops t
 generalize Region.schedule b ops t=L0 at W M w f⊢
 have v: ∀i,i<ops.toList.length→i∈c:=fun i s=>by simpa using List.all_eq_true.1 R i (by simpa using s)
 have l: ∀i,i<ops.toList.length→c.idxOf i<ops.toList.length∧c.getD (c.idxOf i) 0=i:=by
  intro i s
  have n:=List.idxOf_lt_length_of_mem (v i s)
  refine ⟨by omega,?_⟩
  simp only[List.getD_eq_getElem?_getD]
  rw[List.getElem?_eq_getElem n]
  simp
 have r: ∀p,p<ops.toList.length→c.idxOf (c.getD p 0)=p:=by
  intro p U
  simp only[List.getD_eq_getElem?_getD]
  rw[List.getElem?_eq_getElem (by omega:p<c.length)]
  simp only[Option.getD_some]
  exact List.Nodup.idxOf_getElem ad p (by omega)
 have Y: ∀p q,p<q→q<ops.toList.length→C5 ops.toList c q p=false:=by
  intro p q Q u
  have:=List.all_eq_true.1 (List.all_eq_true.1 D q (by simpa using u)) p (by simpa using Q)
  simpa using this
 have aw:L0.filterMap (ops[·]?)=(L0.map (c.idxOf ·)).filterMap ((Y8 ops.toList c)[·]?):=by
  rw[List.filterMap_map]
  refine Cc fun i s=>?_
  have:=f i s
  have n:=l i (by simpa using this)
  simp only[Function.comp]
  rw[d _ n.1,n.2]
  simp
 refine ⟨aw,⟨?_,?_,?_,?_,?_,?_,by simp[M,Z,Y8]⟩,ae,W,fun i s=>⟨by simpa using f i s,(l i (by simpa using f i s)).2⟩⟩
 ·intro o ho
  simp only[Y8,List.mem_map] at ho
  obtain ⟨i,s,rfl⟩:=ho
  have z:i<ops.toList.length:=by simpa using List.all_eq_true.1 N i s
  simp only[Ua,List.all_eq_true,Bool.and_eq_true] at X
  have:=(X (ops.toList[i],i) (by rw[List.mem_zipIdx_iff_getElem?];simpa using z)).1.1
  rw[List.getD_eq_getElem?_getD,List.getElem?_eq_getElem z]
  exact this
 ·intro p q a b' Q ha C E
  have U:p<ops.toList.length:=by have:=(List.getElem?_eq_some_iff.1 ha).1;omega
  have u:q<ops.toList.length:=by have:=(List.getElem?_eq_some_iff.1 C).1;omega
  rw[d p U] at ha
  rw[d q u] at C
  have af: ∀i i' x x',i<i'→ops.toList[i]? =some x→ops.toList[i']? =some x'→(Qg x x'||Qg x' x)=true→((Ix ops.toList []).getD i' 0).testBit i=true:=by
   intro i i' x x' an hx al E
   simp only[Q40,List.all_eq_true] at hc
   have:=hc (x',i') (by rw[List.mem_zipIdx_iff_getElem?];simpa using al) (x,i) (by rw[List.mem_zipIdx_iff_getElem?];simpa using hx)
   simp only[an,E,decide_true,Bool.not_true,Bool.false_or,Bool.or_self] at this
   exact this
  have aa:c.getD p 0≠c.getD q 0:=by
   intro e
   have:=r p U
   rw[e,r q u] at this
   omega
  rcases Nat.lt_or_gt_of_ne aa with h | h
  ·exact af _ _ a b' h ha C E
  ·have n:=af _ _ b' a h C ha (by rw[Bool.or_comm];exact E)
   have B:=Y p q Q u
   unfold C5 at B
   rw[n] at B;cases B
 ·intro q o j b' u av
  have H:q<ops.toList.length:=by have:=(List.getElem?_eq_some_iff.1 u).1;omega
  rw[d q H] at u
  have O:j∈P0 ops.toList (c.getD q 0):=by
   have aj:=X
   simp only[Ua,List.all_eq_true,Bool.and_eq_true] at aj
   have:=(aj (o,c.getD q 0) (by rw[List.mem_zipIdx_iff_getElem?];simpa using u)).2
   rw[av] at this
   simp only[List.any_eq_true] at this
   obtain ⟨e,az,aq⟩:=this
   unfold P0
   rw[u]
   simp only[Option.map_some,Option.getD_some,List.mem_map]
   exact ⟨e,az,by simpa using aq⟩
  have ap:=Pc X _ (g q H) j O
  have hj:j<ops.toList.length:=by have:=g q H;omega
  have C:=Q71 (ops:=ops.toList) ops.toList [] (by simp) (by simp) (by intro j k hj;simp at hj) _ j (g q H) O
  obtain ⟨n,B⟩:=l j hj
  have J:C5 ops.toList c (c.idxOf j) q=true:=by unfold C5;rw[B];exact C
  refine ⟨c.idxOf j,?_,by rw[d _ n,B],J⟩
  rcases Nat.lt_trichotomy (c.idxOf j) q with h | h | h
  ·exact h
  ·rw[←h,B] at ap;omega
  ·have:=Y q _ h n
   rw[J] at this;cases this
 ·refine List.pairwise_map.2 (W.imp_of_mem ?_)
  intro x y hx hy a3 ax
  have n:=(l x (by simpa using f x hx)).2
  have B:=(l y (by simpa using f y hy)).2
  exact a3 (by rw[←n,←B,ax])
 ·intro q u
  simp only[List.mem_map] at u
  obtain ⟨i,s,rfl⟩:=u
  have:=(l i (by simpa using f i s)).1
  omega
 ·intro be q a7 hL p C U
  rw[List.map_eq_append_iff] at hL
  obtain ⟨ah,a2,ab,ac,A⟩:=hL
  rw[List.map_eq_cons_iff] at A
  obtain ⟨i,V,hr,s,ar⟩:=A
  subst hr s ac
  have z:i<ops.toList.length:=by simpa using f i (by rw[ab];simp)
  obtain ⟨n,B⟩:=l i z
  unfold C5 at C
  rw[B] at C
  have am:p<ops.toList.length:=by omega
  have:=Q6K X w i z (c.getD p 0) ah V ab C
  rw[List.mem_map]
  exact ⟨c.getD p 0,this,r p am⟩
theorem Q4Z {ops:Array Oper} {n:Nat} (a:Uw ops.toList n=true) (b:Bool) (t:Nat): ∃L,(Region.schedule b ops t).filterMap (ops[·]?)=L.filterMap ((Y8 ops.toList (L7 ops.toList))[·]?)∧Arr ops.toList (L7 ops.toList) L∧(Y8 ops.toList (L7 ops.toList)).length=ops.toList.length:=by
 simp only[Uw,Bool.and_eq_true] at a
 obtain ⟨⟨⟨⟨⟨j,g⟩,m⟩,l⟩,⟨f,d⟩,e⟩,c⟩:=a
 obtain ⟨i,k,h,_⟩:=Kj j g f d e c b t
 exact ⟨_,i,k,h⟩
theorem Q8r (P:Program) (r:Bool) (ops:Array Oper) (T:(Nat→Iv)→World→World→Prop) (B:World→Prop) (J6:List Value→World→Prop) (i:List Value) (f:Uw ops.toList i.length=true)
 (E: ∀n w w',B w→T n w w'→B w') (C: ∀n w w',T n w w'→Oc r w≤Oc r w')
 (h:chain P r ops.toList T B J6 ((Y8 ops.toList (L7 ops.toList)).drop (Vp ops.toList (L7 ops.toList) ops.toList.length)) 0
  ((Y8 ops.toList (L7 ops.toList)).take (Vp ops.toList (L7 ops.toList) ops.toList.length)) (i.map .val) [] [])
 (b:Bool) (t:Nat) (w:World) (Q:B w):Y4 P ops.toList J6 ((Region.schedule b ops t).filterMap (ops[·]?)) i w:=by
 obtain ⟨L,l,g,s⟩:=Q4Z f b t
 simp only[Uw,Bool.and_eq_true] at f
 obtain ⟨⟨⟨⟨⟨o,V⟩,M⟩,O⟩,⟨R,D⟩,U⟩,u⟩:=f
 generalize L7 ops.toList=a at*
 obtain ⟨Φ,_,z⟩:=Q0X P r ops.toList T B J6 _ _ 0 (i.map .val) [] [] (by intro e o j N;simp only[List.mem_map] at o;obtain ⟨v,_,rfl⟩:=o;cases N) (by simp) (by simp[Uk]) h
 rw[l]
 obtain ⟨k,c⟩:=Q9t ops.toList a ops.toList.length
 exact X5h (os:=Y8 ops.toList a) (m:=Vp ops.toList a ops.toList.length) (T:=T) (B:=B) (Φ:=Φ) (C5 ops.toList a) g.hpl M (fun d H=>by simpa using List.all_eq_true.1 O d H) g.hclash g.hg (by omega)
  (fun q J A p y=>c q J (by omega) p y) E C z L g.hn g.hLl g.hlt g.hC _ [] rfl (by simp) i (fun _=>undef) (fun _=>(0,0)) w .init
  ⟨rfl,by simp,fun _ _=>rfl,by simp⟩ Q (by simp)
def Ze {α:Type} (P:Program) (s:Sem α):Prop:= ∀w v w',s.run P w= .ok v w'→w'=w
section
variable {P : Program} {α β : Type}
theorem Jz (a:α):Ze P (Pure.pure a:Sem α):=fun w v w' h=>by simp at h;exact h.2.symm
theorem Q7s (m:String):Ze P (stuck m:Sem α):=fun w v w' h=>by simp at h
theorem Qa {s:Sem α} {f:α→Sem β} (d:Ze P s) (c: ∀a,Ze P (f a)):Ze P (s>>=f):=fun w v w' h=>by
 rw[Sem.run_bind] at h
 cases b:s.run P w with
 | halt x w1=>rw[b] at h;simp[Result.andThen] at h
 | ok a w1=>
  rw[b] at h
  have:=d _ _ _ b
  subst this
  exact c a _ _ _ h
theorem Q3t (a:Addr) (m:Mode):Ze P (load a m):=fun w v w' h=>by
 unfold load at h
 simp only[Sem.run] at h
 split at h
 ·cases h;rfl
 ·split at h
  ·cases h;rfl
  ·cases h
theorem Gs (t:TypeId):Ze P (typeInfo t):=fun w v w' h=>by
 unfold typeInfo at h
 simp only[Sem.run_bind,run_program,Result.andThen_ok] at h
 split at h<;>simp at h
 exact h.2.symm
theorem Q2w (t:TypeId):Ze P (underlying t):=fun w v w' h=>by
 unfold underlying at h
 simp only[Sem.run_bind,run_program,Result.andThen_ok] at h
 split at h<;>simp at h
 exact h.2.symm
theorem Q7I (t:TypeId):Ze P (isAgg t):=by
 unfold isAgg
 refine Qa (Q2w t) fun d=>?_
 split<;>exact Jz _
theorem Q6c (t:TypeId):Ze P (sizeOf t):=Qa (Gs t) fun _=>Jz _
theorem Q2h (a:Addr): ∀(n i:Nat) (b:Array Value),Ze P (loadCellsFrom a i n b)
 | 0,i,b=>Jz _
 | n+1,i,b=>Qa (Q3t _ _) fun v=>Q2h a n (i+1) _
theorem Q5l (t:TypeId) (a:Addr):Ze P (loadVar t a):=by
 unfold loadVar
 refine Qa (Q7I t) fun b=>?_
 split
 ·exact Qa (Q6c t) fun n=>Qa (Q2h a n 0 #[]) fun cs=>Jz _
 ·exact Q3t _ _
theorem Q5F (t:TypeId) (v:Value):Ze P (Instr.loadAt t v):=by
 unfold Instr.loadAt
 refine Qa ?_ fun a=>Q5l t a
 unfold Instr.sureAddr
 split
 ·exact Jz _
 ·exact Q7s _
def Zb (P:Program) (s:Sem α):Prop:= ∀w v w1,s.run P w= .ok v w1→w1=w∧ ∀w',s.run P w'= .ok v w'
theorem Jr (a:α):Zb P (Pure.pure a:Sem α):=fun w v w' h=>by simp at h⊢;exact ⟨h.2.symm,h.1⟩
theorem Lz (m:String):Zb P (stuck m:Sem α):=fun w v w' h=>by simp at h
theorem Qd {s:Sem α} {f:α→Sem β} (i:Zb P s) (e: ∀a,Zb P (f a)):Zb P (s>>=f):=fun w v w' h=>by
 rw[Sem.run_bind] at h
 cases b:s.run P w with
 | halt x w1=>rw[b] at h;simp[Result.andThen] at h
 | ok a w1=>
  rw[b] at h
  obtain ⟨rfl,j⟩:=i _ _ _ b
  obtain ⟨d,g⟩:=e a _ _ _ h
  refine ⟨d,fun c=>?_⟩
  rw[Sem.run_bind,j c]
  exact g c
theorem Tj (t:TypeId):Zb P (typeInfo t):=fun w v w' h=>by
 unfold typeInfo at h⊢
 simp only[Sem.run_bind,run_program,Result.andThen_ok] at h⊢
 split at h<;>simp at h
 rename_i i a
 refine ⟨h.2.symm,fun w'=>?_⟩
 simp[a,h.1]
theorem Lf (t:TypeId):Zb P (underlying t):=fun w v w' h=>by
 unfold underlying at h⊢
 simp only[Sem.run_bind,run_program,Result.andThen_ok] at h⊢
 split at h<;>simp at h
 rename_i i a
 refine ⟨h.2.symm,fun w'=>?_⟩
 simp[a,h.1]
theorem Su (v:Value) (i:Nat):Zb P (Instr.extract v i):=by
 unfold Instr.extract
 split
 ·split
  ·exact Jr _
  ·exact Lz _
 ·exact Lz _
theorem X01 (v:Value):Zb P (Instr.sureAddr v):=by
 unfold Instr.sureAddr
 split
 ·exact Jr _
 ·exact Lz _
theorem Q43 {s:Sem α} (h: ∀w v w',s.run P w≠ .ok v w'):Zb P s:=fun w v w' e=>absurd e (h w v w')
theorem Q4d {s:Sem α} {f:α→Sem β} (c: ∀a w v w',(f a).run P w≠ .ok v w'): ∀w v w',(s>>=f).run P w≠ .ok v w':=fun w v w' h=>by
 rw[Sem.run_bind] at h
 cases b:s.run P w with
 | halt x w1=>rw[b] at h;simp[Result.andThen] at h
 | ok a w1=>rw[b] at h;exact c a _ _ _ h
theorem Q3k (e:Int×Int×Bool×BoundsCode): ∀w v w',(runtimePanic (.bounds e.1 e.2.1 e.2.2.1 e.2.2.2):Sem α).run P w≠ .ok v w':=by
 unfold runtimePanic
 exact Q4d fun p=>fun w v w' h=>by cases h
theorem Q2k (k:IntKind) (x y:Int) (c:BoundsCode):Zb P (boundsPanic k x y c:Sem α):=Q43 (by
 unfold boundsPanic
 dsimp only
 split
 ·exact Q4d fun b=>Q3k (_,_,_,_)
 ·exact Q4d fun b=>Q3k (_,_,_,_))
theorem Rp (t:TypeId) (x i:Value):Zb P (Instr.indexAt t x i):=by
 unfold Instr.indexAt
 refine Qd ?_ fun q=>?_
 ·unfold asIntOf
  split
  ·exact Jr _
  ·exact Q43 fun w v w' h=>by cases h
  ·exact Lz _
 refine Qd (Lf t) fun d=>?_
 dsimp only
 have key: ∀(z:Option Addr×Nat×TypeId),Zb P (match z with
  | (base,b,elem)=>do
   let __do_lift←underlying t
   have c:Bool:=decide (b≤1)&&match __do_lift with
    | TypeDesc.array b elem=>true
    | x=>false
   match base with
    | some a=>
     if 0≤q.snd∧q.snd< ↑b then do
      let __do_lift←sizeOf elem
      pure (Value.pointer (some (a.add (q.snd.toNat*__do_lift))))
     else
      if c=true then unsupported (Unsupported.noEntry "op/indexAddr.an index out of range at an array of length 0 or 1 (ledger 616)")
      else boundsPanic q.fst q.snd (↑b) BoundsCode.index
    | none=>boundsPanic q.fst q.snd 0 BoundsCode.index):=by
  rintro ⟨base,b,elem⟩
  dsimp only
  refine Qd (Lf t) fun g=>?_
  cases base with
  | none=>exact Q2k _ _ _ _
  | some a=>
   dsimp only
   by_cases e:0≤q.snd∧q.snd< ↑b
   ·rw[if_pos e]
    exact Qd (Qd (Tj _) fun _=>Jr _) fun n=>Jr _
   ·rw[if_neg e]
    by_cases f:(decide (b≤1)&&match g with
     | TypeDesc.array b elem=>true
     | x=>false)=true
    ·rw[if_pos f]
     exact Q43 fun w v w' h=>by cases h
    ·rw[if_neg f]
     exact Q2k _ _ _ _
 split
 ·exact Qd (X01 _) fun a=>Qd (Jr _) key
 ·exact Qd (Jr _) key
 ·exact Qd (Lz _) key
def Q0R (o:Oper):Bool:=match o.op with | .move _ | .assign _ | .load .. | .extract .. | .indexAddr .. =>true | _=>false
def Q4l (o:Oper):Bool:=match o.op with | .move _ | .assign _ | .extract .. | .indexAddr .. =>true | _=>false
theorem Hz {s:Sem Value} {w:World} {K:Value→World→Prop} (h:op P (sv s) w K): ∃v w',s.run P w= .ok v w'∧K v w':=by
 rw[Qj] at h
 unfold P7 sv at h
 rw[Sem.run_bind] at h
 cases a:s.run P w with
 | halt x w1=>rw[a] at h;exact h.elim
 | ok v w1=>rw[a] at h;exact ⟨v,w1,rfl,h⟩
theorem Ht {s:Sem Value} {v:Value} {w w':World} {K:Value→World→Prop} (h:s.run P w= .ok v w') (k:K v w'):op P (sv s) w K:=by
 rw[Qj]
 unfold P7 sv
 rw[Sem.run_bind,h]
 exact k
theorem X0J {p:Program} {w w':World} {a k:Addr} {u:TypeId} {b:Bool} {r} (h: ∀(i:Nat) o,w.heap[i]? =some o→w'.heap[i]? =some o) (c:w.seen p a u k b= .ok r):w'.seen p a u k b= .ok r:=by
 cases e:w.heap[a.block]? with
 | some o=>
  have d:=h _ _ e
  unfold World.seen at*
  rw[d]
  rw[e] at c
  exact c
 | none=>
  exfalso
  unfold World.seen at c
  simp only[e,bind,Except.bind,throw,throwThe,MonadExceptOf.throw,pure,Except.pure] at c
  repeat (first | cases c | split at c)
theorem X1G {p:Program} {w w':World} {a:Addr} {b:Bool} {r} (h: ∀(i:Nat) o,w.heap[i]? =some o→w'.heap[i]? =some o) (c:w.farLoad p a b= .ok r):w'.farLoad p a b= .ok r:=by
 unfold World.farLoad at*
 cases e:w.heap[a.block]? with
 | none=>rw[e] at c;cases c
 | some o=>
  rw[e] at c
  rw[h _ _ e]
  cases o with
  | view d u=>
   simp only at c⊢
   cases f:w.viewLoad p d u a b with
   | error s=>rw[f] at c;cases c
   | ok q=>
    rw[f] at c
    have:w'.viewLoad p d u a b= .ok q:=by
     unfold World.viewLoad at*
     cases g:w.seen p d u a b with
     | error s=>rw[g] at f;cases f
     | ok z=>rw[X0J h g];rw[g] at f;exact f
    rw[this]
    exact c
  | _=>simp only at c;cases c
def Dq {α:Type} (P:Program) (s:Sem α):Prop:= ∀w v w1,s.run P w= .ok v w1→w1=w∧ ∀w':World,(∀(i:Nat) o,w.heap[i]? =some o→w'.heap[i]? =some o)→s.run P w'= .ok v w'
section
variable {P : Program} {α β : Type}
theorem El (a:α):Dq P (Pure.pure a:Sem α):=fun w v w' h=>by simp at h⊢;exact ⟨h.2.symm,fun _ _=>h.1⟩
theorem Q8U (m:String):Dq P (stuck m:Sem α):=fun w v w' h=>by simp at h
theorem Je {s:Sem α} {f:α→Sem β} (j:Dq P s) (g: ∀a,Dq P (f a)):Dq P (s>>=f):=fun w v w' h=>by
 rw[Sem.run_bind] at h
 cases b:s.run P w with
 | halt x w1=>rw[b] at h;simp[Result.andThen] at h
 | ok a w1=>
  rw[b] at h
  obtain ⟨rfl,k⟩:=j _ _ _ b
  obtain ⟨e,i⟩:=g a _ _ _ h
  refine ⟨e,fun d c=>?_⟩
  rw[Sem.run_bind,k d c]
  exact i d c
theorem Q4W (a:Addr) (m:Mode):Dq P (load a m):=fun w v w1 h=>by
 unfold load at h⊢
 simp only[Sem.run] at h⊢
 cases e:w.cell? a with
 | some x=>
  rw[e] at h
  cases h
  refine ⟨rfl,fun w' d=>?_⟩
  have:w'.cell? a=some v:=by
   unfold World.cell? at*
   cases c:w.heap[a.block]? with
   | none=>rw[c] at e;cases e
   | some o=>rw[c] at e;rw[d _ _ c];exact e
  rw[this]
 | none=>
  rw[e] at h
  simp only at h
  cases b:w.farLoad P a (m== .atomic) with
  | error s=>rw[b] at h;cases h
  | ok q=>
   rw[b] at h
   cases h
   refine ⟨rfl,fun w' d=>?_⟩
   have f:=X1G d b
   cases g:w'.cell? a with
   | none=>simp only[f]
   | some x=>
    exfalso
    unfold World.farLoad at b
    unfold World.cell? at g
    cases c:w.heap[a.block]? with
    | none=>rw[c] at b;cases b
    | some o=>
     rw[d _ _ c] at g
     rw[c] at b
     cases o<;>first | cases g | (simp only at b;cases b)
theorem Q4T {s:Sem α} (h:Zb P s):Dq P s:=fun w v w1 e=>⟨(h w v w1 e).1,fun w' _=>(h w v w1 e).2 w'⟩
theorem Q97 (t:TypeId):Dq P (isAgg t):=by
 unfold isAgg
 refine Je (Q4T (Lf t)) fun d=>?_
 split<;>exact El _
theorem Q3f (a:Addr): ∀(n i:Nat) (b:Array Value),Dq P (loadCellsFrom a i n b)
 | 0,i,b=>El _
 | n+1,i,b=>Je (Q4W _ _) fun v=>Q3f a n (i+1) _
theorem Q7v (t:TypeId) (v:Value):Dq P (Instr.loadAt t v):=by
 unfold Instr.loadAt
 refine Je ?_ fun a=>?_
 ·unfold Instr.sureAddr
  split
  ·exact El _
  ·exact Q8U _
 ·unfold loadVar
  refine Je (Q97 t) fun b=>?_
  split
  ·exact Je (Je (Q4T (Tj t)) fun _=>El _) fun n=>Je (Q3f a n 0 #[]) fun cs=>El _
  ·exact Q4W _ _
def Cb (o:Oper):Bool:=match o.op with | .alloc .. =>true | _=>false
theorem X0z {l:List Value} {o:Oper} {w:World} {K:Value→World→Prop} (h:Q0R o=true) (c:V9 P l o w K): ∃v,K v w∧ ∀(w':World) b,(∀(i:Nat) o,w.heap[i]? =some o→w'.heap[i]? =some o)→b v w'→V9 P l o w' b:=by
 obtain ⟨d,p,ty,pos,m,g⟩:=o
 cases p<;>(first | (simp[Q0R] at h;done) | skip)<;>simp only[V9] at c⊢
 ·exact ⟨_,c,fun w' b _ a=>a⟩
 ·exact ⟨_,c,fun w' b _ a=>a⟩
 ·obtain ⟨v,w',e,j⟩:=Hz c
  obtain ⟨rfl,f⟩:=Q7v _ _ _ _ _ e
  exact ⟨v,j,fun w' b k a=>Ht (f w' k) a⟩
 ·obtain ⟨v,w',e,j⟩:=Hz c
  obtain ⟨rfl,f⟩:=Rp _ _ _ _ _ _ e
  exact ⟨v,j,fun w' b k a=>Ht (f w') a⟩
 ·obtain ⟨v,w',e,j⟩:=Hz c
  obtain ⟨rfl,f⟩:=Su _ _ _ _ _ e
  exact ⟨v,j,fun w' b k a=>Ht (f w') a⟩
theorem Q3V {γ δ:Type} {s:Sem γ} {f:γ→Sem δ} {w w':World} {v:δ} (h:(s>>=f).run P w= .ok v w'): ∃a w1,s.run P w= .ok a w1∧(f a).run P w1= .ok v w':=by
 rw[Sem.run_bind] at h
 cases b:s.run P w with
 | halt x w1=>rw[b] at h;simp[Result.andThen] at h
 | ok a w1=>rw[b] at h;exact ⟨a,w1,rfl,h⟩
theorem X1u {γ:Type} {r:Unsupported}:Ze P (unsupported r:Sem γ):=fun w v w' h=>by simp[unsupported] at h
theorem Q5E {l:List Value} {o:Oper} {w:World} {K:Value→World→Prop} (h:Cb o=true) (m:V9 P l o w K): ∃v w',(∀(i:Nat) o,w.heap[i]? =some o→w'.heap[i]? =some o)∧K v w'∧ ∀e:Value→World→Prop,e v w'→V9 P l o w e:=by
 obtain ⟨d,p,ty,pos,D,g⟩:=o
 cases p<;>(first | (simp[Cb] at h;done) | skip)
 simp only[V9] at m⊢
 obtain ⟨v,w',q,A⟩:=Hz m
 refine ⟨v,w',?_,A,fun e y=>Ht q y⟩
 have a:=q
 unfold Instr.alloc zeroValue at a
 obtain ⟨z,w1,s,n⟩:=Q3V a
 have u:w1=w:=Qa (Gs _) (fun i=>by split;exact Jz _;exact X1u) _ _ _ s
 subst u
 simp only at n
 obtain ⟨c,E,r,f⟩:=Q3V n
 simp only[Sem.run_pure,Result.ok.injEq] at f
 obtain ⟨_,rfl⟩:=f
 unfold newVar newRow at r
 obtain ⟨C,B,b,k⟩:=Q3V r
 simp only[Sem.run_pure,Result.ok.injEq] at k
 obtain ⟨_,rfl⟩:=k
 unfold newObj at b
 simp only[Sem.run,Result.ok.injEq] at b
 obtain ⟨_,rfl⟩:=b
 intro i o j
 have t:=(Array.getElem?_eq_some_iff.1 j).1
 simp only[Array.getElem?_push]
 rw[if_neg (by omega)]
 exact j
end
theorem Q5C {l:List Value} {o:Oper} {w:World} {K:Value→World→Prop} (h:Q0R o=true) (e:V9 P l o w K): ∃v,K v w∧ ∀c,c v w→V9 P l o w c:=by
 obtain ⟨d,p,ty,pos,i,g⟩:=o
 cases p<;>(first | (simp[Q0R] at h;done) | skip)<;>simp only[V9] at e⊢
 ·exact ⟨_,e,fun c a=>a⟩
 ·exact ⟨_,e,fun c a=>a⟩
 ·obtain ⟨v,w',b,f⟩:=Hz e
  have:=Q5F _ _ _ _ _ b
  subst this
  exact ⟨v,f,fun c a=>Ht b a⟩
 ·obtain ⟨v,w',b,f⟩:=Hz e
  have:=(Rp _ _ _ _ _ _ b).1
  subst this
  exact ⟨v,f,fun c a=>Ht b a⟩
 ·obtain ⟨v,w',b,f⟩:=Hz e
  have:=(Su _ _ _ _ _ b).1
  subst this
  exact ⟨v,f,fun c a=>Ht b a⟩
theorem Q2P {l:List Value} {o:Oper} {w:World} {K:Value→World→Prop} (h:Q4l o=true) (c:V9 P l o w K): ∃v,K v w∧ ∀w' b,b v w'→V9 P l o w' b:=by
 obtain ⟨d,p,ty,pos,j,g⟩:=o
 cases p<;>(first | (simp[Q4l] at h;done) | skip)<;>simp only[V9] at c⊢
 ·exact ⟨_,c,fun w' b a=>a⟩
 ·exact ⟨_,c,fun w' b a=>a⟩
 ·obtain ⟨v,w',e,i⟩:=Hz c
  obtain ⟨rfl,f⟩:=Rp _ _ _ _ _ _ e
  exact ⟨v,i,fun w' b a=>Ht (f w') a⟩
 ·obtain ⟨v,w',e,i⟩:=Hz c
  obtain ⟨rfl,f⟩:=Su _ _ _ _ _ e
  exact ⟨v,i,fun w' b a=>Ht (f w') a⟩
end
structure Swap (ops : List Oper) (a b : Oper) : Prop where
  pa : Xp a.op = true
  pb : Xp b.op = true
  ga : a.guard = none
  ab : ∀ d, a.dst = some d → d ∉ D2 ops b ++ E6 b
  ba : ∀ d, b.dst = some d → d ∉ D2 ops a ++ E6 a
  dd : ∀ d, a.dst = some d → b.dst ≠ some d
  gb : ∀ j c, b.guard = some (j, c) → ((ops[j]?).bind (·.dst)).isSome = true
  rd : (Q0R a = true ∧ (Q0R b = true ∨ Cb b = true) ∧ b.guard = none ∨ Cb a = true ∧ Q4l b = true ∧ b.guard = none) ∨ Q4l a = true
section
variable {P : Program} {ops : List Oper} {J6 : List Value → World → Prop}
theorem Q2v {l:List Value} {d:Option Nat} {v:Value} {s:Nat} (h: ∀e,d=some e→e≠s):get (put l d v) s=get l s:=by
 cases d with
 | none=>rfl
 | some e=>simp only[put,get,List.getD_eq_getElem?_getD,List.getElem?_set_ne (h e rfl)]
theorem X0K {l:List Value} {d e:Option Nat} {v u:Value} (h: ∀x,d=some x→e≠some x):put (put l d v) e u=put (put l e u) d v:=by
 cases d with
 | none=>rfl
 | some d=>cases e with
  | none=>rfl
  | some e=>simp only[put];exact List.set_comm _ _ (by intro a;subst a;exact h d rfl rfl)
theorem Q4z {o:Oper} {s:Nat} (a:Operand.tmp s∈o.op.operands):s∈E6 o:=by
 simp only[E6,List.mem_filterMap]
 exact ⟨.tmp s,by simpa using a,rfl⟩
theorem Q7B {a b:Oper} {R:List Oper} {l:List Value} {w:World} (X:Swap ops a b) (h:Y4 P ops J6 (a::b::R) l w):Y4 P ops J6 (b::a::R) l w:=by
 obtain ⟨pa,Q,V,L,Z,U,W,N⟩:=X
 have o: ∀v,V9 P (put l a.dst v) b=V9 P l b:=fun v=>Dp Q fun x D=>by
  cases x with
  | tmp s=>exact Q2v fun e r g=>L e r (List.mem_append_right _ (g▸Q4z D))
  | _=>rfl
 have n: ∀v,V9 P (put l b.dst v) a=V9 P l a:=fun v=>Dp pa fun x D=>by
  cases x with
  | tmp s=>exact Q2v fun e r g=>Z e r (List.mem_append_right _ (g▸Q4z D))
  | _=>rfl
 have m: ∀v u,put (put l b.dst u) a.dst v=put (put l a.dst v) b.dst u:=fun v u=>(X0K U).symm
 simp only[Y4,V] at h⊢
 cases k:b.guard with
 | none=>
  simp only[k] at h⊢
  rcases N with (⟨B,rb | rb,_⟩ | ⟨B,fb,_⟩) | fa
  ·obtain ⟨A,f,i⟩:=Q5C B h
   rw[o] at f
   obtain ⟨z,t,y⟩:=Q5C rb f
   refine y _ ?_
   rw[n]
   exact i _ (by rw[m];exact t)
  ·obtain ⟨A,f,i⟩:=X0z B h
   rw[o] at f
   obtain ⟨z,O,k,t,y⟩:=Q5E rb f
   refine y _ ?_
   rw[n]
   exact i O _ k (by rw[m];exact t)
  ·obtain ⟨A,wa,k,f,i⟩:=Q5E B h
   rw[o] at f
   obtain ⟨z,t,y⟩:=Q2P fb f
   refine y w _ ?_
   rw[n]
   exact i _ (by rw[m];exact t)
  ·obtain ⟨A,f,i⟩:=Q2P fa h
   rw[o] at f
   refine G3 (fun z w' J=>?_) f
   rw[n]
   exact i w' _ (by rw[m];exact J)
 | some q=>
  obtain ⟨j,c⟩:=q
  rcases N with (⟨_,_,p⟩ | ⟨_,_,p⟩) | fa
  ·rw[k] at p;cases p
  ·rw[k] at p;cases p
  obtain ⟨d,M⟩:=Option.isSome_iff_exists.1 (W j c k)
  have H:d∈D2 ops b:=by simp[D2,k,M]
  have Y: ∀v,get (put l a.dst v) d=get l d:=fun v=>Q2v fun e r g=>L e r (List.mem_append_left _ (g▸H))
  simp only[k,M] at h⊢
  obtain ⟨A,f,i⟩:=Q2P fa h
  rw[o,Y] at f
  refine Q1h ((Wq f).imp (fun ⟨E,C⟩=>⟨E,G3 (fun z w' J=>?_) C⟩) (fun ⟨E,C⟩=>⟨E,?_⟩))
  ·rw[n];exact i w' _ (by rw[m];exact J)
  ·rw[n];exact i w _ (by rw[m];exact C)
theorem Q25 {a:Oper} {R k:List Oper} {l:List Value} {w:World} (b: ∀l w,Y4 P ops J6 R l w→Y4 P ops J6 k l w) (h:Y4 P ops J6 (a::R) l w):Y4 P ops J6 (a::k) l w:=by
 simp only[Y4] at h⊢
 cases m:a.guard with
 | none=>simp only[m] at h⊢;exact G3 (fun v w g=>b _ _ g) h
 | some q=>
  obtain ⟨j,c⟩:=q
  simp only[m] at h⊢
  cases i:(ops[j]?).bind (·.dst) with
  | none=>simp only[i] at h⊢;exact b _ _ h
  | some d=>
   simp only[i] at h⊢
   exact Q1h ((Wq h).imp (fun ⟨f,e⟩=>⟨f,G3 (fun n w' g=>b _ _ g) e⟩) (fun ⟨f,e⟩=>⟨f,b _ _ e⟩))
theorem Q0Y {q:Oper} {R:List Oper}: ∀(A:List Oper) {l:List Value} {w:World},(∀a∈A,Swap ops a q)→Y4 P ops J6 (A++q::R) l w→Y4 P ops J6 (q::(A++R)) l w
 | [],_,_,_,h=>h
 | a::A,l,w,c,h=>Q7B (c a (by simp)) (Q25 (R:=A++q::R) (fun _ _ h=>Q0Y A (fun b d=>c b (by simp[d])) h) h)
theorem Mi: ∀(A:List Oper) {B:List Oper} {l:List Value} {w:World},Y4 P ops J6 (A++B) l w=Y4 P ops (fun l w=>Y4 P ops J6 B l w) A l w
 | [],B,l,w=>rfl
 | a::A,B,l,w=>by
  simp only[List.cons_append,Y4]
  split
  ·congr 1;funext v w;exact Mi A
  ·split
   ·congr 1;funext v w;exact Mi A
   ·exact Mi A
theorem Q9e {A B b:List Oper} {l:List Value} {w:World} (d: ∀l w,Y4 P ops J6 B l w→Y4 P ops J6 b l w): ∀{l:List Value} {w:World},Y4 P ops J6 (A++B) l w→Y4 P ops J6 (A++b) l w:=by
 induction A with
 | nil=>exact fun h=>d _ _ h
 | cons a A c=>exact fun h=>Q25 (fun _ _ h=>c h) h
theorem Q8H (os:List Oper) (bit:Nat→Nat→Bool) (m: ∀p q a b,p<q→os[p]? =some a→os[q]? =some b→bit p q=false→Swap ops a b):
 ∀(n:Nat) (J6:List Value→World→Prop) (L:List Nat) (l:List Value) (w:World),L.Nodup→L.length=n→(∀q∈L,q<n)→n≤os.length→L.Pairwise (fun q p=>p<q→bit p q=false)→
  Y4 P ops J6 (os.take n) l w→Y4 P ops J6 (L.filterMap (os[·]?)) l w
 | 0,J6,L,l,w,u,C,g,D,v,h=>by
  have:L=[]:=List.eq_nil_of_length_eq_zero C
  subst this;exact h
 | n+1,J6,L,l,w,u,C,g,D,v,h=>by
  have N:n∈L:=Classical.byContradiction fun j=>by
   have O:=C9 n L u fun k M=>by
    have t:=g k M
    have J:k≠n:=fun e=>j (e▸M)
    omega
   omega
  obtain ⟨A,B,rfl⟩:=List.append_of_mem N
  have f:n<os.length:=by omega
  have d:os[n]? =some os[n]:=List.getElem?_eq_getElem f
  have r:=List.nodup_append.1 u
  have y:n∉B:=(List.nodup_cons.1 r.2.1).1
  have E:n∉A:=fun e=>r.2.2 n e n (by simp) rfl
  have Q:os.take (n+1)=os.take n++[os[n]]:=(List.take_append_getElem f).symm
  rw[Q,Mi] at h
  have s: ∀q∈A++B,q<n:=fun q H=>by
   have O:q<n+1:=g q (by rcases List.mem_append.1 H with h | h<;>simp[h])
   have t:q≠n:=fun e=>by
    subst e
    rcases List.mem_append.1 H with h | h
    ·exact E h
    ·exact y h
   omega
  have c:(A++B).Sublist (A++n::B):=List.Sublist.append (List.Sublist.refl A) (List.sublist_cons_self n B)
  have t:=Q8H os bit m n _ (A++B) l w (u.sublist c) (by simp at C⊢;omega) s (by omega) (v.sublist c) h
  rw[←Mi] at t
  rw[List.filterMap_append,List.append_assoc] at t
  rw[List.filterMap_append,List.filterMap_cons,d]
  refine Q9e (l:=l) (w:=w) (fun l w J=>?_) t
  have:=Q0Y (R:=[]) (B.filterMap (os[·]?)) (fun a U=>?_) J
  ·rwa [List.append_nil] at this
  ·obtain ⟨p,i,z⟩:=List.mem_filterMap.1 U
   have o:=s p (List.mem_append_right _ i)
   refine m p n a _ o z d ?_
   have V:=(List.pairwise_append.1 v).2.1
   exact (List.pairwise_cons.1 V).1 p i o
end
def Q35 (ops:List Oper) (a b:Oper):Bool:=
 (match a.guard with | none=>true | some _=>false)&&(match b.guard with | none=>true | some (j,_)=>match (ops[j]?).bind (·.dst) with | some _=>true | none=>false)&&
  (((Q0R a&&(Q0R b||Cb b)||Cb a&&Q4l b)&&(match b.guard with | none=>true | some _=>false))||Q4l a)
def Q8N (ops:List Oper) (a:List Nat):Bool:=
 ops.any Q9n&&ops.any Q0B&&(List.range ops.length).all fun q=>(List.range q).all fun p=>C5 ops a p q||Q35 ops (ops.getD (a.getD p 0) default) (ops.getD (a.getD q 0) default)
theorem Dk {α:Type} {R:α→α→Prop}: ∀(a b:List α) {L:List α},L=b++a→(∀b q a,L=b++q::a→ ∀p∈a,R q p)→a.Pairwise R
 | [],_,_,_,_=>List.Pairwise.nil
 | q::a,b,L,c,h=>List.pairwise_cons.2 ⟨h b q a c,Dk a (b++[q]) (by rw[c];simp) h⟩
theorem Q48 {P:Program} {ops:Array Oper} {J6:List Value→World→Prop} {l0:List Value} {ord L:List Nat} {bit:Nat→Nat→Bool} (ha:Arr ops.toList ord L) (hosl:(Y8 ops.toList ord).length=ops.toList.length) (hn:Xg (D9 (Y8 ops.toList ord))=true) (hbit: ∀p q,C5 ops.toList ord p q=true→bit p q=true)
 (hsq: ∀p q,p<q→q<ops.toList.length→(bit p q||Q35 ops.toList (ops.toList.getD (ord.getD p 0) default) (ops.toList.getD (ord.getD q 0) default))=true) (hpair:L.Pairwise fun q p=>p<q→bit p q=false) (w:World)
 (h:Y4 P ops.toList J6 (Y8 ops.toList ord) l0 w):Y4 P ops.toList J6 (L.filterMap ((Y8 ops.toList ord)[·]?)) l0 w:=by
 refine Q8H (Y8 ops.toList ord) bit (fun p q a b' hpq hpa hqb hb=>?_) _ J6 L l0 w ha.hn rfl (fun q hq=>by rw[ha.hLl];exact ha.hlt q hq) (by rw[ha.hLl];exact Nat.le_refl _) hpair (by rw[ha.hLl,List.take_length];exact h)
 have hql:q<ops.toList.length:=by have:=(List.getElem?_eq_some_iff.1 hqb).1;omega
 have hpl:p<ops.toList.length:=by omega
 have hget: ∀i o,(Y8 ops.toList ord)[i]? =some o→ops.toList.getD (ord.getD i 0) default=o:=by
  intro i o hi
  unfold Y8 at hi
  rw[List.getElem?_map] at hi
  cases ho:ord[i]? with
  | none=>rw[ho] at hi;cases hi
  | some x=>
   rw[ho] at hi
   simp only[Option.map_some,Option.some.injEq] at hi
   rw[List.getD_eq_getElem?_getD (l:=ord),ho];exact hi
 have hnc:(Qg a b'||Qg b' a)=false:=by
  cases hx:Qg a b'||Qg b' a with
  | false=>rfl
  | true=>rw[hbit p q (ha.hclash p q a b' hpq hpa hqb hx)] at hb;cases hb
 rw[Bool.or_eq_false_iff] at hnc
 have hs:=hsq p q hpq hql
 rw[hb,Bool.false_or,hget p a hpa,hget q b' hqb] at hs
 simp only[Q35,Bool.and_eq_true,Bool.or_eq_true] at hs
 obtain ⟨⟨g1,g2⟩,g3⟩:=hs
 have hga:a.guard=none:=by
  cases hx:a.guard with
  | none=>rfl
  | some _=>rw[hx] at g1;cases g1
 have c1: ∀d,a.dst=some d→d∉E6 b'∧b'.dst≠some d:=fun d hd=>by
  have:=hnc.1
  unfold Qg at this
  rw[hd] at this
  simp only[Bool.or_eq_false_iff] at this
  exact ⟨fun hm=>by simp[hm] at this,fun hm=>by simp[hm] at this⟩
 have c2: ∀d,b'.dst=some d→d∉E6 a:=fun d hd=>by
  have:=hnc.2
  unfold Qg at this
  rw[hd] at this
  simp only[Bool.or_eq_false_iff] at this
  exact fun hm=>by simp[hm] at this
 refine ⟨ha.hpl a (List.mem_of_getElem? hpa),ha.hpl b' (List.mem_of_getElem? hqb),hga,fun d hd'=>?_,fun d hd'=>?_,fun d hd'=>(c1 d hd').2,fun j c hbg=>?_,?_⟩
 ·rw[List.mem_append,not_or]
  refine ⟨fun hm=>?_,(c1 d hd').1⟩
  unfold D2 at hm
  cases hbg:b'.guard with
  | none=>rw[hbg] at hm;simp at hm
  | some q0=>
   obtain ⟨j,c⟩:=q0
   obtain ⟨p',hp',hpj,hbt⟩:=ha.hg q b' j c hqb hbg
   rw[hbg] at hm
   simp only at hm
   cases hjd:ops.toList[j]?.map (·.dst) with
   | none=>
    cases hj:ops.toList[j]? with
    | none=>rw[hj] at hm;simp at hm
    | some oj=>rw[hj] at hjd;cases hjd
   | some dj=>
    cases hj:ops.toList[j]? with
    | none=>rw[hj] at hjd;cases hjd
    | some oj=>
     rw[hj] at hm hpj
     simp only[Option.bind_some] at hm
     cases hdj:oj.dst with
     | none=>rw[hdj] at hm;simp at hm
     | some d2=>
      rw[hdj] at hm
      simp only[List.mem_singleton] at hm
      subst hm
      have:=Yk (Y8 ops.toList ord) hn p' p oj a d hpj hpa hdj hd'
      subst this
      rw[hbit _ _ hbt] at hb;cases hb
 ·rw[List.mem_append,not_or]
  exact ⟨fun hm=>by simp[D2,hga] at hm,c2 d hd'⟩
 ·rw[hbg] at g2
  simp only at g2
  cases hx:(ops.toList[j]?).bind (·.dst) with
  | none=>rw[hx] at g2;cases g2
  | some _=>rfl
 ·rcases g3 with ⟨g3,g5⟩ | g3
  ·have hn:b'.guard=none:=by
    cases hx:b'.guard with
    | none=>rfl
    | some _=>rw[hx] at g5;cases g5
   exact .inl (g3.imp (fun g=>⟨g.1,g.2,hn⟩) fun g=>⟨g.1,g.2,hn⟩)
  ·exact .inr g3
theorem X3P (P:Program) (ops:Array Oper) (J6:List Value→World→Prop) (m:List Value) (a:Uw ops.toList m.length=true) (g:Q8N ops.toList (L7 ops.toList)=true)
 (b:Bool) (t:Nat) (w:World) (h:Y4 P ops.toList J6 (Y8 ops.toList (L7 ops.toList)) m w):Y4 P ops.toList J6 ((Region.schedule b ops t).filterMap (ops[·]?)) m w:=by
 obtain ⟨L,l,i,c⟩:=Q4Z a b t
 simp only[Uw,Bool.and_eq_true] at a
 obtain ⟨⟨⟨⟨⟨E,C⟩,v⟩,D⟩,⟨z,u⟩,B⟩,r⟩:=a
 generalize L7 ops.toList=d at*
 rw[l]
 refine Q48 i c v (bit:=C5 ops.toList d) (fun _ _ h=>h) (fun p q e j=>?_) ?_ w h
 ·simp only[Q8N,Bool.and_eq_true] at g
  exact List.all_eq_true.1 (List.all_eq_true.1 g.2 q (by simpa using j)) p (by simpa using e)
 ·refine Dk L [] (L:=L) rfl fun n q f k p o e=>?_
  cases A:C5 ops.toList d p q with
  | false=>rfl
  | true=>
   have y:=i.hC n q f k p A (i.hlt p (by rw[k];simp[o]))
   have s:=i.hn
   rw[k] at s
   exact absurd rfl ((List.nodup_append.1 s).2.2 p y p (by simp[o]))
def X3Y (b:List Nat) (a c:Nat):List Nat:=((b.erase a).takeWhile (· !=c))++a::((b.erase a).dropWhile (· !=c))
def Q69 (ops:List Oper) (d b:List Nat) (a c:Nat):Bool:=
 Q5s ops b&&Xg (D9 (Y8 ops b))&&
  ((List.range ops.length).all fun q=>(List.range q).all fun p=>(C5 ops d p q||(d.getD p 0==c&&d.getD q 0==a))||Q35 ops (ops.getD (d.getD p 0) default) (ops.getD (d.getD q 0) default))&&
  ((List.range ops.length).all fun q=>(List.range q).all fun p=>(C5 ops b p q||(b.getD p 0==a&&b.getD q 0==c))||Q35 ops (ops.getD (b.getD p 0) default) (ops.getD (b.getD q 0) default))
def Q9f (ops:List Oper):Option (List Nat):=
 match ops.any Q9n&&ops.any Q0B&&ops.any Cb with
 | true=>match ops.findIdx Cb !=ops.findIdx Q0B&&Q69 ops (L7 ops) (X3Y (L7 ops) (ops.findIdx Cb) (ops.findIdx Q0B)) (ops.findIdx Cb) (ops.findIdx Q0B) with
  | true=>some (X3Y (L7 ops) (ops.findIdx Cb) (ops.findIdx Q0B))
  | false=>none
 | false=>none
theorem X26 {ops:Array Oper} {a f:List Nat} {x y:Nat} (U:f.Nodup) (z: ∀i∈f,i<ops.toList.length∧a.getD (a.idxOf i) 0=i) (u:Arr ops.toList a (f.map (a.idxOf ·))) (o: ∀e m b,f≠e++y::(m++x::b)):
 (f.map (a.idxOf ·)).Pairwise fun q p=>p<q→(C5 ops.toList a p q||(a.getD p 0==x&&a.getD q 0==y))=false:=by
 refine Dk _ [] (L:=f.map (a.idxOf ·)) rfl fun e q b c p l D=>?_
 rw[Bool.or_eq_false_iff]
 constructor
 ·cases M:C5 ops.toList a p q with
  | false=>rfl
  | true=>
   have j:=u.hC e q b c p M (u.hlt p (by rw[c];simp[l]))
   have g:=u.hn
   rw[c] at g
   exact absurd rfl ((List.nodup_append.1 g).2.2 p j p (by simp[l]))
 ·rw[Bool.and_eq_false_iff]
  refine Classical.byContradiction fun d=>?_
  rw[not_or] at d
  obtain ⟨j,g⟩:=d
  have j:a.getD p 0=x:=by simpa using j
  have g:a.getD q 0=y:=by simpa using g
  rw[List.map_eq_append_iff] at c
  obtain ⟨h,t,H,_,A⟩:=c
  rw[List.map_eq_cons_iff] at A
  obtain ⟨i,n,O,E,r⟩:=A
  rw[←r,List.mem_map] at l
  obtain ⟨k,Q,s⟩:=l
  obtain ⟨N,J,B⟩:=List.append_of_mem Q
  subst O H B
  have w:=(z i (by simp)).2
  have v:=(z k (by simp)).2
  rw[E] at w
  rw[s] at v
  have R:i=y:=by rw[←w];exact g
  have C:k=x:=by rw[←v];exact j
  subst R C
  exact o h N J rfl
theorem X2X (P:Program) (ops:Array Oper) (J6:List Value→World→Prop) (D:List Value) (u:Uw ops.toList D.length=true) {d:List Nat} {a c:Nat} (Z:a≠c) (v:Q69 ops.toList (L7 ops.toList) d a c=true)
 (b:Bool) (t:Nat) (w:World) (h1:Y4 P ops.toList J6 (Y8 ops.toList (L7 ops.toList)) D w) (h2:Y4 P ops.toList J6 (Y8 ops.toList d) D w):Y4 P ops.toList J6 ((Region.schedule b ops t).filterMap (ops[·]?)) D w:=by
 simp only[Uw,Bool.and_eq_true] at u
 obtain ⟨⟨⟨⟨⟨U,R⟩,hn⟩,hd⟩,⟨A,o⟩,C⟩,B⟩:=u
 simp only[Q69,Bool.and_eq_true] at v
 obtain ⟨⟨⟨l,O⟩,M⟩,H⟩:=v
 by_cases n: ∃i g f,Region.schedule b ops t=i++a::(g++c::f)
 ·obtain ⟨Q,z,J,s,E⟩:=Kj U R A o C l b t
  rw[Q]
  refine Q48 z J O (bit:=fun p q=>C5 ops.toList d p q||(d.getD p 0==a&&d.getD q 0==c)) (fun p q h=>by rw[h];rfl) (fun p q k j=>?_) (X26 s E z fun i g f e=>?_) w h2
  ·exact List.all_eq_true.1 (List.all_eq_true.1 H q (by simpa using j)) p (by simpa using k)
  ·obtain ⟨W,V,N,e'⟩:=n
   have r: ∀{L p m q:List Nat} {x y:Nat},L=p++x::(m++y::q)→L[p.length]? =some x∧L[p.length+1+m.length]? =some y∧p.length+1+m.length<L.length:=by
    rintro L p m q x y rfl
    refine ⟨by simp,?_,by simp;omega⟩
    rw[List.getElem?_append_right (by omega),show p.length+1+m.length-p.length=m.length+1 by omega,List.getElem?_cons_succ]
    simp
   obtain ⟨g1,g2,g3⟩:=r e
   obtain ⟨X,Y,g6⟩:=r e'
   have k1:=(List.getElem?_inj (by omega) s).1 (g1.trans Y.symm)
   have k2:=(List.getElem?_inj (by omega) s).1 (g2.trans X.symm)
   omega
 ·obtain ⟨Q,z,J,s,E⟩:=Kj U R A o C B b t
  rw[Q]
  refine Q48 z J hn (bit:=fun p q=>C5 ops.toList (L7 ops.toList) p q||((L7 ops.toList).getD p 0==c&&(L7 ops.toList).getD q 0==a)) (fun p q h=>by rw[h];rfl) (fun p q k j=>?_) (X26 s E z fun i g f e=>n ⟨i,g,f,e⟩) w h1
  exact List.all_eq_true.1 (List.all_eq_true.1 M q (by simpa using j)) p (by simpa using k)
theorem X41 (P:Program) (ops:Array Oper) (J6:List Value→World→Prop) (d:List Value) (f:Uw ops.toList d.length=true) {a:List Nat} (c:Q9f ops.toList=some a)
 (b:Bool) (t:Nat) (w:World) (h:Y4 P ops.toList J6 (Y8 ops.toList (L7 ops.toList)) d w∧Y4 P ops.toList J6 (Y8 ops.toList a) d w):Y4 P ops.toList J6 ((Region.schedule b ops t).filterMap (ops[·]?)) d w:=by
 unfold Q9f at c
 split at c
 ·split at c
  ·rename_i e
   cases c
   rw[Bool.and_eq_true] at e
   exact X2X P ops J6 d f (by simpa using e.1) e.2 b t w h.1 h.2
  ·cases c
 ·cases c
theorem X2n: ∃f:World→(World→Prop)→Prop,f=fun w A=>A w.drew:=⟨_,rfl⟩
noncomputable def sq:World→(World→Prop)→Prop:=Classical.choose X2n
theorem X2a:sq=fun w A=>A w.drew:=Classical.choose_spec X2n
def Q5w:List Ent→Nat→Ent→(List Ent→Prop)→Prop
 | [],_,_,k=>k []
 | _::l,0,e,k=>k (e::l)
 | x::l,n+1,e,k=>Q5w l n e (fun l'=>k (x::l'))
def Ii (S:List Ent) (d:Option Nat) (e:Ent) (k:List Ent→Prop):Prop:=
 match d with
 | some d=>Q5w S d e k
 | none=>k S
def Q95:List Ent→Nat→(Ent→Prop)→Prop
 | [],_,k=>k (.val undef)
 | x::_,0,k=>k x
 | _::l,n+1,k=>Q95 l n k
def Q9V (S:List Ent) (x:Operand) (k:Ent→Prop):Prop:=
 match x with
 | .tmp t=>Q95 S t k
 | .const v=>k (.val v)
 | .global g=>k (.val (.pointer (some ⟨g,0,none⟩)))
 | .func f=>k (.val (.func (.func f) #[] #[]))
def Q1u (u:Nat→Value):List Ent→(List Value→Prop)→Prop
 | [],k=>k []
 | .val v::S,k=>Q1u u S (fun l=>k (v::l))
 | .ref j::S,k=>Q1u u S (fun l=>k (u j::l))
def Q6P:List Value→(List Ent→Prop)→Prop
 | [],k=>k []
 | v::l,k=>Q6P l (fun S=>k (.val v::S))
theorem Q6O: ∀(S:List Ent) (n:Nat) (e:Ent) (k:List Ent→Prop),Q5w S n e k=k (Q2K S n e)
 | [],_,_,_=>rfl
 | _::_,0,_,_=>rfl
 | _::l,n+1,e,k=>by simp only[Q5w,Q2K,Q6O l n e]
theorem De (S:List Ent) (d:Option Nat) (e:Ent) (k:List Ent→Prop):Ii S d e k=k (putE S d e):=by
 cases d with
 | none=>rfl
 | some d=>exact Q6O S d e k
theorem Q6w: ∀(S:List Ent) (n:Nat) (k:Ent→Prop),Q95 S n k=k (getE S n)
 | [],_,_=>rfl
 | _::_,0,_=>rfl
 | _::l,n+1,k=>Q6w l n k
theorem X0i (S:List Ent) (x:Operand) (k:Ent→Prop):Q9V S x k=k (entOf S x):=by
 cases x with
 | tmp t=>exact Q6w S t k
 | _=>rfl
theorem Q2C (u:Nat→Value): ∀(S:List Ent) (k:List Value→Prop),Q1u u S k=k (B8 u S)
 | [],_=>rfl
 | .val v::S,k=>by simp only[Q1u,Q2C u S];rfl
 | .ref j::S,k=>by simp only[Q1u,Q2C u S];rfl
theorem Q4n: ∀(l:List Value) (k:List Ent→Prop),Q6P l k=k (l.map .val)
 | [],_=>rfl
 | v::l,k=>by simp only[Q6P,Q4n l];rfl
noncomputable def Zq (P:Program) (r:Bool) (ops:List Oper) (T:(Nat→Iv)→World→World→Prop) (B:World→Prop) (J6:List Value→World→Prop) (tail:List Oper):Nat→List Oper→List Ent→Cd→List Nat→Prop
 | _,[],S,c,done=>Vu done (fun _=>undef) fun u=>Mo r fun b=> ∀w,B w→Q1E c u b w (Q1u u S fun l=>I3 P ops J6 tail l w) done
 | i,o::a,S,c,done=>
  match mv o with
  | some x=>Q9V S x fun e=>Ii S o.dst e fun S=>Zq P r ops T B J6 tail (i+1) a S c done
  | none=>match Q8R r o with
   | true=>match r with
    | true=>Pi T (fun φ=>Vu (refs ops S o) (fun _=>undef) fun u=>Mo true fun b=> ∀w,B w→Vw c u b w (runOp P ops (B8 u S) o w (dk (T b) (φ ((refs ops S o).map u)) w)) (refs ops S o))
     (fun φ=>Ii S o.dst (.ref i) fun d=>Zq P r ops T B J6 tail (i+1) a d (c++[(i,refs ops S o,fun xs (_:Iv)=>φ xs)]) (done++[i]))
    | false=>Q2N (T ivZ) (fun φ=>Vu (refs ops S o) (fun _=>undef) fun u=>Mo false fun b=> ∀w,B w→Vw c u b w (runOp P ops (B8 u S) o w (dk (T b) (φ ((refs ops S o).map u)) w)) (refs ops S o))
     (fun φ=>Ii S o.dst (.ref i) fun d=>Zq P r ops T B J6 tail (i+1) a d (c++[(i,refs ops S o,fun xs (_:Iv)=>φ xs)]) (done++[i]))
   | false=>match Q9D r o with
    | true=>Ce T i (fun φ=>Vu (refs ops S o) (fun _=>undef) fun u=>Mo r fun b=> ∀w,B w→Vw c u b w (runOp P ops (B8 u S) o w (Pw (T b) φ w)) (refs ops S o))
     (fun φ=>Ii S o.dst (.ref i) fun d=>Zq P r ops T B J6 tail (i+1) a d (c++[(i,[],fun (_:List Value)=>φ)]) (done++[i]))
    | false=>match r with
     | true=>K5 T (fun φ=>Vu (refs ops S o) (fun _=>undef) fun u=>Mo true fun b=> ∀w,B w→Vw c u b w (runOp P ops (B8 u S) o w (dk (T b) φ w)) (refs ops S o))
      (fun φ=>Ii S o.dst (.ref i) fun d=>Zq P r ops T B J6 tail (i+1) a d (c++[(i,[],fun (_:List Value) (_:Iv)=>φ)]) (done++[i]))
     | false=>Q6 (T ivZ) (fun φ=>Vu (refs ops S o) (fun _=>undef) fun u=>Mo false fun b=> ∀w,B w→Vw c u b w (runOp P ops (B8 u S) o w (dk (T b) φ w)) (refs ops S o))
      (fun φ=>Ii S o.dst (.ref i) fun d=>Zq P r ops T B J6 tail (i+1) a d (c++[(i,[],fun (_:List Value) (_:Iv)=>φ)]) (done++[i]))
theorem Xs (P:Program) (r:Bool) (ops:List Oper) (T:(Nat→Iv)→World→World→Prop) (B:World→Prop) (J6:List Value→World→Prop) (tail:List Oper): ∀(a:List Oper) (i:Nat) (S:List Ent) (b:Cd) (done:List Nat),
 Zq P r ops T B J6 tail i a S b done=chain P r ops T B J6 tail i a S b done
 | [],i,S,b,done=>by simp only[Zq,chain,Q2C]
 | o::a,i,S,b,done=>by
  simp only[Zq,chain]
  split
  ·rw[X0i,De,Xs]
  ·split
   ·cases r with
    | true=>
     dsimp only
     congr 1
     funext φ
     rw[De,Xs]
    | false=>
     dsimp only
     congr 1
     funext φ
     rw[De,Xs]
   ·split
    ·congr 1
     funext φ
     rw[De,Xs]
    ·cases r with
     | true=>
      dsimp only
      congr 1
      funext φ
      rw[De,Xs]
     | false=>
      dsimp only
      congr 1
      funext φ
      rw[De,Xs]
def X4O (ops:List Oper):Bool:=ops.any fun o=>(match o.op with | .build .. =>true | _=>false)&&decide (2≤((E6 o).filter fun s=>ops.any fun c=>Q0B c&&c.dst==some s).length)
def X4H (ops:List Oper):Bool:=ops.any fun o=>X1X o&&(E6 o).any fun s=>ops.any fun c=>X1X c&&c.dst==some s
noncomputable def Q9X (P:Program) (ops:List Oper) (J6:List Value→World→Prop) (l:List Value) (w:World):Prop:=
 drR w fun T B=>Q6P l fun S=>Zq P true ops T B J6 ((Y8 ops (L7 ops)).drop (Vp ops (L7 ops) ops.length)) 0 ((Y8 ops (L7 ops)).take (Vp ops (L7 ops) ops.length)) S [] []
noncomputable def X28 (P:Program) (ops:List Oper) (J6:List Value→World→Prop) (l:List Value) (w:World):Prop:=
 dr w fun T B=>Q6P l fun S=>Zq P false ops (fun _=>T) B J6 ((Y8 ops (L7 ops)).drop (Vp ops (L7 ops) ops.length)) 0 ((Y8 ops (L7 ops)).take (Vp ops (L7 ops) ops.length)) S [] []
def Q1j (a b:List Nat):Bool:=a.all (b.contains ·)&&b.all (a.contains ·)
theorem Sp {a b:List Nat} (h:Q1j a b=true) (i:Nat):a.contains i=b.contains i:=by
 simp only[Q1j,Bool.and_eq_true,List.all_eq_true] at h
 rw[Bool.eq_iff_iff]
 constructor
 ·intro c;exact h.1 i (by simpa using c)
 ·intro c;exact h.2 i (by simpa using c)
abbrev W1:=List (Option (List Nat×List Nat))
def W1.slots (a:W1):List (Option (List Nat)):=a.map (·.map (·.1))
theorem W1.slots_get (a:W1) (k:Nat):a.slots.getD k none=(a.getD k none).map (·.1):=by
 simp only[W1.slots,List.getD_eq_getElem?_getD,List.getElem?_map]
 cases a[k]? <;>rfl
noncomputable def Vs (P:Program) (a:W1) (b:List (Option (List Nat))):Nat→Code→Ha→List Value→World→Prop
 | _, .skip,Q,l,w=>Q .normal l w
 | _, .label _,Q,l,w=>Q .normal l w
 | _, .exit id,Q,l,w=>Q (.exit id) l w
 | _, .ret,Q,l,w=>Q .ret l w
 | _, .region _ ops false,Q,l,w=>I3 P ops.toList (fun l w=>Q .normal l w) ops.toList l w
 | _, .region _ ops true,Q,l,w=>match Uw ops.toList l.length with
  | true=>match Q8N ops.toList (L7 ops.toList) with
   | true=>sq w fun w=>I3 P ops.toList (fun l w=>Q .normal l w) (Y8 ops.toList (L7 ops.toList)) l w
   | false=>match Q9f ops.toList with
    | some g=>sq w fun w=>I3 P ops.toList (fun l w=>Q .normal l w) (Y8 ops.toList (L7 ops.toList)) l w∧I3 P ops.toList (fun l w=>Q .normal l w) (Y8 ops.toList g) l w
    | none=>match X4O ops.toList||X4H ((Y8 ops.toList (L7 ops.toList)).take (Vp ops.toList (L7 ops.toList) ops.toList.length)) with
     | true=>Q9X P ops.toList (fun l w=>Q .normal l w) l w
     | false=>X28 P ops.toList (fun l w=>Q .normal l w) l w
  | false=>False
 | k, .seq x y,Q,l,w=>match a.getD k none with
  | none=>Vs P a b (k+1) x (thn (fun l w=>Vs P a b (k+1+Qh x) y Q l w) Q) l w
  | some (f,h)=>match Q1j h (L8 b (k+1) x) with
   | true=>jn w (fun J w=>Vs P a b (k+1) x (thn (fun l' w'=>J (Ow l' f) w') Q) l w)
    (fun z d w=>Fg f h z d 0 l fun l=>Vs P a b (k+1+Qh x) y Q l w)
   | false=>False
 | k, .cond c x y,Q,l,w=>X1 (ev l c) (Vs P a b k x Q l w) (Vs P a b (k+Qh x) y Q l w)
 | k, .block id c,Q,l,w=>Vs P a b k c (Q2X id Q) l w
 | k, .loop c,Q,l,w=>match a.getD k none with
  | none=>False
  | some (f,h)=>match Q1j h (L8 b (k+1) c) with
   | true=>lp (Ow l f) w (fun e x d w=>Fg f h x d 0 l fun l=>Vs P a b (k+1) c (thn (fun l' w'=>e (Ow l' f) w') Q) l w)
   | false=>False
 | _,_,_,_,_=>False
theorem Q08 {next a:List Value→World→Prop} {Q b:Ha} (d: ∀l w,next l w→a l w) (c: ∀e l w,Q e l w→b e l w): ∀e l w,thn next Q e l w→thn a b e l w:=by
 intro e l w h;cases e<;>first | exact d _ _ h | exact c _ _ _ h
theorem X1s (P:Program) (m:W1) (c:Code): ∀(k:Nat) (Q j:Ha) (l:List Value) (w:World),(∀e l w,Q e l w→j e l w)→
 Vs P m m.slots k c Q l w→Np P m.slots k c j l w:=by
 induction c with
 | skip=>intro k Q j l w g h;exact g _ _ _ h
 | label n=>intro k Q j l w g h;exact g _ _ _ h
 | exit id=>intro k Q j l w g h;exact g _ _ _ h
 | ret=>intro k Q j l w g h;exact g _ _ _ h
 | goto n=>intro k Q j l w g h;exact h.elim
 | refuse s=>intro k Q j l w g h;exact h.elim
 | scope c=>intro k Q j l w g h;exact h.elim
 | rangeFunc f p a b=>intro k Q j l w g h;exact h.elim
 | region id ops A=>
  intro k Q j l w g h
  cases A with
  | true=>
   simp only[Vs] at h
   split at h
   ·rename_i r
    intro t
    have v:Y4 P ops.toList (fun l w=>Q .normal l w) ((Region.schedule (P.follows .mixedOrders) ops t).filterMap (ops[·]?)) l w.drew:=by
     split at h
     ·rename_i O
      simp only[X2a,Hr] at h
      exact X3P P ops _ l r O _ t _ h
     ·split at h
      ·rename_i Y X
       simp only[X2a,Hr] at h
       exact X41 P ops _ l r X _ t _ h
      ·split at h
       ·simp only[Q9X,X0n,Q6q,Q4n,Xs] at h
        obtain ⟨T,B,M,L,hM,h⟩:=h
        exact Q8r P true ops T B _ l r L hM h (P.follows .mixedOrders) t w.drew M
       ·simp only[X28,X2x,Q9C,Q4n,Xs] at h
        obtain ⟨T,B,M,L,h⟩:=h
        exact Q8r P false ops (fun _=>T) B _ l r (fun _=>L) (fun _ _ _ _=>Nat.le_refl _) h (P.follows .mixedOrders) t w.drew M
    refine Jl P _ _ _ (D9 ops.toList) l _ _ _ ?_ (Qc.refl _ _) (fun l w N _=>g _ _ _ N) v
    intro o D d v
    simp only[List.mem_filterMap] at D
    obtain ⟨i,_,hi⟩:=D
    simp only[D9,List.contains_eq_mem,List.mem_filterMap,decide_eq_true_eq]
    exact ⟨o,by simpa using Array.mem_of_getElem? hi,v⟩
   ·exact h.elim
  | false=>
   simp only[Vs] at h
   rw[Hr] at h
   refine Jl P _ _ _ (D9 ops.toList) l _ _ _ ?_ (Qc.refl _ _) (fun l w N _=>g _ _ _ N) h
   intro o D d v
   simp only[D9,List.contains_eq_mem,List.mem_filterMap,decide_eq_true_eq]
   exact ⟨o,D,v⟩
 | seq x y q u=>
  intro k Q j l w g h
  simp only[Vs,Np] at h⊢
  rw[W1.slots_get]
  split at h
  ·rename_i C
   simp only[C,Option.map_none]
   exact q _ _ _ _ _ (Q08 (fun l w h=>u _ _ _ _ _ g h) g) h
  ·rename_i Z wr C
   simp only[C,Option.map_some]
   split at h
   ·rename_i U
    obtain ⟨J,h1,X⟩:=Q5X h
    refine Zj J (q _ _ _ _ _ (Q08 (fun l w h=>h) g) h1) fun z d w hz=>?_
    have h3:=X z d w hz
    rw[Q4B,Bj _ _ _ (Sp U)] at h3
    exact u _ _ _ _ _ g h3
   ·exact h.elim
 | cond c x y q u=>
  intro k Q j l w g h
  exact Q4L (q k _ _ _ _ g) (u _ _ _ _ _ g) h
 | block id c H=>
  intro k Q j l w g h
  refine H k _ _ _ _ ?_ h
  intro e l' w' E
  cases e with
  | exit ae=>simp only[Q2X] at E⊢;split<;>rename_i V<;>simp only[V,if_true,if_false] at E<;>exact g _ _ _ E
  | _=>exact g _ _ _ E
 | loop c H=>
  intro k Q j l w g h
  simp only[Vs,Np] at h⊢
  split at h
  ·exact h.elim
  ·rename_i Z wr C
   have R:(m.slots.getD k none).getD []=Z:=by rw[W1.slots_get,C];rfl
   split at h
   ·rename_i U
    subst R
    refine Q4r (fun W x d w hb=>?_) h
    rw[Q4B,Bj _ _ _ (Sp U)] at hb
    exact H _ _ _ _ _ (Q08 (fun l w h=>h) g) hb
   ·exact h.elim
def Q3A (P:Program) (t:TypeId) (a:Value) (w:World) (K:Value→Prop):Prop:= ∃v,(do loadVar t (←asAddr a):Sem Value).run P w= .ok v w∧K v
theorem Q3I: ∃f:Program→TypeId→Value→World→(Value→Prop)→Prop,f=Q3A:=⟨_,rfl⟩
noncomputable def W3:Program→TypeId→Value→World→(Value→Prop)→Prop:=Classical.choose Q3I
theorem Q3i:W3=Q3A:=Classical.choose_spec Q3I
noncomputable def Q79 (P:Program) (l:List Value) (K:List Value→World→Prop):List ResultVar→List Value→World→Prop
 | [],b,w=>K b.reverse w
 | .tmp t::c,b,w=>Q79 P l K c (get l t::b) w
 | .cell a t::c,b,w=>W3 P t (get l a) w fun v=>Q79 P l K c (v::b) w
def Q3c:List Value→Value
 | [v]=>v
 | vs=> .tuple vs.toArray
noncomputable def results (P:Program) (a:List ResultVar) (K:Value→World→Prop) (l:List Value) (w:World):Prop:=
 Q79 P l (fun vs w=>K (Q3c vs) w) a [] w
noncomputable def Q9L (P:Program) (fn:Func) (K:Value→World→Prop):Ha
 | .normal,l,w | .ret,l,w=>results P fn.results.toList K l w
 | _,_,_=>False
def X1f (K:Value→World→Prop) (e:Ending) (w:World):Prop:=match e with | .returned v=>K v w | _=>False
theorem getD_get (a:Array Value) (t:Nat):a.getD t undef=get a.toList t:=by
 simp[get,List.getD_eq_getElem?_getD]
theorem X0U (vs:List Value):(if h:vs.toArray.size=1 then vs.toArray[0] else Value.tuple vs.toArray)=Q3c vs:=by
 match vs with
 | []=>rfl
 | [v]=>rfl
 | _::_::_=>rfl
theorem Q2I (P:Program) (l:List Value) (K:List Value→World→Prop) (f:ResultVar→Sem Value)
 (c: ∀t,f (.tmp t)=Pure.pure (get l t)) (d: ∀a t,f (.cell a t)=(do loadVar t (←asAddr (get l a)))): ∀(e:List ResultVar) (b:List Value) (w:World),Q79 P l K e b w→
 ∃vs,(e.mapM f).run P w= .ok vs w∧K (b.reverse++vs) w
 | [],b,w,h=>⟨[],by simp,by rw[List.append_nil];exact h⟩
 | .tmp t::e,b,w,h=>by
  obtain ⟨vs,i,g⟩:=Q2I P l K f c d e _ w h
  refine ⟨get l t::vs,?_,by simpa using g⟩
  rw[List.mapM_cons,c]
  simp[i]
 | .cell a t::e,b,w,h=>by
  simp only[Q79,Q3i] at h
  obtain ⟨v,j,h⟩:=h
  obtain ⟨vs,i,g⟩:=Q2I P l K f c d e _ w h
  refine ⟨v::vs,?_,by simpa using g⟩
  rw[List.mapM_cons,d,Sem.run_bind,j]
  simp[i]
def X4n (a:Array Value):ResultVar→Sem Value
 | .tmp t=>Pure.pure (a.getD t undef)
 | .cell b t=>do loadVar t (←asAddr (a.getD b undef))
theorem Q5J (fn:Func) (a:Array Value):Go.results fn a=(do
 let vs←fn.results.mapM (X4n a)
 Pure.pure (if h:vs.size=1 then vs[0] else .tuple vs)):=by
 unfold Go.results
 congr 1
theorem Q1Y (P:Program) (fn:Func) (K:Value→World→Prop) (a:Array Value) (w:World) (h:results P fn.results.toList K a.toList w):
 ∃v,(Go.results fn a).run P w= .ok v w∧K v w:=by
 rw[Q5J,Array.mapM_eq_mapM_toList]
 obtain ⟨vs,b,c⟩:=Q2I P a.toList (fun vs w=>K (Q3c vs) w) (X4n a) (fun t=>by rw[←getD_get];rfl) (fun d t=>by rw[←getD_get];rfl) fn.results.toList [] w h
 refine ⟨Q3c vs,?_,by simpa using c⟩
 rw[Sem.run_bind,Sem.run_map,b]
 simp only[Result.andThen_ok,Sem.run_pure,X0U]
def Q0q (fn:Func) (a:List Value):List Value:=a++List.replicate (fn.ntmps-a.length) undef
theorem Q6k {P:Program} {f:FuncId} {fn:Func} {c:Code} {b:List Value} {w:World} {K:Value→World→Prop} (d:List (Option (List Nat)))
 (k:P.funcs[f]? =some fn) (j:fn.body=some c) (h:Np P d 0 c (Q9L P fn K) (Q0q fn b) w):Calls P f b.toArray w (X1f K):=by
 refine calls_of_wp k j (wp_mono (X0q P d c 0 (Q9L P fn K) _ w rfl ?_) ?_)
 ·have:(b.toArray++Array.replicate (fn.ntmps-b.toArray.size) undef).toList=Q0q fn b:=by simp[Q0q]
  simp only[this];exact h
 ·intro e a w ⟨i,g⟩
  cases e with
  | normal=>exact ⟨i,Q1Y P fn K _ _ g⟩
  | ret=>exact ⟨i,Q1Y P fn K _ _ g⟩
  | _=>exact g.elim
theorem Vt {P:Program} {f:FuncId} {fn:Func} {a:List Value} {w:World} {K:Value→World→Prop}
 (i:P.funcs[f]? =some fn) (d:fn.body.isSome=true) (k:(fn.name== "runtime.NumGoroutine")=false) (h:Calls P f a.toArray w (X1f K)):Q0 P f a w K:=by
 have j:(callFunc f a.toArray).run P w= .ok (.enter f a.toArray) w:=by
  unfold callFunc
  simp only[Sem.run_bind,run_program,Result.andThen_ok,i,k,Bool.false_eq_true,if_false]
  cases b:fn.body with
  | none=>rw[b] at d;cases d
  | some c=>simp
 unfold Q0
 rw[Qj]
 unfold P7
 rw[j]
 refine h.mono fun e w' g=>?_
 cases e<;>exact g
theorem Q4f {P:Program} {f:FuncId} {fn:Func} {a:List Value} {w:World} {K:Value→World→Prop}
 (i:P.funcs[f]? =some fn) (d:fn.body.isSome=true) (k:(fn.name== "runtime.NumGoroutine")=false) (h:Q0 P f a w K):Calls P f a.toArray w (X1f K):=by
 have j:(callFunc f a.toArray).run P w= .ok (.enter f a.toArray) w:=by
  unfold callFunc
  simp only[Sem.run_bind,run_program,Result.andThen_ok,i,k,Bool.false_eq_true,if_false]
  cases b:fn.body with
  | none=>rw[b] at d;cases d
  | some c=>simp
 unfold Q0 at h
 rw[Qj] at h
 unfold P7 at h
 rw[j] at h
 refine Calls.mono h fun e w' g=>?_
 cases e<;>exact g
theorem X3e {P:Program} {f:FuncId} {fn:Func} {b:List Value} {w:World} {K:Value→World→Prop} (a:W1)
 (e:P.funcs[f]? =some fn) (d:fn.body.isSome=true) (i:(fn.name== "runtime.NumGoroutine")=false)
 (h:Vs P a a.slots 0 (fn.body.getD .skip) (Q9L P fn K) (Q0q fn b) w):Q0 P f b w K:=by
 refine Vt e d i ?_
 obtain ⟨c,g⟩:=Option.isSome_iff_exists.1 d
 rw[g] at h
 exact Q6k a.slots e g (X1s P a c 0 _ _ _ _ (fun _ _ _ h=>h) h)
theorem Q9 {P:Program} {f:FuncId} {fn:Func} {a:List Value} {w:World} {K:Value→World→Prop} {g:Prop} (b:W1)
 (d:P.funcs[f]? =some fn) (c:fn.body.isSome=true) (i:(fn.name== "runtime.NumGoroutine")=false)
 (e:g=Vs P b b.slots 0 (fn.body.getD .skip) (Q9L P fn K) (Q0q fn a) w) (h:g):Q0 P f a w K:=
 X3e b d c i (e▸h)
theorem X9 {P:Program} {f:FuncId} {first caps:List Value} {a:List Value} {w:World} {K:Value→World→Prop} (h:Q0 P f (first++a++caps) w K):Z5 P (.func (.func f) first.toArray caps.toArray) a w K:=by
 simpa [Z5,Q0,Deferred.ofValue,invoke,pure_bind,List.append_toArray] using h
end Go.Emb

namespace Go.Proofs.YtfppjenblllfaaaGreatDoor
noncomputable abbrev P : Program := Tryz.prog
namespace F
abbrev c6 : Nat := 6
abbrev aD : Nat := 10
abbrev ai : Nat := 11
abbrev bR : Nat := 12
abbrev cE : Nat := 13
abbrev aa : Nat := 15
abbrev cL : Nat := 16
abbrev aH : Nat := 18
abbrev ce : Nat := 19
abbrev r : Nat := 20
abbrev cP : Nat := 25
abbrev aB : Nat := 26
abbrev bS : Nat := 27
abbrev c7 : Nat := 28
abbrev aN : Nat := 29
abbrev aO : Nat := 31
abbrev a6 : Nat := 32
abbrev bn : Nat := 34
abbrev b : Nat := 35
abbrev cF : Nat := 36
abbrev c : Nat := 37
abbrev bK : Nat := 38
abbrev z : Nat := 39
abbrev ae : Nat := 40
abbrev n : Nat := 41
abbrev cG : Nat := 44
abbrev cw : Nat := 45
abbrev cx : Nat := 46
abbrev bo : Nat := 47
abbrev s : Nat := 48
abbrev bv : Nat := 49
abbrev bw : Nat := 50
abbrev bd : Nat := 51
abbrev bx : Nat := 52
abbrev bz : Nat := 53
abbrev d : Nat := 54
abbrev bp : Nat := 55
abbrev aI : Nat := 56
abbrev b1 : Nat := 57
abbrev be : Nat := 58
abbrev af : Nat := 59
abbrev h : Nat := 60
abbrev bL : Nat := 61
abbrev aj : Nat := 62
abbrev bT : Nat := 63
abbrev bc : Nat := 64
abbrev b2 : Nat := 65
abbrev aP : Nat := 66
abbrev bf : Nat := 67
abbrev b3 : Nat := 68
abbrev bU : Nat := 69
abbrev i : Nat := 70
abbrev a7 : Nat := 71
abbrev aE : Nat := 72
abbrev b4 : Nat := 73
abbrev bV : Nat := 74
abbrev aJ : Nat := 75
abbrev bg : Nat := 76
abbrev b5 : Nat := 77
abbrev b6 : Nat := 78
abbrev aQ : Nat := 79
abbrev br : Nat := 80
abbrev bh : Nat := 81
abbrev bs : Nat := 82
abbrev b7 : Nat := 83
abbrev b8 : Nat := 84
abbrev aR : Nat := 85
abbrev bA : Nat := 86
abbrev cT : Nat := 87
abbrev cg : Nat := 88
abbrev am : Nat := 89
abbrev cQ : Nat := 90
abbrev cu : Nat := 91
abbrev ak : Nat := 92
abbrev cH : Nat := 94
abbrev cy : Nat := 95
abbrev ab : Nat := 96
abbrev c8 : Nat := 97
abbrev bi : Nat := 98
abbrev y : Nat := 99
abbrev c9 : Nat := 100
abbrev e : Nat := 101
abbrev a0 : Nat := 102
abbrev aG : Nat := 103
abbrev aK : Nat := 104
abbrev an : Nat := 105
abbrev ao : Nat := 106
abbrev b0 : Nat := 107
abbrev a : Nat := 108
abbrev aL : Nat := 109
abbrev ch : Nat := 110
abbrev aF : Nat := 111
abbrev bM : Nat := 112
abbrev bB : Nat := 113
abbrev bC : Nat := 114
abbrev bD : Nat := 115
abbrev aS : Nat := 116
abbrev bq : Nat := 117
abbrev c4 : Nat := 118
abbrev bE : Nat := 119
abbrev l : Nat := 120
abbrev aT : Nat := 121
abbrev cz : Nat := 122
abbrev g : Nat := 123
abbrev aU : Nat := 124
abbrev cv : Nat := 125
abbrev m : Nat := 126
abbrev b9 : Nat := 127
abbrev bj : Nat := 128
abbrev aV : Nat := 129
abbrev bk : Nat := 130
abbrev aq : Nat := 131
abbrev a1 : Nat := 132
abbrev bl : Nat := 133
abbrev al : Nat := 134
abbrev aA : Nat := 135
abbrev bN : Nat := 138
abbrev bF : Nat := 139
abbrev c5 : Nat := 140
abbrev ci : Nat := 141
abbrev ah : Nat := 142
abbrev cn : Nat := 143
abbrev co : Nat := 144
abbrev a8 : Nat := 145
abbrev aW : Nat := 146
abbrev cp : Nat := 147
abbrev aC : Nat := 148
abbrev cq : Nat := 149
abbrev au : Nat := 150
abbrev cr : Nat := 151
abbrev av : Nat := 152
abbrev bJ : Nat := 153
abbrev bW : Nat := 154
abbrev ap : Nat := 155
abbrev bm : Nat := 156
abbrev ac : Nat := 157
abbrev ad : Nat := 158
abbrev x : Nat := 159
abbrev ca : Nat := 160
abbrev o : Nat := 161
abbrev ag : Nat := 162
abbrev cj : Nat := 163
abbrev k : Nat := 164
abbrev cR : Nat := 165
abbrev aX : Nat := 166
abbrev t : Nat := 167
abbrev cB : Nat := 168
abbrev aY : Nat := 169
abbrev f : Nat := 170
abbrev w : Nat := 171
abbrev a2 : Nat := 172
abbrev a3 : Nat := 173
abbrev ba : Nat := 174
abbrev aM : Nat := 175
abbrev bO : Nat := 176
abbrev ar : Nat := 177
abbrev cA : Nat := 178
abbrev ck : Nat := 179
abbrev a9 : Nat := 183
abbrev cb : Nat := 184
abbrev cC : Nat := 185
abbrev cc : Nat := 186
abbrev aw : Nat := 187
abbrev cl : Nat := 188
abbrev cs : Nat := 189
abbrev j : Nat := 190
abbrev cd : Nat := 191
abbrev bZ : Nat := 192
abbrev c0 : Nat := 193
abbrev bX : Nat := 194
abbrev bt : Nat := 195
abbrev ax : Nat := 196
abbrev bu : Nat := 197
abbrev cI : Nat := 198
abbrev ay : Nat := 199
abbrev cU : Nat := 203
abbrev aZ : Nat := 204
abbrev bb : Nat := 205
abbrev cf : Nat := 206
abbrev cJ : Nat := 207
abbrev cV : Nat := 211
abbrev ct : Nat := 212
abbrev p : Nat := 213
abbrev c1 : Nat := 214
abbrev cm : Nat := 215
abbrev cM : Nat := 216
abbrev q : Nat := 217
abbrev c2 : Nat := 218
abbrev bG : Nat := 221
abbrev bP : Nat := 222
abbrev az : Nat := 223
abbrev a4 : Nat := 224
abbrev cN : Nat := 225
abbrev bY : Nat := 226
abbrev cD : Nat := 227
abbrev cO : Nat := 228
abbrev a5 : Nat := 229
abbrev bH : Nat := 232
abbrev bI : Nat := 233
abbrev cK : Nat := 234
abbrev c3 : Nat := 235
abbrev v : Nat := 236
abbrev cS : Nat := 237
abbrev bQ : Nat := 240
abbrev u : Nat := 242
end F
namespace T
abbrev x : Nat := 0
abbrev ac : Nat := 2
abbrev e : Nat := 3
abbrev p : Nat := 4
abbrev w : Nat := 5
abbrev a : Nat := 9
abbrev ao : Nat := 12
abbrev ag : Nat := 21
abbrev b : Nat := 22
abbrev f : Nat := 24
abbrev r : Nat := 25
abbrev h : Nat := 26
abbrev s : Nat := 31
abbrev n : Nat := 37
abbrev q : Nat := 38
abbrev d : Nat := 40
abbrev k : Nat := 42
abbrev al : Nat := 43
abbrev y : Nat := 48
abbrev z : Nat := 51
abbrev m : Nat := 68
abbrev j : Nat := 71
abbrev v : Nat := 76
abbrev u : Nat := 78
abbrev i : Nat := 79
abbrev g : Nat := 80
abbrev c : Nat := 82
abbrev l : Nat := 89
abbrev a1 : Nat := 92
abbrev a0 : Nat := 94
abbrev ai : Nat := 104
abbrev a4 : Nat := 107
abbrev ah : Nat := 116
abbrev aj : Nat := 121
abbrev t : Nat := 124
abbrev a2 : Nat := 127
abbrev a7 : Nat := 128
abbrev a5 : Nat := 133
abbrev a3 : Nat := 152
abbrev a9 : Nat := 155
abbrev o : Nat := 159
abbrev aa : Nat := 180
abbrev ab : Nat := 183
abbrev am : Nat := 186
abbrev ae : Nat := 188
abbrev ap : Nat := 199
abbrev an : Nat := 200
abbrev ad : Nat := 202
abbrev af : Nat := 203
abbrev a6 : Nat := 206
abbrev a8 : Nat := 207
abbrev ak : Nat := 214
abbrev aq : Nat := 217
abbrev ar : Nat := 220
end T
namespace G
abbrev b : Nat := 0
abbrev e : Nat := 1
abbrev d : Nat := 2
abbrev c : Nat := 3
abbrev a : Nat := 4
end G
end Go.Proofs.YtfppjenblllfaaaGreatDoor

set_option maxRecDepth 100000
namespace Go.Proofs.YtfppjenblllfaaaGreatDoor
open Go.Emb
def Ja (g h:Value) (w:World) (K:Value→World→Prop):Prop:= nilCheck P g w fun e w=>fieldAddr P T.u e 1 w fun d w=>Q2 P T.v d w fun c w=>lookup P T.v c h true w fun a w=>ext P a 0 w fun f w=>ext P a 1 w fun b w=>K b w
theorem Dw {a b:Value} {w:World} {K:Value→World→Prop} (h:Ja a b w K):Q0 P F.n [a,b] w K:=Q9 (List.replicate 3 none) Tryz.func41 rfl (by decide) (by kernel_rfl) h
def Q6u:W1:=[none,none,none,none,some ([1,10],[1,3,10,11,12,13,14,15,16,17,18]),none,none,none,none,none]
def Q0u (w:World) (K:Value→World→Prop):Prop:= O4 P T.c [(0,(.string ⟨#[79,98,106,101,99,116]⟩))] w fun m w=>O4 P T.l [(0,(.string ⟨#[119,104,97,116]⟩)),(1,(.string ⟨#[116,101,120,116]⟩))] w fun j w=>buildSlice P T.i 1 [(0,j)] w fun l w=>O4 P T.c [(0,(.string ⟨#[70,97,117,108,116]⟩)),(1,(.string ⟨#[79,98,106,101,99,116]⟩)),(6,l)] w fun k w=>buildSlice P T.h 2 [(0,m),(1,k)] w fun n w=>Q2 P T.ah (.pointer (some ⟨G.b,0,none⟩)) w fun i w=>lp (α:=Value×Value) (n,(.int .i64 0)) w fun a b o w=>Q3 P .lss T.e (.tmp 10) (.const (.int .i64 6)) b.2 (.int .i64 6) w fun f w=>X1 f (H2 P T.ah i b.2 w fun e w=>O4 P T.c [(0,e),(1,(.string ⟨#[70,97,117,108,116]⟩)),(5,(.bool true))] w fun c w=>buildSlice P T.h 1 [(0,c)] w fun h w=>X5 P .append [T.h,T.h] T.h [false,false] [b.1,h] w fun d w=>Q3 P .add T.e (.tmp 10) (.const (.int .i64 1)) b.2 (.int .i64 1) w fun g w=>a (d,g) w) (K b.1 w)
theorem Q78 {w:World} {K:Value→World→Prop} (h:Q0u w K):Q0 P F.cG [] w K:=Q9 Q6u Tryz.func44 rfl (by decide) (by kernel_rfl) h
def Q7a:W1:=[none,none,none,some ([8],[2,4,8,9,10,11,12,13,14,15,16,17,18,19,20,21,22,23,24,25,26,27,28,29,30,31,32,33]),none,none,none,none,none,none,none]
def Q0V (Z:Value) (w:World) (K:Value→World→Prop):Prop:= box P T.c Z w fun b w=>fieldAddr P T.c b 7 w fun Y w=>Q2 P T.g Y w fun W w=>X5 P .len [T.g] T.e [false] [W] w fun X w=>lp (α:=Value) (.int .i64 0) w fun h y d_ w=>Q3 P .lss T.e (.tmp 8) (.tmp 7) y X w fun t9 w=>X1 t9 (indexAddr P T.g W y w fun O w=>Q2 P T.d O w fun k w=>W6 P T.d w fun a w=>Z4 P T.d a k w fun _u w=>fieldAddr P T.d a 1 w fun t w=>Q2 P T.b t w fun Q w=>X5 P .len [T.b] T.e [false] [Q] w fun L w=>Q3 P .gtr T.e (.tmp 14) (.const (.int .i64 32)) L (.int .i64 32) w fun c w=>Q1 c false w (fieldAddr P T.d a 6) fun p w=>Q1 c false w (Q2 P T.q p) fun l w=>Q1 c false w (X5 P .len [T.q] T.e [false] [l]) fun z w=>Q1 c false w (Q3 P .gtr T.e (.tmp 19) (.const (.int .i64 32)) z (.int .i64 32)) fun E w=>pick P c (.bool true) E w fun e w=>Q1 e false w (fieldAddr P T.d a 5) fun q w=>Q1 e false w (Q2 P T.n q) fun r w=>Q1 e false w (X5 P .len [T.n] T.e [false] [r]) fun s w=>Q1 e false w (Q3 P .gtr T.e (.tmp 25) (.const (.int .i64 200)) s (.int .i64 200)) fun B w=>pick P e (.bool true) B w fun g w=>Q1 g false w (fieldAddr P T.d a 4) fun D w=>Q1 g false w (Q2 P T.e D) fun m w=>Q1 g false w (Q3 P .gtr T.e (.tmp 30) (.const (.int .i64 64)) m (.int .i64 64)) fun i w=>pick P g (.bool true) i w fun V w=>X1 V (K (.bool true) w) (Q3 P .add T.e (.tmp 8) (.const (.int .i64 1)) y (.int .i64 1) w fun C w=>h C w)) (fieldAddr P T.c b 2 w fun R w=>Q2 P T.b R w fun J w=>X5 P .len [T.b] T.e [false] [J] w fun v w=>Q3 P .gtr T.e (.tmp 36) (.const (.int .i64 32)) v (.int .i64 32) w fun d w=>Q1 d false w (fieldAddr P T.c b 6) fun A w=>Q1 d false w (Q2 P T.i A) fun M w=>Q1 d false w (X5 P .len [T.i] T.e [false] [M]) fun U w=>Q1 d false w (Q3 P .gtr T.e (.tmp 41) (.const (.int .i64 32)) U (.int .i64 32)) fun H w=>pick P d (.bool true) H w fun f w=>Q1 f false w (fieldAddr P T.c b 7) fun n w=>Q1 f false w (Q2 P T.g n) fun o w=>Q1 f false w (X5 P .len [T.g] T.e [false] [o]) fun j w=>Q1 f false w (Q3 P .gtr T.e (.tmp 47) (.const (.int .i64 32)) j (.int .i64 32)) fun N w=>pick P f (.bool true) N w fun u w=>K u w)
theorem Q77 {a:Value} {w:World} {K:Value→World→Prop} (h:Q0V a w K):Q0 P F.cH [a] w K:=Q9 Q7a Tryz.func94 rfl (by decide) (by kernel_rfl) h
def Q8X:W1:=[none,none,none,some ([],[4,6,9,10,11,12,13,14,15]),none,none,none,none,none,none]
def Q3h (g h:Value) (w:World) (K:Value→World→Prop):Prop:= rng P T.a g w fun i w=>lp (α:=Unit) () w fun a k j w=>J6 P i true T.x w fun f w=>ext P f 0 w fun e w=>X1 e (ext P f 2 w fun d w=>Z5 P h [d] w fun c w=>J4 P .not c w fun b w=>X1 b (K (.bool false) w) (a () w)) (K (.bool true) w)
theorem Q9m {a b:Value} {w:World} {K:Value→World→Prop} (h:Q3h a b w K):Q0 P F.cC [a,b] w K:=Q9 Q8X Tryz.func185 rfl (by decide) (by kernel_rfl) h
def Q0U (b:Value) (w:World) (K:Value→World→Prop):Prop:= Q3 P .geq T.ag (.tmp 3) (.const (.int .i32 65)) b (.int .i32 65) w fun a w=>Q1 a true w (fun w J=>J b w) fun d w=>Q1 a true w (Q3 P .leq T.ag (.tmp 6) (.const (.int .i32 90)) d (.int .i32 90)) fun c w=>pick P a c (.bool false) w fun e w=>K e w
theorem Q6C {a:Value} {w:World} {K:Value→World→Prop} (h:Q0U a w K):Q0 P F.ci [a] w K:=Q9 (List.replicate 2 none) Tryz.func141 rfl (by decide) (by kernel_rfl) h
def Q1f (b:Value) (w:World) (K:Value→World→Prop):Prop:= Q3 P .geq T.ag (.tmp 3) (.const (.int .i32 97)) b (.int .i32 97) w fun a w=>Q1 a true w (fun w J=>J b w) fun d w=>Q1 a true w (Q3 P .leq T.ag (.tmp 6) (.const (.int .i32 122)) d (.int .i32 122)) fun c w=>pick P a c (.bool false) w fun e w=>K e w
theorem Q6x {a:Value} {w:World} {K:Value→World→Prop} (h:Q1f a w K):Q0 P F.ck [a] w K:=Q9 (List.replicate 2 none) Tryz.func179 rfl (by decide) (by kernel_rfl) h
def Tf (c:Value) (w:World) (K:Value→World→Prop):Prop:= Q0 P F.ci [c] w fun h w=>Q1 h false w (fun w J=>J c w) fun l w=>Q1 h false w (Q0 P F.ck [l]) fun k w=>pick P h (.bool true) k w fun b w=>Q1 b false w (fun w J=>J c w) fun g w=>Q1 b false w (Q3 P .geq T.ag (.tmp 10) (.const (.int .i32 48)) g (.int .i32 48)) fun f w=>Q1 b false w (fun w J=>J f w) fun a w=>Q1 a true w (fun w J=>J c w) fun i w=>Q1 a true w (Q3 P .leq T.ag (.tmp 13) (.const (.int .i32 57)) i (.int .i32 57)) fun e w=>Q1 b false w (pick P a e (.bool false)) fun d w=>pick P b (.bool true) d w fun j w=>K j w
theorem Q5n {a:Value} {w:World} {K:Value→World→Prop} (h:Tf a w K):Q0 P F.cc [a] w K:=Q9 (List.replicate 2 none) Tryz.func186 rfl (by decide) (by kernel_rfl) h
def Q2b (c:Value) (w:World) (K:Value→World→Prop):Prop:= Q3 P .eql T.a (.tmp 3) (.const (.string ⟨#[]⟩)) c (.string ⟨#[]⟩) w fun d w=>Q1 d false w (fun w J=>J c w) fun o w=>Q1 d false w (X5 P .len [T.a] T.e [false] [o]) fun n w=>Q1 d false w (Q3 P .gtr T.e (.tmp 7) (.const (.int .i64 32)) n (.int .i64 32)) fun p w=>pick P d (.bool true) p w fun b w=>Q1 b false w (fun w J=>J c w) fun f w=>Q1 b false w (H2 P T.a f (.int .i64 0)) fun j w=>Q1 b false w (Q3 P .geq T.w (.tmp 12) (.const (.int .u8 48)) j (.int .u8 48)) fun m w=>Q1 b false w (fun w J=>J m w) fun a w=>Q1 a true w (fun w J=>J c w) fun e w=>Q1 a true w (H2 P T.a e (.int .i64 0)) fun h w=>Q1 a true w (Q3 P .leq T.w (.tmp 16) (.const (.int .u8 57)) h (.int .u8 57)) fun i w=>Q1 b false w (pick P a i (.bool false)) fun g w=>pick P b (.bool true) g w fun l w=>X1 l (K (.bool false) w) (Q0 P F.cC [c,(.func (.func F.cc) #[] #[])] w fun k w=>K k w)
theorem Q7E {a:Value} {w:World} {K:Value→World→Prop} (h:Q2b a w K):Q0 P F.c5 [a] w K:=Q9 (List.replicate 5 none) Tryz.func140 rfl (by decide) (by kernel_rfl) h
def Q0N (c:Value) (w:World) (K:Value→World→Prop):Prop:= Q0 P F.c5 [c] w fun a w=>Q1 a true w (fun w J=>J c w) fun f w=>Q1 a true w (H2 P T.a f (.int .i64 0)) fun e w=>Q1 a true w (conv P T.w T.ag e) fun g w=>Q1 a true w (Q0 P F.ci [g]) fun d w=>pick P a d (.bool false) w fun b w=>K b w
theorem Q5N {a:Value} {w:World} {K:Value→World→Prop} (h:Q0N a w K):Q0 P F.ak [a] w K:=Q9 (List.replicate 2 none) Tryz.func92 rfl (by decide) (by kernel_rfl) h
def Xb:W1:=[none,none,none,some ([8],[4,5,8,9,10,11,12,13,14,15,16,17,18]),none,none,none,none,none,none,none]
def C0 (g j:Value) (w:World) (K:Value→World→Prop):Prop:= X5 P .len [T.g] T.e [false] [g] w fun i w=>lp (α:=Value) (.int .i64 0) w fun a b k w=>Q3 P .lss T.e (.tmp 8) (.tmp 7) b i w fun h w=>X1 h (indexAddr P T.g g b w fun d w=>Q2 P T.d d w fun c w=>Z5 P j [c] w fun f w=>X1 f (K b w) (Q3 P .add T.e (.tmp 8) (.const (.int .i64 1)) b (.int .i64 1) w fun e w=>a e w)) (K (.int .i64 (-1)) w)
theorem Xm {a b:Value} {w:World} {K:Value→World→Prop} (h:C0 a b w K):Q0 P F.k [a,b] w K:=Q9 Xb Tryz.func164 rfl (by decide) (by kernel_rfl) h
def H5 (b c:Value) (w:World) (K:Value→World→Prop):Prop:= Q0 P F.k [b,c] w fun a w=>Q3 P .geq T.e (.tmp 7) (.const (.int .i64 0)) a (.int .i64 0) w fun d w=>K d w
theorem T7 {a b:Value} {w:World} {K:Value→World→Prop} (h:H5 a b w K):Q0 P F.a [a,b] w K:=Q9 (List.replicate 2 none) Tryz.func108 rfl (by decide) (by kernel_rfl) h
def Mk:W1:=[none,none,none,some ([8],[4,5,8,9,10,11,12,13,14,15,16,17,18]),none,none,none,none,none,none,none]
def A0 (g j:Value) (w:World) (K:Value→World→Prop):Prop:= X5 P .len [T.b] T.e [false] [g] w fun i w=>lp (α:=Value) (.int .i64 0) w fun a b k w=>Q3 P .lss T.e (.tmp 8) (.tmp 7) b i w fun h w=>X1 h (indexAddr P T.b g b w fun d w=>Q2 P T.a d w fun c w=>Q3 P .eql T.a (.tmp 11) (.tmp 15) j c w fun f w=>X1 f (K b w) (Q3 P .add T.e (.tmp 8) (.const (.int .i64 1)) b (.int .i64 1) w fun e w=>a e w)) (K (.int .i64 (-1)) w)
theorem Mu {a b:Value} {w:World} {K:Value→World→Prop} (h:A0 a b w K):Q0 P F.aw [a,b] w K:=Q9 Mk Tryz.func187 rfl (by decide) (by kernel_rfl) h
def K8 (b c:Value) (w:World) (K:Value→World→Prop):Prop:= Q0 P F.aw [b,c] w fun a w=>Q3 P .geq T.e (.tmp 7) (.const (.int .i64 0)) a (.int .i64 0) w fun d w=>K d w
theorem Vf {a b:Value} {w:World} {K:Value→World→Prop} (h:K8 a b w K):Q0 P F.ah [a,b] w K:=Q9 (List.replicate 2 none) Tryz.func142 rfl (by decide) (by kernel_rfl) h
def Bd (c:Value) (w:World) (K:Value→World→Prop):Prop:= box P T.d c w fun a w=>fieldAddr P T.d a 3 w fun b w=>Q2 P T.p b w fun d w=>K d w
theorem Q3C {a:Value} {w:World} {K:Value→World→Prop} (h:Bd a w K):Q0 P F.cn [a] w K:=Q9 (List.replicate 2 none) Tryz.func143 rfl (by decide) (by kernel_rfl) h
def Cp (d:Value) (w:World) (K:Value→World→Prop):Prop:= box P T.d d w fun a w=>fieldAddr P T.d a 3 w fun c w=>Q2 P T.p c w fun e w=>J4 P .not e w fun b w=>K b w
theorem Q3o {a:Value} {w:World} {K:Value→World→Prop} (h:Cp a w K):Q0 P F.co [a] w K:=Q9 (List.replicate 2 none) Tryz.func144 rfl (by decide) (by kernel_rfl) h
def Up:W1:=[none,none,none,some ([8],[4,5,8,9,10,11,12,13,14,15,16,17,18]),none,none,none,none,none,none,none]
def K2 (g j:Value) (w:World) (K:Value→World→Prop):Prop:= X5 P .len [T.b] T.e [false] [g] w fun i w=>lp (α:=Value) (.int .i64 0) w fun a b k w=>Q3 P .lss T.e (.tmp 8) (.tmp 7) b i w fun h w=>X1 h (indexAddr P T.b g b w fun d w=>Q2 P T.a d w fun c w=>Z5 P j [c] w fun f w=>X1 f (K b w) (Q3 P .add T.e (.tmp 8) (.const (.int .i64 1)) b (.int .i64 1) w fun e w=>a e w)) (K (.int .i64 (-1)) w)
theorem Ut {a b:Value} {w:World} {K:Value→World→Prop} (h:K2 a b w K):Q0 P F.x [a,b] w K:=Q9 Up Tryz.func159 rfl (by decide) (by kernel_rfl) h
def G0 (b c:Value) (w:World) (K:Value→World→Prop):Prop:= Q0 P F.x [b,c] w fun a w=>Q3 P .geq T.e (.tmp 7) (.const (.int .i64 0)) a (.int .i64 0) w fun d w=>K d w
theorem Zn {a b:Value} {w:World} {K:Value→World→Prop} (h:G0 a b w K):Q0 P F.e [a,b] w K:=Q9 (List.replicate 2 none) Tryz.func101 rfl (by decide) (by kernel_rfl) h
def Vg (c d:Value) (w:World) (K:Value→World→Prop):Prop:= Q2 P T.y d w fun e w=>Z5 P e [c] w fun b w=>J4 P .not b w fun a w=>K a w
theorem By {a b:Value} {w:World} {K:Value→World→Prop} (h:Vg a b w K):Q0 P F.cl [a,b] w K:=Q9 (List.replicate 2 none) Tryz.func188 rfl (by decide) (by kernel_rfl) h
def Mt (d e:Value) (w:World) (K:Value→World→Prop):Prop:= box P T.y e w fun a w=>N7 P (.func F.cl) [] [a] w fun c w=>Q0 P F.e [d,c] w fun b w=>J4 P .not b w fun f w=>K f w
theorem Kp {a b:Value} {w:World} {K:Value→World→Prop} (h:Mt a b w K):Q0 P F.a8 [a,b] w K:=Q9 (List.replicate 2 none) Tryz.func145 rfl (by decide) (by kernel_rfl) h
def Wx (o l n:Value) (w:World) (K:Value→World→Prop):Prop:= dr w fun a b=>Q6 a (fun c=> ∀w,b w→Q2 P T.a5 l w (dk a c w)) fun c=>Q6 a (fun i=> ∀d w,b w→c d w→Z5 P d [o] w (dk a i w)) fun i=>Q6 a (fun e=> ∀w,b w→Q2 P T.a5 l w (dk a e w)) fun e=>Q6 a (fun h=> ∀w,b w→Q2 P T.a n w (dk a h w)) fun h=>∀d k m j w,b w→c d w→i k w→e m w→h j w→ Z5 P m [j] w fun g w=>Q3 P .eql T.a (.tmp 7) (.tmp 10) k g w fun f w=>K f w
theorem Gb {b c a:Value} {w:World} {K:Value→World→Prop} (h:Wx b c a w K):Q0 P F.cs [b,c,a] w K:=Q9 (List.replicate 2 none) Tryz.func189 rfl (by decide) (by kernel_rfl) h
def Ax:W1:=[none,none,none,some ([9],[4,5,6,9,10,11,12,13,14,15,16,17,18,19]),none,none,none,none,none,none,none]
def On (h m:Value) (w:World) (K:Value→World→Prop):Prop:= box P T.a5 m w fun a w=>X5 P .len [T.b] T.e [false] [h] w fun n w=>lp (α:=Value) (.int .i64 0) w fun c d o w=>Q3 P .lss T.e (.tmp 9) (.tmp 8) d n w fun j w=>X1 j (indexAddr P T.b h d w fun f w=>Q2 P T.a f w fun k w=>W6 P T.a w fun b w=>Z4 P T.a b k w fun _u w=>R5 P T.b h none (some d) none w fun l w=>N7 P (.func F.cs) [] [a,b] w fun e w=>Q0 P F.e [l,e] w fun i w=>X1 i (K (.bool false) w) (Q3 P .add T.e (.tmp 9) (.const (.int .i64 1)) d (.int .i64 1) w fun g w=>c g w)) (K (.bool true) w)
theorem Ac {a b:Value} {w:World} {K:Value→World→Prop} (h:On a b w K):Q0 P F.aW [a,b] w K:=Q9 Ax Tryz.func146 rfl (by decide) (by kernel_rfl) h
def Q3B (a:Value) (w:World) (K:Value→World→Prop):Prop:= K a w
theorem Q3r {a:Value} {w:World} {K:Value→World→Prop} (h:Q3B a w K):Q0 P F.cp [a] w K:=Q9 (List.replicate 2 none) Tryz.func147 rfl (by decide) (by kernel_rfl) h
def Ye:W1:=[none,none,none,some ([8],[4,5,8,9,10,11,12,13,14,15,16,17,18]),none,none,none,none,none,none,none]
def B0 (g j:Value) (w:World) (K:Value→World→Prop):Prop:= X5 P .len [T.i] T.e [false] [g] w fun i w=>lp (α:=Value) (.int .i64 0) w fun a b k w=>Q3 P .lss T.e (.tmp 8) (.tmp 7) b i w fun h w=>X1 h (indexAddr P T.i g b w fun d w=>Q2 P T.l d w fun c w=>Z5 P j [c] w fun f w=>X1 f (K b w) (Q3 P .add T.e (.tmp 8) (.const (.int .i64 1)) b (.int .i64 1) w fun e w=>a e w)) (K (.int .i64 (-1)) w)
theorem Yc {a b:Value} {w:World} {K:Value→World→Prop} (h:B0 a b w K):Q0 P F.o [a,b] w K:=Q9 Ye Tryz.func161 rfl (by decide) (by kernel_rfl) h
def R7 (b c:Value) (w:World) (K:Value→World→Prop):Prop:= Q0 P F.o [b,c] w fun a w=>Q3 P .geq T.e (.tmp 7) (.const (.int .i64 0)) a (.int .i64 0) w fun d w=>K d w
theorem Qv {a b:Value} {w:World} {K:Value→World→Prop} (h:R7 a b w K):Q0 P F.j [a,b] w K:=Q9 (List.replicate 2 none) Tryz.func190 rfl (by decide) (by kernel_rfl) h
def Zr (q p r:Value) (w:World) (K:Value→World→Prop):Prop:= box P T.l q w fun b w=>dr w fun a c=>Q6 a (fun e=> ∀w,c w→Q2 P T.a3 p w (dk a e w)) fun e=>Q6 a (fun f=> ∀w,c w→Q2 P T.l b w (dk a f w)) fun f=>Q6 a (fun j=> ∀g d w,c w→e g w→f d w→Z5 P g [d] w (dk a j w)) fun j=>Q6 a (fun k=> ∀w,c w→Q2 P T.a3 p w (dk a k w)) fun k=>Q6 a (fun i=> ∀w,c w→Q2 P T.l r w (dk a i w)) fun i=>∀g d m n o w,c w→e g w→f d w→j m w→k n w→i o w→ Z5 P n [o] w fun l w=>Q3 P .eql T.a (.tmp 7) (.tmp 10) m l w fun h w=>K h w
theorem Sh {b c a:Value} {w:World} {K:Value→World→Prop} (h:Zr b c a w K):Q0 P F.cd [b,c,a] w K:=Q9 (List.replicate 2 none) Tryz.func191 rfl (by decide) (by kernel_rfl) h
def Bo:W1:=[none,none,none,some ([9],[4,5,6,9,10,11,12,13,14,15,16,17,18,19]),none,none,none,none,none,none,none]
def Vb (h m:Value) (w:World) (K:Value→World→Prop):Prop:= box P T.a3 m w fun a w=>X5 P .len [T.i] T.e [false] [h] w fun n w=>lp (α:=Value) (.int .i64 0) w fun c d o w=>Q3 P .lss T.e (.tmp 9) (.tmp 8) d n w fun j w=>X1 j (indexAddr P T.i h d w fun f w=>Q2 P T.l f w fun k w=>W6 P T.l w fun b w=>Z4 P T.l b k w fun _u w=>R5 P T.i h none (some d) none w fun l w=>N7 P (.func F.cd) [] [a,b] w fun e w=>Q0 P F.j [l,e] w fun i w=>X1 i (K (.bool false) w) (Q3 P .add T.e (.tmp 9) (.const (.int .i64 1)) d (.int .i64 1) w fun g w=>c g w)) (K (.bool true) w)
theorem Bs {a b:Value} {w:World} {K:Value→World→Prop} (h:Vb a b w K):Q0 P F.aC [a,b] w K:=Q9 Bo Tryz.func148 rfl (by decide) (by kernel_rfl) h
def Be (c:Value) (w:World) (K:Value→World→Prop):Prop:= box P T.l c w fun a w=>fieldAddr P T.l a 0 w fun b w=>Q2 P T.a b w fun d w=>K d w
theorem Q3w {a:Value} {w:World} {K:Value→World→Prop} (h:Be a w K):Q0 P F.cq [a] w K:=Q9 (List.replicate 2 none) Tryz.func149 rfl (by decide) (by kernel_rfl) h
def Zk (q p r:Value) (w:World) (K:Value→World→Prop):Prop:= box P T.d q w fun b w=>dr w fun a c=>Q6 a (fun e=> ∀w,c w→Q2 P T.a2 p w (dk a e w)) fun e=>Q6 a (fun f=> ∀w,c w→Q2 P T.d b w (dk a f w)) fun f=>Q6 a (fun j=> ∀g d w,c w→e g w→f d w→Z5 P g [d] w (dk a j w)) fun j=>Q6 a (fun k=> ∀w,c w→Q2 P T.a2 p w (dk a k w)) fun k=>Q6 a (fun i=> ∀w,c w→Q2 P T.d r w (dk a i w)) fun i=>∀g d m n o w,c w→e g w→f d w→j m w→k n w→i o w→ Z5 P n [o] w fun l w=>Q3 P .eql T.a (.tmp 7) (.tmp 10) m l w fun h w=>K h w
theorem Hs {b c a:Value} {w:World} {K:Value→World→Prop} (h:Zk b c a w K):Q0 P F.bZ [b,c,a] w K:=Q9 (List.replicate 2 none) Tryz.func192 rfl (by decide) (by kernel_rfl) h
def Cl:W1:=[none,none,none,some ([9],[4,5,6,9,10,11,12,13,14,15,16,17,18,19]),none,none,none,none,none,none,none]
def Ul (h m:Value) (w:World) (K:Value→World→Prop):Prop:= box P T.a2 m w fun a w=>X5 P .len [T.g] T.e [false] [h] w fun n w=>lp (α:=Value) (.int .i64 0) w fun c d o w=>Q3 P .lss T.e (.tmp 9) (.tmp 8) d n w fun j w=>X1 j (indexAddr P T.g h d w fun f w=>Q2 P T.d f w fun k w=>W6 P T.d w fun b w=>Z4 P T.d b k w fun _u w=>R5 P T.g h none (some d) none w fun l w=>N7 P (.func F.bZ) [] [a,b] w fun e w=>Q0 P F.a [l,e] w fun i w=>X1 i (K (.bool false) w) (Q3 P .add T.e (.tmp 9) (.const (.int .i64 1)) d (.int .i64 1) w fun g w=>c g w)) (K (.bool true) w)
theorem Ci {a b:Value} {w:World} {K:Value→World→Prop} (h:Ul a b w K):Q0 P F.au [a,b] w K:=Q9 Cl Tryz.func150 rfl (by decide) (by kernel_rfl) h
def Bg (c:Value) (w:World) (K:Value→World→Prop):Prop:= box P T.d c w fun a w=>fieldAddr P T.d a 0 w fun b w=>Q2 P T.a b w fun d w=>K d w
theorem Q39 {a:Value} {w:World} {K:Value→World→Prop} (h:Bg a w K):Q0 P F.cr [a] w K:=Q9 (List.replicate 2 none) Tryz.func151 rfl (by decide) (by kernel_rfl) h
def Zc (e f:Value) (w:World) (K:Value→World→Prop):Prop:= box P T.l e w fun a w=>Q2 P T.a9 f w fun g w=>Q2 P T.l a w fun b w=>Z5 P g [b] w fun d w=>J4 P .not d w fun c w=>K c w
theorem Hy {a b:Value} {w:World} {K:Value→World→Prop} (h:Zc a b w K):Q0 P F.c0 [a,b] w K:=Q9 (List.replicate 2 none) Tryz.func193 rfl (by decide) (by kernel_rfl) h
def Um (d e:Value) (w:World) (K:Value→World→Prop):Prop:= box P T.a9 e w fun a w=>N7 P (.func F.c0) [] [a] w fun c w=>Q0 P F.j [d,c] w fun b w=>J4 P .not b w fun f w=>K f w
theorem Cj {a b:Value} {w:World} {K:Value→World→Prop} (h:Um a b w K):Q0 P F.av [a,b] w K:=Q9 (List.replicate 2 none) Tryz.func152 rfl (by decide) (by kernel_rfl) h
def Q10 (c:Value) (w:World) (K:Value→World→Prop):Prop:= Q3 P .eql T.a (.tmp 3) (.const (.string ⟨#[105,110,116]⟩)) c (.string ⟨#[105,110,116]⟩) w fun e w=>Q1 e false w (fun w J=>J c w) fun h w=>Q1 e false w (Q3 P .eql T.a (.tmp 6) (.const (.string ⟨#[98,111,111,108]⟩)) h (.string ⟨#[98,111,111,108]⟩)) fun g w=>pick P e (.bool true) g w fun f w=>Q1 f false w (fun w J=>J c w) fun d w=>Q1 f false w (Q3 P .eql T.a (.tmp 10) (.const (.string ⟨#[116,101,120,116]⟩)) d (.string ⟨#[116,101,120,116]⟩)) fun b w=>pick P f (.bool true) b w fun a w=>K a w
theorem Q6V {a:Value} {w:World} {K:Value→World→Prop} (h:Q10 a w K):Q0 P F.ae [a] w K:=Q9 (List.replicate 2 none) Tryz.func40 rfl (by decide) (by kernel_rfl) h
def Uj (g i:Value) (w:World) (K:Value→World→Prop):Prop:= X5 P .len [T.a] T.e [false] [g] w fun n w=>X5 P .len [T.a] T.e [false] [i] w fun o w=>Q3 P .geq T.e (.tmp 6) (.tmp 8) n o w fun a w=>Q1 a true w (fun w J=>J g w) fun f w=>Q1 a true w (fun w J=>J g w) fun d w=>Q1 a true w (X5 P .len [T.a] T.e [false] [d]) fun j w=>Q1 a true w (fun w J=>J i w) fun e w=>Q1 a true w (X5 P .len [T.a] T.e [false] [e]) fun c w=>Q1 a true w (Q3 P .sub T.e (.tmp 13) (.tmp 15) j c) fun k w=>Q1 a true w (R5 P T.a f (some k) none none) fun b w=>Q1 a true w (fun w J=>J i w) fun h w=>Q1 a true w (Q3 P .eql T.a (.tmp 17) (.tmp 18) b h) fun l w=>pick P a l (.bool false) w fun m w=>K m w
theorem Ck {a b:Value} {w:World} {K:Value→World→Prop} (h:Uj a b w K):Q0 P F.a9 [a,b] w K:=Q9 (List.replicate 2 none) Tryz.func183 rfl (by decide) (by kernel_rfl) h
def Oi (b c:Value) (w:World) (K:Value→World→Prop):Prop:= Q0 P F.a9 [b,c] w fun a w=>K a w
theorem Tk {a b:Value} {w:World} {K:Value→World→Prop} (h:Oi a b w K):Q0 P F.bN [a,b] w K:=Q9 (List.replicate 2 none) Tryz.func138 rfl (by decide) (by kernel_rfl) h
def Jf (a f:Value) (w:World) (K:Value→World→Prop):Prop:= Q0 P F.a9 [a,f] w fun g w=>X1 g (X5 P .len [T.a] T.e [false] [a] w fun d w=>X5 P .len [T.a] T.e [false] [f] w fun b w=>Q3 P .sub T.e (.tmp 10) (.tmp 12) d b w fun e w=>R5 P T.a a none (some e) none w fun c w=>K c w) (K a w)
theorem Rn {a b:Value} {w:World} {K:Value→World→Prop} (h:Jf a b w K):Q0 P F.cb [a,b] w K:=Q9 (List.replicate 5 none) Tryz.func184 rfl (by decide) (by kernel_rfl) h
def Ma (b c:Value) (w:World) (K:Value→World→Prop):Prop:= Q0 P F.cb [b,c] w fun a w=>K a w
theorem Kz {a b:Value} {w:World} {K:Value→World→Prop} (h:Ma a b w K):Q0 P F.bF [a,b] w K:=Q9 (List.replicate 2 none) Tryz.func139 rfl (by decide) (by kernel_rfl) h
def Q7n:W1:=[none,none,none,some ([0,4],[0,4,5,6,7,8,9,10]),none,none,none]
def Q20 (e:Value) (w:World) (K:Value→World→Prop):Prop:= lp (α:=Value×Value) (e,(.int .i64 0)) w fun a b g w=>Q0 P F.bN [b.1,(.string ⟨#[91,93]⟩)] w fun d w=>X1 d (Q0 P F.bF [b.1,(.string ⟨#[91,93]⟩)] w fun f w=>Q3 P .add T.e (.tmp 9) (.const (.int .i64 1)) b.2 (.int .i64 1) w fun c w=>a (f,c) w) (K (.tuple #[b.1,b.2]) w)
theorem Q7f {a:Value} {w:World} {K:Value→World→Prop} (h:Q20 a w K):Q0 P F.cu [a] w K:=Q9 Q7n Tryz.func91 rfl (by decide) (by kernel_rfl) h
def Q05 (l:Value) (w:World) (K:Value→World→Prop):Prop:= Q0 P F.cu [l] w fun i w=>ext P i 0 w fun j w=>ext P i 1 w fun k w=>Q3 P .leq T.e (.tmp 10) (.const (.int .i64 3)) k (.int .i64 3) w fun a w=>Q1 a true w (fun w J=>J j w) fun f w=>Q1 a true w (Q0 P F.ae [f]) fun d w=>Q1 a true w (fun w J=>J d w) fun b w=>Q1 b false w (fun w J=>J j w) fun g w=>Q1 b false w (Q0 P F.ak [g]) fun c w=>Q1 a true w (pick P b (.bool true) c) fun e w=>pick P a e (.bool false) w fun h w=>K h w
theorem Q6G {a:Value} {w:World} {K:Value→World→Prop} (h:Q05 a w K):Q0 P F.z [a] w K:=Q9 (List.replicate 3 none) Tryz.func39 rfl (by decide) (by kernel_rfl) h
def Gj (b:Value) (w:World) (K:Value→World→Prop):Prop:= Q0 P F.c5 [b] w fun a w=>Q1 a true w (fun w J=>J b w) fun e w=>Q1 a true w (Q0 P F.ak [e]) fun d w=>Q1 a true w (J4 P .not d) fun f w=>pick P a f (.bool false) w fun c w=>K c w
theorem Q3U {a:Value} {w:World} {K:Value→World→Prop} (h:Gj a w K):Q0 P F.bW [a] w K:=Q9 (List.replicate 2 none) Tryz.func154 rfl (by decide) (by kernel_rfl) h
def Bi (g:Value) (w:World) (K:Value→World→Prop):Prop:= box P T.l g w fun a w=>fieldAddr P T.l a 0 w fun e w=>Q2 P T.a e w fun h w=>Q0 P F.bW [h] w fun b w=>Q1 b true w (fieldAddr P T.l a 1) fun f w=>Q1 b true w (Q2 P T.a f) fun i w=>Q1 b true w (Q0 P F.z [i]) fun d w=>pick P b d (.bool false) w fun c w=>K c w
theorem Q3J {a:Value} {w:World} {K:Value→World→Prop} (h:Bi a w K):Q0 P F.bJ [a] w K:=Q9 (List.replicate 2 none) Tryz.func153 rfl (by decide) (by kernel_rfl) h
def Yq (e f:Value) (w:World) (K:Value→World→Prop):Prop:= box P T.d e w fun a w=>Q2 P T.a7 f w fun g w=>Q2 P T.d a w fun b w=>Z5 P g [b] w fun d w=>J4 P .not d w fun c w=>K c w
theorem Ez {a b:Value} {w:World} {K:Value→World→Prop} (h:Yq a b w K):Q0 P F.bX [a,b] w K:=Q9 (List.replicate 2 none) Tryz.func194 rfl (by decide) (by kernel_rfl) h
def Ji (d e:Value) (w:World) (K:Value→World→Prop):Prop:= box P T.a7 e w fun a w=>N7 P (.func F.bX) [] [a] w fun c w=>Q0 P F.a [d,c] w fun b w=>J4 P .not b w fun f w=>K f w
theorem Rr {a b:Value} {w:World} {K:Value→World→Prop} (h:Ji a b w K):Q0 P F.ap [a,b] w K:=Q9 (List.replicate 2 none) Tryz.func155 rfl (by decide) (by kernel_rfl) h
def Cf (E A:Value) (w:World) (K:Value→World→Prop):Prop:= box P T.o E w fun a w=>fieldAddr P T.o a 0 w fun C w=>Q2 P T.e C w fun D w=>Q3 P .geq T.e (.tmp 5) (.const (.int .i64 0)) D (.int .i64 0) w fun f w=>Q1 f true w (fieldAddr P T.o a 1) fun B w=>Q1 f true w (Q2 P T.e B) fun H w=>Q1 f true w (fieldAddr P T.o a 0) fun u w=>Q1 f true w (Q2 P T.e u) fun i w=>Q1 f true w (Q3 P .gtr T.e (.tmp 9) (.tmp 11) H i) fun o w=>pick P f o (.bool false) w fun c w=>Q1 c true w (fieldAddr P T.o a 1) fun g w=>Q1 c true w (Q2 P T.e g) fun k w=>Q1 c true w (Q2 P T.e A) fun m w=>Q1 c true w (Q3 P .leq T.e (.tmp 16) (.tmp 17) k m) fun j w=>pick P c j (.bool false) w fun e w=>Q1 e true w (fieldAddr P T.o a 2) fun p w=>Q1 e true w (Q2 P T.e p) fun l w=>Q1 e true w (Q3 P .geq T.e (.tmp 22) (.const (.int .i64 0)) l (.int .i64 0)) fun n w=>pick P e n (.bool false) w fun b w=>Q1 b true w (fieldAddr P T.o a 2) fun q w=>Q1 b true w (Q2 P T.e q) fun h w=>Q1 b true w (Q2 P T.e A) fun y w=>Q1 b true w (Q3 P .lss T.e (.tmp 27) (.tmp 28) h y) fun s w=>pick P b s (.bool false) w fun d w=>Q1 d true w (fieldAddr P T.o a 3) fun z w=>Q1 d true w (Q2 P T.a z) fun r w=>Q1 d true w (Q0 P F.ak [r]) fun v w=>pick P d v (.bool false) w fun t w=>K t w
theorem Q2H {a b:Value} {w:World} {K:Value→World→Prop} (h:Cf a b w K):Q0 P F.bt [a,b] w K:=Q9 (List.replicate 2 none) Tryz.func195 rfl (by decide) (by kernel_rfl) h
def Yd:W1:=[none,none,none,some ([8],[4,5,8,9,10,11,12,13,14,15,16,17,18]),none,none,none,none,none,none,none]
def C6 (g j:Value) (w:World) (K:Value→World→Prop):Prop:= X5 P .len [T.n] T.e [false] [g] w fun i w=>lp (α:=Value) (.int .i64 0) w fun a b k w=>Q3 P .lss T.e (.tmp 8) (.tmp 7) b i w fun h w=>X1 h (indexAddr P T.n g b w fun d w=>Q2 P T.k d w fun c w=>Z5 P j [c] w fun f w=>X1 f (K b w) (Q3 P .add T.e (.tmp 8) (.const (.int .i64 1)) b (.int .i64 1) w fun e w=>a e w)) (K (.int .i64 (-1)) w)
theorem Yl {a b:Value} {w:World} {K:Value→World→Prop} (h:C6 a b w K):Q0 P F.a4 [a,b] w K:=Q9 Yd Tryz.func224 rfl (by decide) (by kernel_rfl) h
def R6 (b c:Value) (w:World) (K:Value→World→Prop):Prop:= Q0 P F.a4 [b,c] w fun a w=>Q3 P .geq T.e (.tmp 7) (.const (.int .i64 0)) a (.int .i64 0) w fun d w=>K d w
theorem Qw {a b:Value} {w:World} {K:Value→World→Prop} (h:R6 a b w K):Q0 P F.p [a,b] w K:=Q9 (List.replicate 2 none) Tryz.func213 rfl (by decide) (by kernel_rfl) h
def Zi (e f:Value) (w:World) (K:Value→World→Prop):Prop:= box P T.k e w fun a w=>Q2 P T.ab f w fun g w=>Q2 P T.k a w fun b w=>Z5 P g [b] w fun d w=>J4 P .not d w fun c w=>K c w
theorem Hq {a b:Value} {w:World} {K:Value→World→Prop} (h:Zi a b w K):Q0 P F.c1 [a,b] w K:=Q9 (List.replicate 2 none) Tryz.func214 rfl (by decide) (by kernel_rfl) h
def Uh (d e:Value) (w:World) (K:Value→World→Prop):Prop:= box P T.ab e w fun a w=>N7 P (.func F.c1) [] [a] w fun c w=>Q0 P F.p [d,c] w fun b w=>J4 P .not b w fun f w=>K f w
theorem Ch {a b:Value} {w:World} {K:Value→World→Prop} (h:Uh a b w K):Q0 P F.ax [a,b] w K:=Q9 (List.replicate 2 none) Tryz.func196 rfl (by decide) (by kernel_rfl) h
def Jn:W1:=[none,none,none,some ([8],[4,5,8,9,10,11,12,13,14,15,16,17,18]),none,none,none,none,none,none,none]
def I2 (g j:Value) (w:World) (K:Value→World→Prop):Prop:= X5 P .len [T.ak] T.e [false] [g] w fun i w=>lp (α:=Value) (.int .i64 0) w fun a b k w=>Q3 P .lss T.e (.tmp 8) (.tmp 7) b i w fun h w=>X1 h (indexAddr P T.ak g b w fun d w=>Q2 P T.a6 d w fun c w=>Z5 P j [c] w fun f w=>X1 f (K b w) (Q3 P .add T.e (.tmp 8) (.const (.int .i64 1)) b (.int .i64 1) w fun e w=>a e w)) (K (.int .i64 (-1)) w)
theorem Zv {a b:Value} {w:World} {K:Value→World→Prop} (h:I2 a b w K):Q0 P F.v [a,b] w K:=Q9 Jn Tryz.func236 rfl (by decide) (by kernel_rfl) h
def Te (e f:Value) (w:World) (K:Value→World→Prop):Prop:= box P T.a6 e w fun a w=>fieldAddr P T.a6 a 0 w fun g w=>Q2 P T.a g w fun b w=>Q2 P T.a f w fun d w=>Q3 P .eql T.a (.tmp 5) (.tmp 6) b d w fun c w=>K c w
theorem Q5h {a b:Value} {w:World} {K:Value→World→Prop} (h:Te a b w K):Q0 P F.cS [a,b] w K:=Q9 (List.replicate 2 none) Tryz.func237 rfl (by decide) (by kernel_rfl) h
def Q2f (d:Value) (w:World) (K:Value→World→Prop):Prop:= box P T.a d w fun a w=>R5 P T.a8 (.pointer (some ⟨G.a,0,none⟩)) none none none w fun c w=>N7 P (.func F.cS) [] [a] w fun e w=>Q0 P F.v [c,e] w fun b w=>K b w
theorem Q7O {a:Value} {w:World} {K:Value→World→Prop} (h:Q2f a w K):Q0 P F.cN [a] w K:=Q9 (List.replicate 2 none) Tryz.func225 rfl (by decide) (by kernel_rfl) h
def Q0t (p:Value) (w:World) (K:Value→World→Prop):Prop:= Q0 P F.cN [p] w fun o w=>Q3 P .lss T.e (.tmp 8) (.const (.int .i64 0)) o (.int .i64 0) w fun q w=>X1 q (K (.tuple #[(.bool false),(.bool false),(.bool false)]) w) (dr w fun a l=>Q6 a (fun h=> ∀w,l w→indexAddr P T.a8 (.pointer (some ⟨G.a,0,none⟩)) o w (dk a h w)) fun h=>Q6 a (fun i=> ∀c w,l w→h c w→fieldAddr P T.a6 c 1 w (dk a i w)) fun i=>Q6 a (fun g=> ∀w,l w→indexAddr P T.a8 (.pointer (some ⟨G.a,0,none⟩)) o w (dk a g w)) fun g=>Q6 a (fun f=> ∀b w,l w→g b w→fieldAddr P T.a6 b 2 w (dk a f w)) fun f=>Q6 a (fun k=> ∀e w,l w→i e w→Q2 P T.p e w (dk a k w)) fun k=>Q6 a (fun j=> ∀d w,l w→f d w→Q2 P T.p d w (dk a j w)) fun j=>∀c e b d n m w,l w→h c w→i e w→g b w→f d w→k n w→j m w→ K (.tuple #[n,m,(.bool true)]) w)
theorem Q64 {a:Value} {w:World} {K:Value→World→Prop} (h:Q0t a w K):Q0 P F.cm [a] w K:=Q9 (List.replicate 6 none) Tryz.func215 rfl (by decide) (by kernel_rfl) h
def Ui (b c:Value) (w:World) (K:Value→World→Prop):Prop:= Q0 P F.c3 [b,c] w fun a w=>K a w
theorem Cg {a b:Value} {w:World} {K:Value→World→Prop} (h:Ui a b w K):Q0 P F.az [a,b] w K:=Q9 (List.replicate 2 none) Tryz.func223 rfl (by decide) (by kernel_rfl) h
def Av:W1:=[none,none,none,none,none,none,none,none,none,none,none,none,none,none,none,none,none,some ([8,10],[4,8,10,11,12,13,57,58,59,60,61,62,63,64,65,66,67,68,69,70,71,72,73,74,75,76,77,78,79,80,81,82,83,84,85,86,87,88,89,90,91,92,93,94,95,96,97,98,99,100,101,102,103,104,105,106,107,108,109,110,111,112,113,114,115,116,117,118,119,120,121,122,123,124,125,126,127,128,129,130,131,132,133,134,135,136,137,138,139,140,141,142]),none,none,some ([8],[4,8,11,60,61,62,63,64,65,66,67,68,69,70,71,72,73,74,75,76,77]),none,none,none,none,none,none,none,none,none,none,none,none,none,none,none,none,none,none,none,none,none,none,none]
def Ol (h m:Value) (w:World) (K:Value→World→Prop):Prop:= X5 P .len [T.a] T.e [false] [m] w fun d w=>Q3 P .eql T.e (.tmp 17) (.const (.int .i64 0)) d (.int .i64 0) w fun k w=>Q1 k false w (fun w J=>J m w) fun al w=>Q1 k false w (fun w J=>J h w) fun a7 w=>Q1 k false w (Q3 P .eql T.a (.tmp 20) (.tmp 21) al a7) fun a2 w=>pick P k (.bool true) a2 w fun ae w=>X1 ae (K (.int .i64 0) w) (Q3 P .eql T.e (.tmp 25) (.const (.int .i64 1)) d (.int .i64 1) w fun a9 w=>X1 a9 (H2 P T.a m (.int .i64 0) w fun ba w=>Q0 P F.az [h,ba] w fun ac w=>K ac w) (X5 P .len [T.a] T.e [false] [h] w fun ay w=>Q3 P .geq T.e (.tmp 32) (.tmp 34) d ay w fun bc w=>X1 bc (K (.int .i64 (-1)) w) (Q2 P T.e (.pointer (some ⟨G.c,0,none⟩)) w fun a5 w=>Q3 P .leq T.e (.tmp 37) (.tmp 38) d a5 w fun l w=>Q1 l true w (fun w J=>J h w) fun be w=>Q1 l true w (X5 P .len [T.a] T.e [false] [be]) fun ao w=>Q1 l true w (Q3 P .leq T.e (.tmp 42) (.const (.int .i64 64)) ao (.int .i64 64)) fun ak w=>pick P l ak (.bool false) w fun ar w=>X1 ar (Q0 P F.ct [h,m] w fun az w=>K az w) (H2 P T.a m (.int .i64 0) w fun H w=>H2 P T.a m (.int .i64 1) w fun ap w=>X5 P .len [T.a] T.e [false] [h] w fun ab w=>Q3 P .sub T.e (.tmp 53) (.tmp 54) ab d w fun ai w=>Q3 P .add T.e (.tmp 55) (.const (.int .i64 1)) ai (.int .i64 1) w fun p w=>lp (α:=Value×Value) ((.int .i64 0),(.int .i64 0)) w fun j g d_ w=>Q3 P .lss T.e (.tmp 57) (.tmp 58) g.1 p w fun aq w=>X1 aq (jn (α:=Value) w (fun U w=>H2 P T.a h g.1 w fun a6 w=>Q3 P .neq T.w (.tmp 62) (.tmp 63) a6 H w fun aw w=>X1 aw (Q3 P .add T.e (.tmp 66) (.const (.int .i64 1)) g.1 (.int .i64 1) w fun av w=>R5 P T.a h (some av) (some p) none w fun a8 w=>Q0 P F.az [a8,H] w fun z w=>Q3 P .lss T.e (.tmp 72) (.const (.int .i64 0)) z (.int .i64 0) w fun ax w=>X1 ax (K (.int .i64 (-1)) w) (Q3 P .add T.e (.tmp 75) (.const (.int .i64 1)) z (.int .i64 1) w fun af w=>Q3 P .add T.e (.tmp 74) (.tmp 76) g.1 af w fun an w=>U an w)) (U g.1 w)) fun i d_ w=>Q3 P .add T.e (.tmp 79) (.const (.int .i64 1)) i (.int .i64 1) w fun ad w=>H2 P T.a h ad w fun bb w=>Q3 P .eql T.w (.tmp 81) (.tmp 82) bb ap w fun b w=>Q1 b true w (fun w J=>J h w) fun a3 w=>Q1 b true w (fun w J=>J i w) fun aj w=>Q1 b true w (fun w J=>J i w) fun ag w=>Q1 b true w (fun w J=>J d w) fun am w=>Q1 b true w (Q3 P .add T.e (.tmp 87) (.tmp 88) ag am) fun ah w=>Q1 b true w (R5 P T.a a3 (some aj) (some ah) none) fun aa w=>Q1 b true w (fun w J=>J m w) fun a4 w=>Q1 b true w (Q3 P .eql T.a (.tmp 90) (.tmp 91) aa a4) fun bd w=>pick P b bd (.bool false) w fun bf w=>X1 bf (K i w) (Q3 P .add T.e (.tmp 95) (.const (.int .i64 1)) i (.int .i64 1) w fun e w=>Q3 P .add T.e (.tmp 97) (.const (.int .i64 1)) g.2 (.int .i64 1) w fun q w=>Q2 P T.e (.pointer (some ⟨G.c,0,none⟩)) w fun Z w=>Q3 P .leq T.e (.tmp 99) (.tmp 100) d Z w fun c w=>Q1 c true w (fun w J=>J q w) fun s w=>Q1 c true w (fun w J=>J e w) fun V w=>Q1 c true w (Q0 P F.cV [V]) fun Y w=>Q1 c true w (Q3 P .gtr T.e (.tmp 103) (.tmp 105) s Y) fun Q w=>pick P c Q (.bool false) w fun M w=>X1 M (R5 P T.a h (some e) none none w fun B w=>Q0 P F.ct [B,m] w fun o w=>Q3 P .geq T.e (.tmp 113) (.const (.int .i64 0)) o (.int .i64 0) w fun r w=>X1 r (Q3 P .add T.e (.tmp 115) (.tmp 116) o e w fun C w=>K C w) (K (.int .i64 (-1)) w)) (Q2 P T.e (.pointer (some ⟨G.c,0,none⟩)) w fun L w=>Q3 P .gtr T.e (.tmp 118) (.tmp 119) d L w fun a w=>Q1 a true w (fun w J=>J q w) fun W w=>Q1 a true w (fun w J=>J e w) fun E w=>Q1 a true w (Q3 P .shr T.e (.tmp 123) (.const (.int .u64 4)) E (.int .u64 4)) fun R w=>Q1 a true w (Q3 P .add T.e (.const (.int .i64 4)) (.tmp 124) (.int .i64 4) R) fun A w=>Q1 a true w (Q3 P .geq T.e (.tmp 122) (.tmp 125) W A) fun N w=>pick P a N (.bool false) w fun f w=>Q1 f true w (fun w J=>J e w) fun u w=>Q1 f true w (fun w J=>J p w) fun t w=>Q1 f true w (Q3 P .lss T.e (.tmp 129) (.tmp 130) u t) fun O w=>pick P f O (.bool false) w fun y w=>X1 y (R5 P T.a h (some e) none none w fun X w=>Q0 P F.cK [X,m] w fun n w=>Q3 P .lss T.e (.tmp 138) (.const (.int .i64 0)) n (.int .i64 0) w fun D w=>X1 D (K (.int .i64 (-1)) w) (Q3 P .add T.e (.tmp 140) (.tmp 141) e n w fun v w=>K v w)) (j (e,q) w)))) (K (.int .i64 (-1)) w)))))
theorem Tl {a b:Value} {w:World} {K:Value→World→Prop} (h:Ol a b w K):Q0 P F.bP [a,b] w K:=Q9 Av Tryz.func222 rfl (by decide) (by kernel_rfl) h
def Hg (l n:Value) (w:World) (K:Value→World→Prop):Prop:= Q0 P F.bP [l,n] w fun h w=>Q3 P .geq T.e (.tmp 11) (.const (.int .i64 0)) h (.int .i64 0) w fun m w=>X1 m (dr w fun e j=>Q6 e (fun g=> ∀w,j w→R5 P T.a l none (some h) none w (dk e g w)) fun g=>Q6 e (fun a=> ∀w,j w→X5 P .len [T.a] T.e [false] [n] w (dk e a w)) fun a=>Q6 e (fun b=> ∀c w,j w→a c w→Q3 P .add T.e (.tmp 17) (.tmp 19) h c w (dk e b w)) fun b=>Q6 e (fun f=> ∀d w,j w→b d w→R5 P T.a l (some d) none none w (dk e f w)) fun f=>∀i c d k w,j w→g i w→a c w→b d w→f k w→ K (.tuple #[i,k,(.bool true)]) w) (K (.tuple #[l,(.string ⟨#[]⟩),(.bool false)]) w)
theorem Q1O {a b:Value} {w:World} {K:Value→World→Prop} (h:Hg a b w K):Q0 P F.cJ [a,b] w K:=Q9 (List.replicate 6 none) Tryz.func207 rfl (by decide) (by kernel_rfl) h
def Th (e f:Value) (w:World) (K:Value→World→Prop):Prop:= Q0 P F.cJ [e,f] w fun a w=>ext P a 0 w fun d w=>ext P a 1 w fun c w=>ext P a 2 w fun b w=>K (.tuple #[d,c,b]) w
theorem Q5g {a b:Value} {w:World} {K:Value→World→Prop} (h:Th a b w K):Q0 P F.cA [a,b] w K:=Q9 (List.replicate 2 none) Tryz.func178 rfl (by decide) (by kernel_rfl) h
def Q0M (t:Value) (w:World) (K:Value→World→Prop):Prop:= Q0 P F.cA [t,(.string ⟨#[46]⟩)] w fun e w=>ext P e 0 w fun f w=>ext P e 1 w fun d w=>ext P e 2 w fun q w=>J4 P .not q w fun b w=>Q1 b false w (fun w J=>J f w) fun l w=>Q1 b false w (Q0 P F.ak [l]) fun i w=>Q1 b false w (J4 P .not i) fun o w=>pick P b (.bool true) o w fun c w=>Q1 c false w (fun w J=>J d w) fun k w=>Q1 c false w (Q0 P F.c5 [k]) fun m w=>Q1 c false w (J4 P .not m) fun n w=>pick P c (.bool true) n w fun a w=>Q1 a false w (fun w J=>J d w) fun h w=>Q1 a false w (H2 P T.a h (.int .i64 0)) fun r w=>Q1 a false w (conv P T.w T.ag r) fun p w=>Q1 a false w (Q0 P F.ck [p]) fun j w=>Q1 a false w (J4 P .not j) fun g w=>pick P a (.bool true) g w fun s w=>X1 s (K (.tuple #[(.string ⟨#[]⟩),(.string ⟨#[]⟩),(.int .i64 30)]) w) (K (.tuple #[f,d,(.int .i64 0)]) w)
theorem Q5H {a:Value} {w:World} {K:Value→World→Prop} (h:Q0M a w K):Q0 P F.bk [a] w K:=Q9 (List.replicate 6 none) Tryz.func130 rfl (by decide) (by kernel_rfl) h
end Go.Proofs.YtfppjenblllfaaaGreatDoor

set_option maxRecDepth 100000
namespace Go.Proofs.YtfppjenblllfaaaGreatDoor
open Go.Emb
def Q2i (d:Value) (w:World) (K:Value→World→Prop):Prop:= Q0 P F.cu [d] w fun c w=>ext P c 0 w fun f w=>ext P c 1 w fun e w=>Q0 P F.z [d] w fun b w=>J4 P .not b w fun a w=>X1 a (K (.int .i64 0) w) (K e w)
theorem Q7y {a:Value} {w:World} {K:Value→World→Prop} (h:Q2i a w K):Q0 P F.cO [a] w K:=Q9 (List.replicate 6 none) Tryz.func228 rfl (by decide) (by kernel_rfl) h
def Q7J:W1:=[none,none,none,none,none,none,none,some ([27],[27,28,29]),none,none,none,none,none,none]
def Q2g (g d:Value) (w:World) (K:Value→World→Prop):Prop:= Q3 P .eql T.a (.tmp 8) (.const (.string ⟨#[119,111,114,100]⟩)) g (.string ⟨#[119,111,114,100]⟩) w fun E w=>X1 E (X5 P .len [T.a] T.e [false] [d] w fun p w=>Q3 P .leq T.e (.tmp 12) (.const (.int .i64 64)) p (.int .i64 64) w fun f w=>Q1 f true w (fun w J=>J d w) fun i w=>Q1 f true w (Q0 P F.bY [i]) fun k w=>pick P f k (.bool false) w fun b w=>Q1 b true w (fun w J=>J d w) fun s w=>Q1 b true w (Q0 P F.cD [s,(.string ⟨#[10]⟩)]) fun z w=>Q1 b true w (J4 P .not z) fun r w=>pick P b r (.bool false) w fun m w=>K m w) (Q3 P .eql T.a (.tmp 8) (.const (.string ⟨#[110,101,119]⟩)) g (.string ⟨#[110,101,119]⟩) w fun o w=>X1 o (Q0 P F.ak [d] w fun u w=>K u w) (jn (α:=Value) w (fun L w=>Q3 P .eql T.a (.tmp 8) (.const (.string ⟨#[105,115]⟩)) g (.string ⟨#[105,115]⟩) w fun h w=>X1 h (L h w) (Q3 P .eql T.a (.tmp 8) (.const (.string ⟨#[99,97,115,116]⟩)) g (.string ⟨#[99,97,115,116]⟩) w fun y w=>L y w)) fun O Q w=>X1 O (Q0 P F.z [d] w fun a w=>Q1 a true w (fun w J=>J d w) fun v w=>Q1 a true w (Q0 P F.ae [v]) fun H w=>Q1 a true w (J4 P .not H) fun C w=>pick P a C (.bool false) w fun q w=>K q w) (Q3 P .eql T.a (.tmp 8) (.const (.string ⟨#[97,114,114,97,121]⟩)) g (.string ⟨#[97,114,114,97,121]⟩) w fun n w=>X1 n (Q0 P F.z [d] w fun c w=>Q1 c true w (fun w J=>J d w) fun A w=>Q1 c true w (Q0 P F.cO [A]) fun t w=>Q1 c true w (Q3 P .lss T.e (.tmp 43) (.const (.int .i64 3)) t (.int .i64 3)) fun D w=>pick P c D (.bool false) w fun l w=>K l w) (Q0 P F.bk [d] w fun e w=>ext P e 0 w fun N w=>ext P e 1 w fun M w=>ext P e 2 w fun B w=>Q3 P .eql T.s (.tmp 52) (.const (.int .i64 0)) B (.int .i64 0) w fun j w=>K j w))))
theorem Q7A {a b:Value} {w:World} {K:Value→World→Prop} (h:Q2g a b w K):Q0 P F.cM [a,b] w K:=Q9 Q7J Tryz.func216 rfl (by decide) (by kernel_rfl) h
def Q6a:W1:=[none,none,none,none,none,some ([16],[16,17,18,19,20,21,22,23,24,25,26,27,28,29,30,31,32,33,34,35,36,37,38,39]),none,none,none,none]
def Q0G (D:Value) (w:World) (K:Value→World→Prop):Prop:= box P T.k D w fun a w=>fieldAddr P T.k a 0 w fun A w=>Q2 P T.a A w fun B w=>Q0 P F.cm [B] w fun t w=>ext P t 0 w fun v w=>ext P t 1 w fun b w=>ext P t 2 w fun k w=>J4 P .not k w fun g w=>X1 g (K (.int .i64 40) w) (jn (α:=Value) w (fun m w=>J4 P .not v w fun c w=>Q1 c true w (fieldAddr P T.k a 1) fun s w=>Q1 c true w (Q2 P T.ac s) fun o w=>Q1 c true w (Q3 P .neq T.ac (.tmp 21) (.const (.int .i64 0)) o (.int .i64 0)) fun i w=>pick P c i (.bool false) w fun f w=>X1 f (m f w) (J4 P .not b w fun d w=>Q1 d true w (fieldAddr P T.k a 2) fun h w=>Q1 d true w (Q2 P T.a h) fun z w=>Q1 d true w (Q3 P .neq T.a (.tmp 28) (.const (.string ⟨#[]⟩)) z (.string ⟨#[]⟩)) fun r w=>pick P d r (.bool false) w fun e w=>X1 e (m e w) (Q1 b true w (fieldAddr P T.k a 0) fun q w=>Q1 b true w (Q2 P T.a q) fun y w=>Q1 b true w (fieldAddr P T.k a 2) fun u w=>Q1 b true w (Q2 P T.a u) fun l w=>Q1 b true w (Q0 P F.cM [y,l]) fun n w=>Q1 b true w (J4 P .not n) fun j w=>pick P b j (.bool false) w fun p w=>m p w))) fun C E w=>X1 C (K (.int .i64 41) w) (K (.int .i64 0) w))
theorem Q6A {a:Value} {w:World} {K:Value→World→Prop} (h:Q0G a w K):Q0 P F.cI [a] w K:=Q9 Q6a Tryz.func198 rfl (by decide) (by kernel_rfl) h
def Ry (d:Value) (w:World) (K:Value→World→Prop):Prop:= box P T.k d w fun a w=>Q2 P T.k a w fun c w=>Q0 P F.cI [c] w fun e w=>Q3 P .eql T.s (.tmp 4) (.const (.int .i64 0)) e (.int .i64 0) w fun b w=>K b w
theorem Q2G {a:Value} {w:World} {K:Value→World→Prop} (h:Ry a w K):Q0 P F.bu [a] w K:=Q9 (List.replicate 2 none) Tryz.func197 rfl (by decide) (by kernel_rfl) h
def Yf:W1:=[none,none,none,some ([8],[4,5,8,9,10,11,12,13,14,15,16,17,18]),none,none,none,none,none,none,none]
def B5 (g j:Value) (w:World) (K:Value→World→Prop):Prop:= X5 P .len [T.q] T.e [false] [g] w fun i w=>lp (α:=Value) (.int .i64 0) w fun a b k w=>Q3 P .lss T.e (.tmp 8) (.tmp 7) b i w fun h w=>X1 h (indexAddr P T.q g b w fun d w=>Q2 P T.o d w fun c w=>Z5 P j [c] w fun f w=>X1 f (K b w) (Q3 P .add T.e (.tmp 8) (.const (.int .i64 1)) b (.int .i64 1) w fun e w=>a e w)) (K (.int .i64 (-1)) w)
theorem Ya {a b:Value} {w:World} {K:Value→World→Prop} (h:B5 a b w K):Q0 P F.a5 [a,b] w K:=Q9 Yf Tryz.func229 rfl (by decide) (by kernel_rfl) h
def R4 (b c:Value) (w:World) (K:Value→World→Prop):Prop:= Q0 P F.a5 [b,c] w fun a w=>Q3 P .geq T.e (.tmp 7) (.const (.int .i64 0)) a (.int .i64 0) w fun d w=>K d w
theorem Qu {a b:Value} {w:World} {K:Value→World→Prop} (h:R4 a b w K):Q0 P F.q [a,b] w K:=Q9 (List.replicate 2 none) Tryz.func217 rfl (by decide) (by kernel_rfl) h
def Zg (e f:Value) (w:World) (K:Value→World→Prop):Prop:= box P T.o e w fun a w=>Q2 P T.aa f w fun g w=>Q2 P T.o a w fun b w=>Z5 P g [b] w fun d w=>J4 P .not d w fun c w=>K c w
theorem Hn {a b:Value} {w:World} {K:Value→World→Prop} (h:Zg a b w K):Q0 P F.c2 [a,b] w K:=Q9 (List.replicate 2 none) Tryz.func218 rfl (by decide) (by kernel_rfl) h
def Un (d e:Value) (w:World) (K:Value→World→Prop):Prop:= box P T.aa e w fun a w=>N7 P (.func F.c2) [] [a] w fun c w=>Q0 P F.q [d,c] w fun b w=>J4 P .not b w fun f w=>K f w
theorem Cm {a b:Value} {w:World} {K:Value→World→Prop} (h:Un a b w K):Q0 P F.ay [a,b] w K:=Q9 (List.replicate 2 none) Tryz.func199 rfl (by decide) (by kernel_rfl) h
def Gq (a0:Value) (w:World) (K:Value→World→Prop):Prop:= box P T.d a0 w fun c w=>fieldAddr P T.d c 0 w fun t5 w=>Q2 P T.a t5 w fun t6 w=>Q0 P F.bW [t6] w fun t7 w=>J4 P .not t7 w fun i w=>Q1 i false w (fieldAddr P T.d c 1) fun ai w=>Q1 i false w (Q2 P T.b ai) fun n w=>Q1 i false w (Q0 P F.a8 [n,(.func (.func F.z) #[] #[])]) fun D w=>Q1 i false w (J4 P .not D) fun aj w=>pick P i (.bool true) aj w fun b w=>Q1 b false w (fieldAddr P T.d c 2) fun s w=>Q1 b false w (Q2 P T.a s) fun z w=>Q1 b false w (Q3 P .neq T.a (.tmp 17) (.const (.string ⟨#[]⟩)) z (.string ⟨#[]⟩)) fun p w=>Q1 b false w (fun w J=>J p w) fun g w=>Q1 g true w (fieldAddr P T.d c 2) fun Y w=>Q1 g true w (Q2 P T.a Y) fun M w=>Q1 g true w (Q0 P F.z [M]) fun t w=>Q1 g true w (J4 P .not t) fun A w=>Q1 b false w (pick P g A (.bool false)) fun B w=>pick P b (.bool true) B w fun C w=>X1 C (K (.bool false) w) (fieldAddr P T.d c 3 w fun U w=>Q2 P T.p U w fun l w=>X1 l (fieldAddr P T.d c 4 w fun H w=>Q2 P T.e H w fun W w=>Q3 P .eql T.e (.tmp 29) (.const (.int .i64 0)) W (.int .i64 0) w fun d w=>Q1 d true w (fieldAddr P T.d c 5) fun am w=>Q1 d true w (Q2 P T.n am) fun V w=>Q1 d true w (X5 P .len [T.n] T.e [false] [V]) fun ak w=>Q1 d true w (Q3 P .eql T.e (.tmp 34) (.const (.int .i64 0)) ak (.int .i64 0)) fun ad w=>pick P d ad (.bool false) w fun f w=>Q1 f true w (fieldAddr P T.d c 6) fun y w=>Q1 f true w (Q2 P T.q y) fun O w=>Q1 f true w (X5 P .len [T.q] T.e [false] [O]) fun ae w=>Q1 f true w (Q3 P .eql T.e (.tmp 40) (.const (.int .i64 0)) ae (.int .i64 0)) fun al w=>pick P f al (.bool false) w fun Z w=>K Z w) (fieldAddr P T.d c 5 w fun N w=>Q2 P T.n N w fun af w=>X5 P .len [T.n] T.e [false] [af] w fun u w=>W6 P T.e w fun t3 w=>Z4 P T.e t3 u w fun _u w=>N7 P (.func F.bt) [] [t3] w fun v w=>Q2 P T.e t3 w fun k w=>Q3 P .gtr T.e (.tmp 47) (.const (.int .i64 0)) k (.int .i64 0) w fun a w=>Q1 a true w (fieldAddr P T.d c 4) fun o w=>Q1 a true w (Q2 P T.e o) fun aa w=>Q1 a true w (fieldAddr P T.d c 1) fun q w=>Q1 a true w (Q2 P T.b q) fun r w=>Q1 a true w (X5 P .len [T.b] T.e [false] [r]) fun j w=>Q1 a true w (Q3 P .gtr T.e (.tmp 51) (.tmp 54) aa j) fun L w=>pick P a L (.bool false) w fun h w=>Q1 h true w (fieldAddr P T.d c 5) fun X w=>Q1 h true w (Q2 P T.n X) fun ab w=>Q1 h true w (Q0 P F.ax [ab,(.func (.func F.bu) #[] #[])]) fun Q w=>pick P h Q (.bool false) w fun e w=>Q1 e true w (fieldAddr P T.d c 6) fun R w=>Q1 e true w (Q2 P T.q R) fun ah w=>Q1 e true w (fun w J=>J v w) fun m w=>Q1 e true w (Q0 P F.ay [ah,m]) fun E w=>pick P e E (.bool false) w fun ag w=>K ag w))
theorem Q3T {a:Value} {w:World} {K:Value→World→Prop} (h:Gq a w K):Q0 P F.bm [a] w K:=Q9 (List.replicate 10 none) Tryz.func156 rfl (by decide) (by kernel_rfl) h
def Tg (a0:Value) (w:World) (K:Value→World→Prop):Prop:= box P T.c a0 w fun b w=>fieldAddr P T.c b 0 w fun t7 w=>Q2 P T.a t7 w fun t8 w=>fieldAddr P T.c b 1 w fun t9 w=>Q2 P T.a t9 w fun bb w=>buildSlice P T.b 2 [(0,t8),(1,bb)] w fun A w=>fieldAddr P T.c b 2 w fun M w=>Q2 P T.b M w fun ah w=>X5 P .append [T.b,T.b] T.b [false,false] [A,ah] w fun t w=>dr w fun o u=>Q6 o (fun l=> ∀w,u w→R5 P T.b t (some (.int .i64 1)) none none w (dk o l w)) fun l=>Q6 o (fun f=> ∀w,u w→fieldAddr P T.c b 0 w (dk o f w)) fun f=>Q6 o (fun n=> ∀h w,u w→f h w→Q2 P T.a h w (dk o n w)) fun n=>∀r h p w,u w→l r w→f h w→n p w→ Q0 P F.ah [r,p] w fun W w=>fieldAddr P T.c b 7 w fun Z w=>Q2 P T.g Z w fun a1 w=>Q0 P F.a [a1,(.func (.func F.cn) #[] #[])] w fun ap w=>fieldAddr P T.c b 7 w fun E w=>Q2 P T.g E w fun H w=>Q0 P F.a [H,(.func (.func F.co) #[] #[])] w fun D w=>Q0 P F.a8 [t,(.func (.func F.ak) #[] #[])] w fun ak w=>J4 P .not ak w fun s w=>Q1 s false w (fun w J=>J W w) fun al w=>pick P s (.bool true) al w fun e w=>Q1 e false w (fieldAddr P T.c b 2) fun aj w=>Q1 e false w (Q2 P T.b aj) fun a8 w=>Q1 e false w (Q0 P F.aW [a8,(.func (.func F.cp) #[] #[])]) fun N w=>Q1 e false w (J4 P .not N) fun az w=>pick P e (.bool true) az w fun av w=>X1 av (K (.bool false) w) (fieldAddr P T.c b 3 w fun a9 w=>Q2 P T.p a9 w fun a w=>Q1 a true w (fieldAddr P T.c b 4) fun X w=>Q1 a true w (Q2 P T.p X) fun ag w=>Q1 a true w (J4 P .not ag) fun C w=>Q1 a true w (fun w J=>J C w) fun g w=>Q1 g false w (fieldAddr P T.c b 1) fun am w=>Q1 g false w (Q2 P T.a am) fun af w=>Q1 g false w (Q3 P .neq T.a (.tmp 48) (.const (.string ⟨#[79,98,106,101,99,116]⟩)) af (.string ⟨#[79,98,106,101,99,116]⟩)) fun ax w=>Q1 a true w (pick P g (.bool true) ax) fun an w=>Q1 a true w (fun w J=>J an w) fun d w=>Q1 d false w (fieldAddr P T.c b 6) fun ao w=>Q1 d false w (Q2 P T.i ao) fun B w=>Q1 d false w (X5 P .len [T.i] T.e [false] [B]) fun v w=>Q1 d false w (Q3 P .gtr T.e (.tmp 54) (.const (.int .i64 0)) v (.int .i64 0)) fun Q w=>Q1 a true w (pick P d (.bool true) Q) fun ad w=>Q1 a true w (fun w J=>J ad w) fun q w=>Q1 q false w (fun w J=>J D w) fun a6 w=>Q1 a true w (pick P q (.bool true) a6) fun ae w=>pick P a ae (.bool false) w fun a5 w=>X1 a5 (K (.bool false) w) (fieldAddr P T.c b 4 w fun aw w=>Q2 P T.p aw w fun m w=>Q1 m true w (fieldAddr P T.c b 5) fun z w=>Q1 m true w (Q2 P T.p z) fun ay w=>pick P m ay (.bool false) w fun j w=>Q1 j false w (fun w J=>J ap w) fun a3 w=>Q1 j false w (fun w J=>J a3 w) fun k w=>Q1 k true w (fieldAddr P T.c b 4) fun Y w=>Q1 k true w (Q2 P T.p Y) fun R w=>Q1 k true w (J4 P .not R) fun ai w=>Q1 j false w (pick P k ai (.bool false)) fun a4 w=>pick P j (.bool true) a4 w fun V w=>X1 V (K (.bool false) w) (fieldAddr P T.c b 6 w fun aa w=>Q2 P T.i aa w fun a2 w=>Q0 P F.aC [a2,(.func (.func F.cq) #[] #[])] w fun a7 w=>J4 P .not a7 w fun c w=>Q1 c false w (fieldAddr P T.c b 7) fun L w=>Q1 c false w (Q2 P T.g L) fun y w=>Q1 c false w (Q0 P F.au [y,(.func (.func F.cr) #[] #[])]) fun ac w=>Q1 c false w (J4 P .not ac) fun aq w=>pick P c (.bool true) aq w fun U w=>X1 U (K (.bool false) w) (fieldAddr P T.c b 6 w fun O w=>Q2 P T.i O w fun ab w=>Q0 P F.av [ab,(.func (.func F.bJ) #[] #[])] w fun i w=>Q1 i true w (fieldAddr P T.c b 7) fun ar w=>Q1 i true w (Q2 P T.g ar) fun bc w=>Q1 i true w (Q0 P F.ap [bc,(.func (.func F.bm) #[] #[])]) fun bd w=>pick P i bd (.bool false) w fun ba w=>K ba w))))
theorem Q5k {a:Value} {w:World} {K:Value→World→Prop} (h:Tg a w K):Q0 P F.cy [a] w K:=Q9 (List.replicate 15 none) Tryz.func95 rfl (by decide) (by kernel_rfl) h
def Pz (e:Value) (w:World) (K:Value→World→Prop):Prop:= box P T.c e w fun a w=>Q2 P T.c a w fun f w=>Q0 P F.cH [f] w fun c w=>X1 c (K (.int .i64 51) w) (Q2 P T.c a w fun d w=>Q0 P F.cy [d] w fun g w=>J4 P .not g w fun b w=>X1 b (K (.int .i64 50) w) (K (.int .i64 0) w))
theorem Q5p {a:Value} {w:World} {K:Value→World→Prop} (h:Pz a w K):Q0 P F.cw [a] w K:=Q9 (List.replicate 7 none) Tryz.func45 rfl (by decide) (by kernel_rfl) h
def B4 (a:Value) (w:World) (K:Value→World→Prop):Prop:= Q3 P .eql T.b (.tmp 3) (.const (.slice none 0 0)) a (.slice none 0 0) w fun d w=>X1 d (K (.slice none 0 0) w) (buildSlice P T.b 0 [] w fun b w=>X5 P .append [T.b,T.b] T.b [false,false] [b,a] w fun c w=>K c w)
theorem T9 {a:Value} {w:World} {K:Value→World→Prop} (h:B4 a w K):Q0 P F.b [a] w K:=Q9 (List.replicate 5 none) Tryz.func35 rfl (by decide) (by kernel_rfl) h
def I1 (a:Value) (w:World) (K:Value→World→Prop):Prop:= Q3 P .eql T.i (.tmp 3) (.const (.slice none 0 0)) a (.slice none 0 0) w fun d w=>X1 d (K (.slice none 0 0) w) (buildSlice P T.i 0 [] w fun b w=>X5 P .append [T.i,T.i] T.i [false,false] [b,a] w fun c w=>K c w)
theorem Zt {a:Value} {w:World} {K:Value→World→Prop} (h:I1 a w K):Q0 P F.ab [a] w K:=Q9 (List.replicate 5 none) Tryz.func96 rfl (by decide) (by kernel_rfl) h
def I0 (a:Value) (w:World) (K:Value→World→Prop):Prop:= Q3 P .eql T.n (.tmp 3) (.const (.slice none 0 0)) a (.slice none 0 0) w fun d w=>X1 d (K (.slice none 0 0) w) (buildSlice P T.n 0 [] w fun b w=>X5 P .append [T.n,T.n] T.n [false,false] [b,a] w fun c w=>K c w)
theorem Zw {a:Value} {w:World} {K:Value→World→Prop} (h:I0 a w K):Q0 P F.ac [a] w K:=Q9 (List.replicate 5 none) Tryz.func157 rfl (by decide) (by kernel_rfl) h
def G7 (a:Value) (w:World) (K:Value→World→Prop):Prop:= Q3 P .eql T.q (.tmp 3) (.const (.slice none 0 0)) a (.slice none 0 0) w fun d w=>X1 d (K (.slice none 0 0) w) (buildSlice P T.q 0 [] w fun b w=>X5 P .append [T.q,T.q] T.q [false,false] [b,a] w fun c w=>K c w)
theorem Jp {a:Value} {w:World} {K:Value→World→Prop} (h:G7 a w K):Q0 P F.ad [a] w K:=Q9 (List.replicate 5 none) Tryz.func158 rfl (by decide) (by kernel_rfl) h
def Td (D:Value) (w:World) (K:Value→World→Prop):Prop:= box P T.d D w fun a w=>W6 P T.d w fun B w=>dr w fun b c=>Q6 b (fun p=> ∀w,c w→fieldAddr P T.d a 1 w (dk b p w)) fun p=>Q6 b (fun q=> ∀w,c w→fieldAddr P T.d a 5 w (dk b q w)) fun q=>Q6 b (fun m=> ∀w,c w→fieldAddr P T.d a 6 w (dk b m w)) fun m=>Q6 b (fun j=> ∀s w,c w→p s w→Q2 P T.b s w (dk b j w)) fun j=>Q6 b (fun v=> ∀o w,c w→j o w→Q0 P F.b [o] w (dk b v w)) fun v=>Q6 b (fun n=> ∀l w,c w→q l w→Q2 P T.n l w (dk b n w)) fun n=>Q6 b (fun u=> ∀k w,c w→n k w→Q0 P F.ac [k] w (dk b u w)) fun u=>Q6 b (fun d=> ∀r w,c w→m r w→Q2 P T.q r w (dk b d w)) fun d=>Q6 b (fun g=> ∀w,c w→fieldAddr P T.d a 1 w (dk b g w)) fun g=>Q6 b (fun f=> ∀e w,c w→d e w→Q0 P F.ad [e] w (dk b f w)) fun f=>∀s l r o C k A e i h w,c w→p s w→q l w→m r w→j o w→v C w→n k w→u A w→d e w→g i w→f h w→ Z4 P T.b i C w fun _u w=>fieldAddr P T.d a 5 w fun z w=>Z4 P T.n z A w fun _u w=>fieldAddr P T.d a 6 w fun y w=>Z4 P T.q y h w fun _u w=>Q2 P T.d a w fun t w=>Z4 P T.d B t w fun _u w=>W3 P T.d B w fun E=>K E w
theorem Q5d {a:Value} {w:World} {K:Value→World→Prop} (h:Td a w K):Q0 P F.c8 [a] w K:=Q9 (List.replicate 3 none) Tryz.func97 rfl (by decide) (by kernel_rfl) h
def Q5e:W1:=[none,none,none,none,none,some ([3,17],[3,5,17,18,19,20,21,22,23,24,25,26]),none,none,none,none,none,none]
def Ta (Q:Value) (w:World) (K:Value→World→Prop):Prop:= box P T.c Q w fun a w=>W6 P T.c w fun O w=>dr w fun b g=>Q6 b (fun r=> ∀w,g w→fieldAddr P T.c a 2 w (dk b r w)) fun r=>Q6 b (fun p=> ∀w,g w→fieldAddr P T.c a 6 w (dk b p w)) fun p=>Q6 b (fun q=> ∀o w,g w→r o w→Q2 P T.b o w (dk b q w)) fun q=>Q6 b (fun y=> ∀n w,g w→q n w→Q0 P F.b [n] w (dk b y w)) fun y=>Q6 b (fun e=> ∀s w,g w→p s w→Q2 P T.i s w (dk b e w)) fun e=>Q6 b (fun i=> ∀w,g w→fieldAddr P T.c a 2 w (dk b i w)) fun i=>Q6 b (fun h=> ∀f w,g w→e f w→Q0 P F.ab [f] w (dk b h w)) fun h=>∀o s n N f m l w,g w→r o w→p s w→q n w→y N w→e f w→i m w→h l w→ Z4 P T.b m N w fun _u w=>fieldAddr P T.c a 6 w fun L w=>Z4 P T.i L l w fun _u w=>fieldAddr P T.c a 7 w fun J w=>Q2 P T.g J w fun j w=>X5 P .len [T.g] T.e [false] [j] w fun u w=>lp (α:=Value×Value) ((.slice none 0 0),(.int .i64 0)) w fun d k U w=>Q3 P .lss T.e (.tmp 17) (.tmp 16) k.2 u w fun t w=>X1 t (indexAddr P T.g j k.2 w fun C w=>Q2 P T.d C w fun H w=>W6 P T.d w fun c w=>Z4 P T.d c H w fun _u w=>Q2 P T.d c w fun v w=>Q0 P F.c8 [v] w fun A w=>buildSlice P T.g 1 [(0,A)] w fun B w=>X5 P .append [T.g,T.g] T.g [false,false] [k.1,B] w fun z w=>Q3 P .add T.e (.tmp 17) (.const (.int .i64 1)) k.2 (.int .i64 1) w fun D w=>d (z,D) w) (fieldAddr P T.c a 7 w fun M w=>Z4 P T.g M k.1 w fun _u w=>Q2 P T.c a w fun E w=>Z4 P T.c O E w fun _u w=>W3 P T.c O w fun R=>K R w)
theorem Q5m {a:Value} {w:World} {K:Value→World→Prop} (h:Ta a w K):Q0 P F.cx [a] w K:=Q9 Q5e Tryz.func46 rfl (by decide) (by kernel_rfl) h
def Na (t v:Value) (w:World) (K:Value→World→Prop):Prop:= W6 P T.c w fun s w=>dr w fun a h=>Q6 a (fun n=> ∀w,h w→nilCheck P t w (dk a n w)) fun n=>Q6 a (fun m=> ∀l w,h w→n l w→fieldAddr P T.u l 0 w (dk a m w)) fun m=>Q6 a (fun d=> ∀w,h w→nilCheck P t w (dk a d w)) fun d=>Q6 a (fun e=> ∀g w,h w→d g w→fieldAddr P T.u g 1 w (dk a e w)) fun e=>Q6 a (fun q=> ∀k w,h w→m k w→Q2 P T.h k w (dk a q w)) fun q=>Q6 a (fun f=> ∀b w,h w→e b w→Q2 P T.v b w (dk a f w)) fun f=>Q6 a (fun i=> ∀c w,h w→f c w→lookup P T.v c v false w (dk a i w)) fun i=>∀l k g b r c j w,h w→n l w→m k w→d g w→e b w→q r w→f c w→i j w→ indexAddr P T.h r j w fun o w=>Q2 P T.c o w fun p w=>Z4 P T.c s p w fun _u w=>W3 P T.c s w fun u=>K u w
theorem Km {a b:Value} {w:World} {K:Value→World→Prop} (h:Na a b w K):Q0 P F.h [a,b] w K:=Q9 (List.replicate 2 none) Tryz.func60 rfl (by decide) (by kernel_rfl) h
def Gm:W1:=[none,none,none,none,none,none,some ([29],[4,6,29,30,31,32,33,34,35,36,37,38,39,40,41,42,43,44]),none,none,none,none,none,none,none]
def Wo (g R:Value) (w:World) (K:Value→World→Prop):Prop:= box P T.c R w fun a w=>fieldAddr P T.c a 1 w fun O w=>Q2 P T.a O w fun Q w=>Q0 P F.n [g,Q] w fun L w=>J4 P .not L w fun b w=>Q1 b false w (fun w J=>J g w) fun M w=>Q1 b false w (fieldAddr P T.c a 1) fun D w=>Q1 b false w (Q2 P T.a D) fun j w=>Q1 b false w (Q0 P F.h [M,j]) fun k w=>Q1 b false w (Ww P T.c k 3) fun o w=>pick P b (.bool true) o w fun c w=>Q1 c false w (fun w J=>J g w) fun A w=>Q1 c false w (fieldAddr P T.c a 1) fun u w=>Q1 c false w (Q2 P T.a u) fun m w=>Q1 c false w (Q0 P F.h [A,m]) fun p w=>Q1 c false w (Ww P T.c p 5) fun q w=>pick P c (.bool true) q w fun r w=>X1 r (K (.int .i64 61) w) (fieldAddr P T.c a 2 w fun z w=>Q2 P T.b z w fun f w=>X5 P .len [T.b] T.e [false] [f] w fun t w=>lp (α:=Value) (.int .i64 0) w fun e s U w=>Q3 P .lss T.e (.tmp 29) (.tmp 28) s t w fun l w=>X1 l (indexAddr P T.b f s w fun i w=>Q2 P T.a i w fun h w=>Q0 P F.n [g,h] w fun C w=>J4 P .not C w fun d w=>Q1 d false w (fun w J=>J g w) fun n w=>Q1 d false w (fun w J=>J h w) fun y w=>Q1 d false w (Q0 P F.h [n,y]) fun E w=>Q1 d false w (Ww P T.c E 3) fun N w=>Q1 d false w (J4 P .not N) fun B w=>pick P d (.bool true) B w fun v w=>X1 v (K (.int .i64 62) w) (Q3 P .add T.e (.tmp 29) (.const (.int .i64 1)) s (.int .i64 1) w fun H w=>e H w)) (K (.int .i64 0) w))
theorem Fl {a b:Value} {w:World} {K:Value→World→Prop} (h:Wo a b w K):Q0 P F.bo [a,b] w K:=Q9 Gm Tryz.func47 rfl (by decide) (by kernel_rfl) h
def Yb:W1:=[none,none,none,some ([8],[4,5,8,9,10,11,12,13,14,15,16,17,18]),none,none,none,none,none,none,none]
def B2 (g j:Value) (w:World) (K:Value→World→Prop):Prop:= X5 P .len [T.h] T.e [false] [g] w fun i w=>lp (α:=Value) (.int .i64 0) w fun a b k w=>Q3 P .lss T.e (.tmp 8) (.tmp 7) b i w fun h w=>X1 h (indexAddr P T.h g b w fun d w=>Q2 P T.c d w fun c w=>Z5 P j [c] w fun f w=>X1 f (K b w) (Q3 P .add T.e (.tmp 8) (.const (.int .i64 1)) b (.int .i64 1) w fun e w=>a e w)) (K (.int .i64 (-1)) w)
theorem Xy {a b:Value} {w:World} {K:Value→World→Prop} (h:B2 a b w K):Q0 P F.s [a,b] w K:=Q9 Yb Tryz.func48 rfl (by decide) (by kernel_rfl) h
def Ia:W1:=[none,none,none,some ([7],[6,7,9,10,11,12,16,17,18,19,20,21,22,23,24,25,26,27,28,29,30,31,32,33,34,35,36,37,38,39,40,41,42,43,44,45,46,47,48,49,50,51,52]),none,none,none,none,none,none,none,none,none,none,none,none,none]
def Ng (R W V:Value) (w:World) (K:Value→World→Prop):Prop:= buildSlice P T.b 1 [(0,W)] w fun M w=>Cw P T.v none w fun q w=>lp (α:=Value) M w fun b B X w=>X5 P .len [T.b] T.e [false] [B] w fun z w=>Q3 P .gtr T.e (.tmp 17) (.const (.int .i64 0)) z (.int .i64 0) w fun v w=>X1 v (indexAddr P T.b B (.int .i64 0) w fun H w=>Q2 P T.a H w fun j w=>R5 P T.b B (some (.int .i64 1)) none none w fun s w=>lookup P T.v q j true w fun r w=>ext P r 0 w fun U w=>ext P r 1 w fun d w=>Q1 d false w (fun w J=>J R w) fun E w=>Q1 d false w (fun w J=>J j w) fun D w=>Q1 d false w (Q0 P F.n [E,D]) fun O w=>Q1 d false w (J4 P .not O) fun L w=>pick P d (.bool true) L w fun A w=>X1 A (b s w) (mapUpdate P T.v q j (.int .i64 1) w fun _u w=>Q0 P F.h [R,j] w fun Q w=>W6 P T.c w fun a w=>Z4 P T.c a Q w fun _u w=>Q2 P T.c a w fun C w=>Z5 P V [C] w fun N w=>X1 N (K (.bool true) w) (dr w fun c o=>Q6 c (fun i=> ∀w,o w→fieldAddr P T.c a 1 w (dk c i w)) fun i=>Q6 c (fun g=> ∀w,o w→fieldAddr P T.c a 2 w (dk c g w)) fun g=>Q6 c (fun m=> ∀h w,o w→i h w→Q2 P T.a h w (dk c m w)) fun m=>Q6 c (fun l=> ∀e w,o w→m e w→buildSlice P T.b 1 [(0,e)] w (dk c l w)) fun l=>Q6 c (fun n=> ∀k w,o w→l k w→X5 P .append [T.b,T.b] T.b [false,false] [s,k] w (dk c n w)) fun n=>Q6 c (fun p=> ∀f w,o w→g f w→Q2 P T.b f w (dk c p w)) fun p=>∀h f e k t u w,o w→i h w→g f w→m e w→l k w→n t w→p u w→ X5 P .append [T.b,T.b] T.b [false,false] [t,u] w fun y w=>b y w))) (K (.bool false) w)
theorem Ph {b c a:Value} {w:World} {K:Value→World→Prop} (h:Ng b c a w K):Q0 P F.y [b,c,a] w K:=Q9 Ia Tryz.func99 rfl (by decide) (by kernel_rfl) h
def Jm (e f:Value) (w:World) (K:Value→World→Prop):Prop:= box P T.c e w fun a w=>fieldAddr P T.c a 0 w fun g w=>Q2 P T.a g w fun b w=>fieldAddr P T.c f 0 w fun d w=>Q2 P T.a d w fun c w=>Q3 P .eql T.a (.tmp 5) (.tmp 7) b c w fun h w=>K h w
theorem Sf {a b:Value} {w:World} {K:Value→World→Prop} (h:Jm a b w K):Q0 P F.c9 [a,b] w K:=Q9 (List.replicate 2 none) Tryz.func100 rfl (by decide) (by kernel_rfl) h
def Vj (d e a:Value) (w:World) (K:Value→World→Prop):Prop:= Q2 P T.r e w fun b w=>N7 P (.func F.c9) [] [a] w fun c w=>Q0 P F.y [b,d,c] w fun f w=>K f w
theorem Fb {b c a:Value} {w:World} {K:Value→World→Prop} (h:Vj b c a w K):Q0 P F.bi [b,c,a] w K:=Q9 (List.replicate 2 none) Tryz.func98 rfl (by decide) (by kernel_rfl) h
def Mj (k l:Value) (w:World) (K:Value→World→Prop):Prop:= box P T.r k w fun c w=>box P T.c l w fun a w=>N7 P (.func F.bi) [] [c,a] w fun i w=>fieldAddr P T.c a 1 w fun m w=>Q2 P T.a m w fun j w=>Z5 P i [j] w fun b w=>Q1 b false w (fieldAddr P T.c a 2) fun e w=>Q1 b false w (Q2 P T.b e) fun g w=>Q1 b false w (fun w J=>J i w) fun f w=>Q1 b false w (Q0 P F.e [g,f]) fun d w=>pick P b (.bool true) d w fun h w=>K h w
theorem Ig {a b:Value} {w:World} {K:Value→World→Prop} (h:Mj a b w K):Q0 P F.bv [a,b] w K:=Q9 (List.replicate 3 none) Tryz.func49 rfl (by decide) (by kernel_rfl) h
def Rl:W1:=[none,none,none,some ([8],[4,5,8,9,10,11,12,13,14,15,16,17,18]),none,none,none,none,none,none,none]
def Jk (g j:Value) (w:World) (K:Value→World→Prop):Prop:= X5 P .len [T.z] T.e [false] [g] w fun i w=>lp (α:=Value) (.int .i64 0) w fun a b k w=>Q3 P .lss T.e (.tmp 8) (.tmp 7) b i w fun h w=>X1 h (indexAddr P T.z g b w fun d w=>Q2 P T.e d w fun c w=>Q3 P .eql T.e (.tmp 11) (.tmp 15) j c w fun f w=>X1 f (K b w) (Q3 P .add T.e (.tmp 8) (.const (.int .i64 1)) b (.int .i64 1) w fun e w=>a e w)) (K (.int .i64 (-1)) w)
theorem Sq {a b:Value} {w:World} {K:Value→World→Prop} (h:Jk a b w K):Q0 P F.ca [a,b] w K:=Q9 Rl Tryz.func160 rfl (by decide) (by kernel_rfl) h
def Xq (b c:Value) (w:World) (K:Value→World→Prop):Prop:= Q0 P F.ca [b,c] w fun a w=>Q3 P .geq T.e (.tmp 7) (.const (.int .i64 0)) a (.int .i64 0) w fun d w=>K d w
theorem Ek {a b:Value} {w:World} {K:Value→World→Prop} (h:Xq a b w K):Q0 P F.aG [a,b] w K:=Q9 (List.replicate 2 none) Tryz.func103 rfl (by decide) (by kernel_rfl) h
def Bq:W1:=[none,none,none,none,some ([35],[7,35,36,37,38,39,40,41,42,43,44,45,46,47]),none,none,none,none]
def Qk (a0 a1 a2 a3 a4:Value) (w:World) (K:Value→World→Prop):Prop:= Q2 P T.e a1 w fun t9 w=>Q3 P .lss T.e (.tmp 8) (.tmp 9) a0 t9 w fun U w=>Q1 U false w (Q2 P T.z a2) fun ak w=>Q1 U false w (fun w J=>J a0 w) fun aw w=>Q1 U false w (Q0 P F.aG [ak,aw]) fun ar w=>pick P U (.bool true) ar w fun ah w=>X1 ah (K (.tuple #[]) w) (dr w fun a b=>Q6 a (fun B=> ∀w,b w→Q2 P T.r a3 w (dk a B w)) fun B=>Q6 a (fun p=> ∀j w,b w→B j w→nilCheck P j w (dk a p w)) fun p=>Q6 a (fun m=> ∀u w,b w→p u w→fieldAddr P T.u u 0 w (dk a m w)) fun m=>Q6 a (fun q=> ∀i w,b w→m i w→Q2 P T.h i w (dk a q w)) fun q=>Q6 a (fun L=> ∀C w,b w→q C w→indexAddr P T.h C a0 w (dk a L w)) fun L=>Q6 a (fun M=> ∀D w,b w→L D w→fieldAddr P T.c D 1 w (dk a M w)) fun M=>Q6 a (fun f=> ∀k w,b w→M k w→Q2 P T.a k w (dk a f w)) fun f=>Q6 a (fun Z=> ∀v w,b w→f v w→buildSlice P T.b 1 [(0,v)] w (dk a Z w)) fun Z=>Q6 a (fun A=> ∀w,b w→Q2 P T.r a3 w (dk a A w)) fun A=>Q6 a (fun t=> ∀y w,b w→A y w→nilCheck P y w (dk a t w)) fun t=>Q6 a (fun o=> ∀H w,b w→t H w→fieldAddr P T.u H 0 w (dk a o w)) fun o=>Q6 a (fun h=> ∀g w,b w→o g w→Q2 P T.h g w (dk a h w)) fun h=>Q6 a (fun R=> ∀z w,b w→h z w→indexAddr P T.h z a0 w (dk a R w)) fun R=>Q6 a (fun N=> ∀l w,b w→R l w→fieldAddr P T.c l 2 w (dk a N w)) fun N=>Q6 a (fun Y=> ∀c w,b w→N c w→Q2 P T.b c w (dk a Y w)) fun Y=>∀j u i C D k v ab y H g z l c af w,b w→B j w→p u w→m i w→q C w→L D w→M k w→f v w→Z ab w→A y w→t H w→o g w→h z w→R l w→N c w→Y af w→ X5 P .append [T.b,T.b] T.b [false,false] [ab,af] w fun ad w=>X5 P .len [T.b] T.e [false] [ad] w fun ax w=>lp (α:=Value) (.int .i64 0) w fun d x4 d_ w=>Q3 P .lss T.e (.tmp 35) (.tmp 34) x4 ax w fun al w=>X1 al (indexAddr P T.b ad x4 w fun am w=>Q2 P T.a am w fun aj w=>dr w fun a b=>Q6 a (fun X=> ∀w,b w→Q2 P T.aj a4 w (dk a X w)) fun X=>Q6 a (fun n=> ∀w,b w→Q2 P T.r a3 w (dk a n w)) fun n=>Q6 a (fun r=> ∀Q w,b w→n Q w→nilCheck P Q w (dk a r w)) fun r=>Q6 a (fun e=> ∀V w,b w→r V w→fieldAddr P T.u V 1 w (dk a e w)) fun e=>Q6 a (fun s=> ∀O w,b w→e O w→Q2 P T.v O w (dk a s w)) fun s=>Q6 a (fun W=> ∀E w,b w→s E w→lookup P T.v E aj false w (dk a W w)) fun W=>∀ac Q V O E aa w,b w→X ac w→n Q w→r V w→e O w→s E w→W aa w→ Z5 P ac [aa] w fun ay w=>Q3 P .add T.e (.tmp 35) (.const (.int .i64 1)) x4 (.int .i64 1) w fun ag w=>d ag w) (Q2 P T.z a2 w fun av w=>buildSlice P T.z 1 [(0,a0)] w fun ai w=>X5 P .append [T.z,T.z] T.z [false,false] [av,ai] w fun ap w=>Z4 P T.z a2 ap w fun _u w=>K (.tuple #[]) w))
theorem Vl {c d a e b:Value} {w:World} {K:Value→World→Prop} (h:Qk c d a e b w K):Q0 P F.a0 [c,d,a,e,b] w K:=Q9 Bq Tryz.func102 rfl (by decide) (by kernel_rfl) h
def Iu:W1:=[none,none,none,none,none,none,some ([7],[7,10,11,12,13,14,15,16,17,18,19,20,21]),none,none,none,none]
def Nd (r t:Value) (w:World) (K:Value→World→Prop):Prop:= box P T.r r w fun d w=>box P T.e t w fun b w=>W6 P T.z w fun c w=>W6 P T.aj w fun a w=>N7 P (.func F.a0) [] [b,c,d,a] w fun p w=>Z4 P T.aj a p w fun _u w=>Q2 P T.e b w fun s w=>lp (α:=Value) s w fun e k u w=>Q2 P T.r d w fun g w=>nilCheck P g w fun l w=>fieldAddr P T.u l 0 w fun o w=>Q2 P T.h o w fun n w=>X5 P .len [T.h] T.e [false] [n] w fun f w=>Q3 P .lss T.e (.tmp 10) (.tmp 15) k f w fun i w=>X1 i (Q2 P T.aj a w fun m w=>Z5 P m [k] w fun q w=>Q3 P .add T.e (.tmp 17) (.const (.int .i64 1)) k (.int .i64 1) w fun h w=>e h w) (Q2 P T.z c w fun j w=>K j w)
theorem Kk {a b:Value} {w:World} {K:Value→World→Prop} (h:Nd a b w K):Q0 P F.bw [a,b] w K:=Q9 Iu Tryz.func50 rfl (by decide) (by kernel_rfl) h
def Yy:W1:=[none,some ([2,3],[2,3,7,8,9,10,11,12,13,14,15,16,17,18,19,20,21,22,23,24,25,26,27]),none,none,none]
def F2 (l:Value) (w:World) (K:Value→World→Prop):Prop:= X5 P .len [T.h] T.e [false] [l] w fun s w=>Q3 P .sub T.e (.tmp 5) (.const (.int .i64 1)) s (.int .i64 1) w fun r w=>lp (α:=Value×Value) ((.int .i64 0),r) w fun e g u w=>Q3 P .lss T.e (.tmp 7) (.tmp 8) g.1 g.2 w fun t w=>X1 t (dr w fun f m=>Q6 f (fun b=> ∀w,m w→indexAddr P T.h l g.2 w (dk f b w)) fun b=>Q6 f (fun c=> ∀w,m w→indexAddr P T.h l g.1 w (dk f c w)) fun c=>Q6 f (fun i=> ∀d w,m w→b d w→Q2 P T.c d w (dk f i w)) fun i=>Q6 f (fun h=> ∀a w,m w→c a w→Q2 P T.c a w (dk f h w)) fun h=>∀d a k j w,m w→b d w→c a w→i k w→h j w→ indexAddr P T.h l g.1 w fun p w=>Z4 P T.c p k w fun _u w=>indexAddr P T.h l g.2 w fun n w=>Z4 P T.c n j w fun _u w=>Q3 P .add T.e (.tmp 10) (.const (.int .i64 1)) g.1 (.int .i64 1) w fun o w=>Q3 P .sub T.e (.tmp 12) (.const (.int .i64 1)) g.2 (.int .i64 1) w fun q w=>e (o,q) w) (K (.tuple #[]) w)
theorem Yx {a:Value} {w:World} {K:Value→World→Prop} (h:F2 a w K):Q0 P F.t [a] w K:=Q9 Yy Tryz.func167 rfl (by decide) (by kernel_rfl) h
def Ag:W1:=[none,none,none,none,some ([5,6],[5,6,8,9,10,11,12,13,14,15,16,17,18,19,20]),none,none,none,none,none]
def Oe (d k:Value) (w:World) (K:Value→World→Prop):Prop:= lp (α:=Value×Value) ((.slice none 0 0),k) w fun a b l w=>Q0 P F.n [d,b.2] w fun f w=>X1 f (Q0 P F.h [d,b.2] w fun e w=>buildSlice P T.h 1 [(0,e)] w fun h w=>X5 P .append [T.h,T.h] T.h [false,false] [b.1,h] w fun i w=>Q0 P F.h [d,b.2] w fun g w=>Ww P T.c g 1 w fun c w=>a (i,c) w) (Q0 P F.t [b.1] w fun j w=>K b.1 w)
theorem Tw {a b:Value} {w:World} {K:Value→World→Prop} (h:Oe a b w K):Q0 P F.aX [a,b] w K:=Q9 Ag Tryz.func166 rfl (by decide) (by kernel_rfl) h
def Fx:W1:=[none,none,none,none,some ([5,12],[5,7,12,13,14,15,16,17,18,19,20]),none,none,none,none,none]
def Wc (m n:Value) (w:World) (K:Value→World→Prop):Prop:= Q0 P F.aX [m,n] w fun d w=>X5 P .len [T.h] T.e [false] [d] w fun h w=>lp (α:=Value×Value) ((.slice none 0 0),(.int .i64 0)) w fun b c o w=>Q3 P .lss T.e (.tmp 12) (.tmp 11) c.2 h w fun j w=>X1 j (indexAddr P T.h d c.2 w fun g w=>Q2 P T.c g w fun e w=>W6 P T.c w fun a w=>Z4 P T.c a e w fun _u w=>fieldAddr P T.c a 6 w fun f w=>Q2 P T.i f w fun i w=>X5 P .append [T.i,T.i] T.i [false,false] [c.1,i] w fun k w=>Q3 P .add T.e (.tmp 12) (.const (.int .i64 1)) c.2 (.int .i64 1) w fun l w=>b (k,l) w) (K c.1 w)
theorem Fp {a b:Value} {w:World} {K:Value→World→Prop} (h:Wc a b w K):Q0 P F.ag [a,b] w K:=Q9 Fx Tryz.func162 rfl (by decide) (by kernel_rfl) h
def Vh (e f:Value) (w:World) (K:Value→World→Prop):Prop:= box P T.l e w fun a w=>fieldAddr P T.l a 0 w fun g w=>Q2 P T.a g w fun b w=>Q2 P T.a f w fun d w=>Q3 P .eql T.a (.tmp 5) (.tmp 6) b d w fun c w=>K c w
theorem Bu {a b:Value} {w:World} {K:Value→World→Prop} (h:Vh a b w K):Q0 P F.cj [a,b] w K:=Q9 (List.replicate 2 none) Tryz.func163 rfl (by decide) (by kernel_rfl) h
def Ls (f g e:Value) (w:World) (K:Value→World→Prop):Prop:= box P T.a e w fun a w=>Q0 P F.ag [f,g] w fun d w=>N7 P (.func F.cj) [] [a] w fun c w=>Q0 P F.o [d,c] w fun b w=>K b w
theorem Pp {b c a:Value} {w:World} {K:Value→World→Prop} (h:Ls b c a w K):Q0 P F.aK [b,c,a] w K:=Q9 (List.replicate 2 none) Tryz.func104 rfl (by decide) (by kernel_rfl) h
def Qt (c d:Value) (w:World) (K:Value→World→Prop):Prop:= nilCheck P c w fun b w=>indexAddr P T.a4 b d w fun e w=>Q2 P T.p e w fun a w=>K a w
theorem Nn {a b:Value} {w:World} {K:Value→World→Prop} (h:Qt a b w K):Q0 P F.aA [a,b] w K:=Q9 (List.replicate 2 none) Tryz.func135 rfl (by decide) (by kernel_rfl) h
def Sw:W1:=[none,some ([0],[0,5,6,7,8,9,10,11,12,13,14,15,16,17,18,19,20]),some ([0],[0,5,6,7,8,9,10,11,12,13,14,15,16,17,18,19,20]),none,none,none,none,none]
def Jo (o q:Value) (w:World) (K:Value→World→Prop):Prop:= jn (α:=Value) w (fun k w=>lp (α:=Value) o w fun a b p w=>X5 P .len [T.a] T.e [false] [b] w fun m w=>Q3 P .gtr T.e (.tmp 6) (.const (.int .i64 0)) m (.int .i64 0) w fun l w=>X1 l (X5 P .len [T.a] T.e [false] [b] w fun d w=>Q3 P .sub T.e (.tmp 11) (.const (.int .i64 1)) d (.int .i64 1) w fun f w=>H2 P T.a b f w fun j w=>Q0 P F.aA [q,j] w fun i w=>J4 P .not i w fun c w=>X1 c (k b w) (X5 P .len [T.a] T.e [false] [b] w fun e w=>Q3 P .sub T.e (.tmp 18) (.const (.int .i64 1)) e (.int .i64 1) w fun g w=>R5 P T.a b none (some g) none w fun h w=>a h w)) (k b w)) fun n p w=>K n w
theorem Ss {a b:Value} {w:World} {K:Value→World→Prop} (h:Jo a b w K):Q0 P F.am [a,b] w K:=Q9 Sw Tryz.func89 rfl (by decide) (by kernel_rfl) h
end Go.Proofs.YtfppjenblllfaaaGreatDoor
