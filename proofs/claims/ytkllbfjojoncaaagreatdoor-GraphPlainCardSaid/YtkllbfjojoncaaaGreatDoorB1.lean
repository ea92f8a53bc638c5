/- Parts of a proof about the given program: its functions as texts of their own, what each computes, plain laws of that. The conditions of each stand in its statement. -/
import Derived.WalkKit
import Derived.KernelRfl
import Derived.Test.YtkllbfjojoncaaaGreatDoorProg
set_option linter.unnecessarySimpa false
set_option linter.defProp false
set_option linter.unusedSectionVars false
set_option linter.unusedVariables false
set_option linter.unusedSimpArgs false
namespace Go.Emb
theorem Q7 {p:Prop} (h:p:=by assumption):p:=h
theorem Q4 {p:Prop} (h:p:=by omega):p:=h
theorem L2 {p:Prop} (h:p:=by decide):p:=h
theorem U5 {p:Prop} (h:p:=by simp):p:=h
theorem X8 {p:Prop} (h:p:=by kernel_rfl):p:=h
def Xk (P:Program) (s:Sem Next) (w:World) (K:Value->World->Prop):Prop:=
 match s.run P w with
 | .ok (.value v) w'=>K v w'
 | .ok .skip w'=>K undef w'
 | .ok (.enter f a) w'=>Calls P f a w' fun e b=>match e with | .returned v=>K v b | _=>False
 | .ok (.row row a) w'=>Rows P row a w' K
 | _=>False
theorem X4V: ∃f:Program->Sem Next->World->(Value->World->Prop)->Prop,f=Xk:=⟨_,rfl⟩
noncomputable def op:Program->Sem Next->World->(Value->World->Prop)->Prop:=Classical.choose X4V
theorem Ye:op=Xk:=Classical.choose_spec X4V
theorem X7H {P:Program} {o:Oper} {a:Act} {w:World} {next:Act->World->Prop} {Q:Exit->Act->World->Prop}
 (h:op P (execOp a.eval o) w (fun v w=>next (a.put o.dst v) w)):o.wp P a w next Q:=by
 unfold Oper.wp;rw[Ye] at h;unfold Xk at h;cases c:(execOp a.eval o).run P w with
 | halt x w'=>rw[c] at h;exact h.elim
 | ok n w'=>
  rw[c] at h;cases n<;>simp only at h<;>try exact h.elim
  .exact h
  .exact h
  .refine Calls.mono h fun e d b=>?_
   cases e<;>first | exact b | exact b.elim
  .exact h
theorem Rx {P:Program} {s:Sem Next} {K b:Value->World->Prop} {w:World} (a: ∀v w,K v w->b v w) (h:op P s w K):op P s w b:=by
 rw[Ye] at*;unfold Xk at*;cases d:s.run P w with
 | halt x w'=>rw[d] at h;exact h.elim
 | ok n w'=>
  rw[d] at h;cases n<;>simp only at h⊢ <;>try exact h.elim
  .exact a _ _ h
  .exact a _ _ h
  .refine Calls.mono h fun e f c=>?_
   cases e<;>first | exact a _ _ c | exact c.elim
  .exact h.mono a
def sv (s:Sem Value):Sem Next:=do Pure.pure (.value (<-s))
def su (s:Sem Unit):Sem Next:=do s;Pure.pure .skip
variable (P : Program)
noncomputable def pick (c a b:Value) (w:World) (K:Value->World->Prop):Prop:=op P (do Pure.pure (.value (if<-asBool c then a else b))) w K
noncomputable def T1 (e:TypeId) (w:World) (K:Value->World->Prop):Prop:=op P (sv (Instr.alloc e true (.tuple #[]))) w K
noncomputable def box (e:TypeId) (x:Value) (w:World) (K:Value->World->Prop):Prop:=op P (sv (Instr.box e x)) w K
noncomputable def B2 (t:TypeId) (a:List (Nat×Value)) (w:World) (K:Value->World->Prop):Prop:=op P (sv (Instr.build t a.toArray)) w K
noncomputable def buildSlice (t:TypeId) (n:Nat) (a:List (Nat×Value)) (w:World) (K:Value->World->Prop):Prop:=op P (sv (Instr.buildSlice t n a.toArray)) w K
noncomputable def Q6 (t:TypeId) (a:Value) (w:World) (K:Value->World->Prop):Prop:=op P (sv (Instr.loadAt t a)) w K
noncomputable def J9 (t:TypeId) (a x:Value) (w:World) (K:Value->World->Prop):Prop:=op P (su (Instr.storeAt t a x)) w K
noncomputable def nilCheck (x:Value) (w:World) (K:Value->World->Prop):Prop:=op P (execOp (fun _=>x) {dst:=none,op:= .nilCheck (.const x),type:=0,pos:= "",after:= #[],guard:=none}) w K
noncomputable def Z2 (o:BinOp) (t:TypeId) (a b:Operand) (x y:Value) (w:World) (K:Value->World->Prop):Prop:=op P (sv (do eqGuard o t a b x y;Go.binOp o t x y)) w K
noncomputable def V4 (o:UnOp) (x:Value) (w:World) (K:Value->World->Prop):Prop:=op P (sv (Op.unary o x)) w K
noncomputable def conv (s d:TypeId) (x:Value) (w:World) (K:Value->World->Prop):Prop:=op P (sv (Go.convert s d x)) w K
noncomputable def X5O (t:TypeId) (x:Value) (w:World) (K:Value->World->Prop):Prop:=op P (sv (Instr.makeInterface t x)) w K
noncomputable def C1 (f:Fn) (first caps:List Value) (w:World) (K:Value->World->Prop):Prop:=op P (sv (Instr.makeFunc f first.toArray caps.toArray)) w K
noncomputable def Nn (t:TypeId) (r:Option Value) (w:World) (K:Value->World->Prop):Prop:=op P (sv (Instr.makeMap t r)) w K
noncomputable def Rv (t:TypeId) (n c:Value) (w:World) (K:Value->World->Prop):Prop:=op P (sv (Instr.makeSlice t n c)) w K
noncomputable def G5 (t:TypeId) (x:Value) (b a c:Option Value) (w:World) (K:Value->World->Prop):Prop:=op P (sv (Instr.sliceAt t x b a c)) w K
noncomputable def fieldAddr (t:TypeId) (x:Value) (f:Nat) (w:World) (K:Value->World->Prop):Prop:=op P (sv (Instr.fieldAt t x f)) w K
noncomputable def Qs (t:TypeId) (x:Value) (f:Nat) (w:World) (K:Value->World->Prop):Prop:=op P (sv (Instr.field t x f)) w K
noncomputable def indexAddr (t:TypeId) (x i:Value) (w:World) (K:Value->World->Prop):Prop:=op P (sv (Instr.indexAt t x i)) w K
noncomputable def K0 (t:TypeId) (x i:Value) (w:World) (K:Value->World->Prop):Prop:=op P (sv (Instr.index t x i)) w K
noncomputable def lookup (t:TypeId) (x i:Value) (ok:Bool) (w:World) (K:Value->World->Prop):Prop:=op P (sv (Instr.lookup t x i ok)) w K
noncomputable def mapUpdate (t:TypeId) (m k x:Value) (w:World) (K:Value->World->Prop):Prop:=op P (su (Instr.mapUpdate t m k x)) w K
noncomputable def mapEntry (t:TypeId) (m k:Value) (w:World) (K:Value->World->Prop):Prop:=op P (sv (Instr.mapEntry t m k)) w K
noncomputable def entryStore (t:TypeId) (m s x:Value) (w:World) (K:Value->World->Prop):Prop:=op P (su (Instr.entryStore t m s x)) w K
noncomputable def rng (t:TypeId) (x:Value) (w:World) (K:Value->World->Prop):Prop:=op P (sv (Instr.range t x)) w K
noncomputable def W3 (b:Value) (a:Bool) (t:TypeId) (w:World) (K:Value->World->Prop):Prop:=op P (sv (Instr.next b a t)) w K
noncomputable def X11 (a:Value) (w:World) (K:Value->World->Prop):Prop:=op P (sv (Instr.entry a)) w K
noncomputable def pnc (x:Value) (w:World) (K:Value->World->Prop):Prop:=op P (sv (Instr.panic x)) w K
noncomputable def ext (x:Value) (i:Nat) (w:World) (K:Value->World->Prop):Prop:=op P (sv (Instr.extract x i)) w K
noncomputable def U7 (b:Builtin) (a:List TypeId) (t:TypeId) (cs:List Bool) (xs:List Value) (w:World) (K:Value->World->Prop):Prop:=op P (Go.builtin b a.toArray t cs.toArray xs.toArray) w K
noncomputable def Q0 (f:FuncId) (xs:List Value) (w:World) (K:Value->World->Prop):Prop:=op P (callFunc f xs.toArray) w K
noncomputable def U2 (f:Value) (xs:List Value) (w:World) (K:Value->World->Prop):Prop:=op P (do let d<-Deferred.ofValue f xs.toArray;invoke d.target d.args) w K
def get (l:List Value) (t:Nat):Value:=l.getD t undef
def ev (l:List Value):Operand->Value
 | .tmp t=>get l t
 | .const v=>v
 | .global g=> .pointer (some ⟨g,0,none⟩)
 | .func f=> .func (.func f) #[] #[]
def put (l:List Value) (d:Option Tmp) (v:Value):List Value:=
 match d with
 | some d=>l.set d v
 | none=>l
def evs (l:List Value) (xs:Array Operand):List Value:=xs.toList.map (ev l)
def evp (l:List Value) (xs:Array (Nat×Operand)):List (Nat×Value):=xs.toList.map fun p=>(p.1,ev l p.2)
def evo (l:List Value) (x:Option Operand):Option Value:=match x with | some x=>some (ev l x) | none=>none
def isC:Operand->Bool | .const _=>true | _=>false
noncomputable def Ro (P:Program) (l:List Value) (o:Oper) (c:Call) (w:World) (K:Value->World->Prop):Prop:=
 match c.callee with
 | .builtin b=>U7 P b c.argTypes.toList o.type (c.args.toList.map isC) (evs l c.args) w K
 | .value (.func f)=>Q0 P f (evs l c.args) w K
 | .value f=>U2 P (ev l f) (evs l c.args) w K
 | _=>op P (execOp (ev l) o) w K
noncomputable def N3 (P:Program) (l:List Value) (o:Oper) (w:World) (K:Value->World->Prop):Prop:=
 match o.op with
 | .move x=>K (ev l x) w
 | .assign x=>K (ev l x) w
 | .pick c a b=>pick P (ev l c) (ev l a) (ev l b) w K
 | .alloc e=>T1 P e w K
 | .box e x=>box P e (ev l x) w K
 | .build t h=>B2 P t (evp l h) w K
 | .buildSlice t n h=>buildSlice P t n (evp l h) w K
 | .load t a=>Q6 P t (ev l a) w K
 | .store t a x=>J9 P t (ev l a) (ev l x) w K
 | .nilCheck x=>nilCheck P (ev l x) w K
 | .binOp op t x y _=>Z2 P op t x y (ev l x) (ev l y) w K
 | .unOp op _ x=>V4 P op (ev l x) w K
 | .convert s d x=>conv P s d (ev l x) w K
 | .makeInterface t x=>X5O P t (ev l x) w K
 | .makeFunc f first caps=>C1 P f (evs l first) (evs l caps) w K
 | .makeMap t r=>Nn P t (evo l r) w K
 | .makeSlice t n c=>Rv P t (ev l n) (ev l c) w K
 | .slice t x q p u=>G5 P t (ev l x) (evo l q) (evo l p) (evo l u) w K
 | .fieldAddr t x f=>fieldAddr P t (ev l x) f w K
 | .field t x f=>Qs P t (ev l x) f w K
 | .indexAddr t x i=>indexAddr P t (ev l x) (ev l i) w K
 | .index t x i=>K0 P t (ev l x) (ev l i) w K
 | .lookup t x i ok=>lookup P t (ev l x) (ev l i) ok w K
 | .mapUpdate t m k x=>mapUpdate P t (ev l m) (ev l k) (ev l x) w K
 | .insert t m k x=>mapUpdate P t (ev l m) (ev l k) (ev l x) w K
 | .mapEntry t m k=>mapEntry P t (ev l m) (ev l k) w K
 | .entryStore t m s x=>entryStore P t (ev l m) (ev l s) (ev l x) w K
 | .range t x=>rng P t (ev l x) w K
 | .next g j=>W3 P (ev l g) j o.type w K
 | .extract x i=>ext P (ev l x) i w K
 | .entry g=>X11 P (ev l g) w K
 | .panic x=>pnc P (ev l x) w K
 | .call c=>Ro P l o c w K
 | _=>op P (execOp (ev l) o) w K
theorem X0I {α β:Type} (f:α->β) (a:Array α):a.map f=(a.toList.map f).toArray:=by rw[<-Array.toList_map,Array.toArray_toList]
theorem X5u (l:List Value) (x:Option Operand):x.map (ev l)=evo l x:=by cases x<;>rfl
theorem Q7Q {P:Program} {l:List Value} {o:Oper} {c:Call} {K e:Value->World->Prop} {w:World} (d: ∀v w,K v w->e v w) (h:Ro P l o c w K):Ro P l o c w e:=by
 obtain ⟨a,g,i⟩:=c;cases a with
 | builtin b=>exact Rx d h
 | invoke r m=>exact Rx d h
 | value f=>cases f<;>(simp only[Ro,U2,Q0] at h⊢;exact Rx d h)
theorem Qp {P:Program} {l:List Value} {o:Oper} {K b:Value->World->Prop} {w:World} (a: ∀v w,K v w->b v w) (h:N3 P l o w K):N3 P l o w b:=by
 obtain ⟨d,p,e,pos,c,g⟩:=o;cases p<;>first | exact a _ _ h | exact Q7Q a h | exact Rx a h | (simp only[N3] at h⊢;exact Rx a h)
theorem Q9i {P:Program} {l:List Value} {o:Oper} {K:Value->World->Prop} {w:World} (h:N3 P l o w K):op P (execOp (ev l) o) w K:=by
 unfold N3 at h
 split at h<;>rename_i a
 all_goals first
  | exact h
  | (unfold execOp;rw[a];exact h)
  | (unfold execOp;rw[a];simp only[X0I,X5u];exact h)
  | (unfold execOp;rw[a,Ye];exact h)
  | skip
 rename_i c;unfold Ro at h
 split at h<;>rename_i b
 .unfold execOp;rw[a];simp only[resolve,b,X0I]
  simp only[pure_bind,invoke];unfold U7 at h;simp only[Array.toArray_toList] at h;refine (congrArg (fun z=>op P (builtin _ c.argTypes o.type (List.toArray z) _) w K) (List.map_congr_left (fun x _=>?_))).mp h;cases x<;>rfl
 .unfold execOp;rw[a];simp only[resolve,b,X0I]
  simp only[ev,Deferred.ofValue,pure_bind,invoke]
  simpa [Q0,evs] using h
 .unfold execOp;rw[a];simp only[resolve,b,X0I]
  exact h
 .exact h
def Ep (v:Value) (b:Bool) (w:World) (a:World->(Value->World->Prop)->Prop) (J:Value->World->Prop):Prop:=
 match v with
 | .bool c=>if c=b then a w J else J undef w
 | _=>J undef w
theorem X2x: ∃f:Value->Bool->World->(World->(Value->World->Prop)->Prop)->(Value->World->Prop)->Prop,f=Ep:=⟨_,rfl⟩
noncomputable def Q1:Value->Bool->World->(World->(Value->World->Prop)->Prop)->(Value->World->Prop)->Prop:=Classical.choose X2x
theorem Cg:Q1=Ep:=Classical.choose_spec X2x
def Q4M (v:Value) (t e:Prop):Prop:=
 match v with
 | .bool true=>t
 | .bool false=>e
 | _=>False
theorem X2c: ∃f:Value->Prop->Prop->Prop,f=Q4M:=⟨_,rfl⟩
noncomputable def X1:Value->Prop->Prop->Prop:=Classical.choose X2c
theorem Q7O:X1=Q4M:=Classical.choose_spec X2c
noncomputable def J5 (P:Program) (ops:List Oper) (next:List Value->World->Prop):List Oper->List Value->World->Prop
 | [],l,w=>next l w
 | o::a,l,w=>
  match o.guard with
  | none=>N3 P l o w (fun v w=>J5 P ops next a (put l o.dst v) w)
  | some (j,b)=>match (ops[j]?).bind (·.dst) with
   | some d=>Q1 (get l d) b w (N3 P l o) (fun v w=>J5 P ops next a (put l o.dst v) w)
   | none=>J5 P ops next a (put l o.dst undef) w
def Tup:Nat->Type
 | 0=>Unit
 | 1=>Value
 | n+2=>Value×Tup (n+1)
def Rn (l:List Value):(a:List Nat)->Tup a.length
 | []=>()
 | [s]=>get l s
 | s::t::r=>(get l s,Rn l (t::r))
def Bu (i:Nat) (e:Value):(a:List Nat)->Tup a.length->Value
 | [],_=>e
 | [s],x=>if s=i then x else e
 | s::t::r,x=>if s=i then x.1 else Bu i e (t::r) x.2
def F5 (a b:List Nat) (x:Tup a.length) (d:Nat->Value):Nat->List Value->List Value
 | _,[]=>[]
 | i,v::l=>Bu i (if b.contains i then d i else v) a x::F5 a b x d (i+1) l
def X4R (α:Type) (x0:α) (w:World) (a:(α->World->Prop)->α->(Nat->Value)->World->Prop):Prop:=
 ∃(I:α->World->Prop) (μ:α->World->Nat),I x0 w/\ ∀x d w,I x w->a (fun b w'=>I b w'/\μ b w'<μ x w) x d w
theorem X4T: ∃f:(α:Type)->α->World->((α->World->Prop)->α->(Nat->Value)->World->Prop)->Prop,f=X4R:=⟨_,rfl⟩
noncomputable def lp {α:Type}:α->World->((α->World->Prop)->α->(Nat->Value)->World->Prop)->Prop:=Classical.choose X4T α
theorem X4S {α:Type} (x0:α) (w:World) (a:(α->World->Prop)->α->(Nat->Value)->World->Prop):lp x0 w a=X4R α x0 w a:=
 congrFun (congrFun (congrFun (congrFun (Classical.choose_spec X4T) α) x0) w) a
def X4N (α:Type) (w:World) (A:(α->World->Prop)->World->Prop) (B:α->(Nat->Value)->World->Prop):Prop:=
 ∃I:α->World->Prop,A I w/\ ∀x d w,I x w->B x d w
theorem X4P: ∃f:(α:Type)->World->((α->World->Prop)->World->Prop)->(α->(Nat->Value)->World->Prop)->Prop,f=X4N:=⟨_,rfl⟩
noncomputable def jn {α:Type}:World->((α->World->Prop)->World->Prop)->(α->(Nat->Value)->World->Prop)->Prop:=Classical.choose X4P α
theorem X4O {α:Type} (w:World) (A:(α->World->Prop)->World->Prop) (B:α->(Nat->Value)->World->Prop):jn w A B=X4N α w A B:=
 congrFun (congrFun (congrFun (congrFun (Classical.choose_spec X4P) α) w) A) B
theorem Zq {α:Type} {w:World} {A:(α->World->Prop)->World->Prop} {B:α->(Nat->Value)->World->Prop} (I:α->World->Prop) (h:A I w) (a: ∀x d w,I x w->B x d w):jn w A B:=by
 rw[X4O];exact ⟨I,h,a⟩
theorem Q8a {α:Type} {w:World} {A:(α->World->Prop)->World->Prop} {B:α->(Nat->Value)->World->Prop} (h:jn w A B): ∃I:α->World->Prop,A I w/\ ∀x d w,I x w->B x d w:=by
 rw[X4O] at h;exact h
theorem Nk {α:Type} {x0:α} {w:World} {a:(α->World->Prop)->α->(Nat->Value)->World->Prop} (I:α->World->Prop) (μ:α->World->Nat) (c:I x0 w)
 (e: ∀x d w,I x w->a (fun b w'=>I b w'/\μ b w'<μ x w) x d w):lp x0 w a:=by
 rw[X4S];exact ⟨I,μ,c,e⟩
theorem X2G {α:Type} {x0:α} {w:World} {a:(α->World->Prop)->α->(Nat->Value)->World->Prop} (h:lp x0 w a):
 ∃(I:α->World->Prop) (μ:α->World->Nat),I x0 w/\ ∀x d w,I x w->a (fun b w'=>I b w'/\μ b w'<μ x w) x d w:=by
 rw[X4S] at h;exact h
def G1 (ops:List Oper):List Nat:=ops.filterMap (·.dst)
def Yv:Code->Nat
 | .seq a b=>Yv a+Yv b+1
 | .cond _ a b=>Yv a+Yv b
 | .block _ c=>Yv c
 | .loop c=>Yv c+1
 | .scope c=>Yv c
 | _=>0
def R5 (d:List (Option (List Nat))):Nat->Code->List Nat
 | _, .region _ ops _=>G1 ops.toList
 | k, .seq a b=>(d.getD k none).getD []++(R5 d (k+1) a++R5 d (k+1+Yv a) b)
 | k, .cond _ a b=>R5 d k a++R5 d (k+Yv a) b
 | k, .block _ c=>R5 d k c
 | k, .loop c=>(d.getD k none).getD []++R5 d (k+1) c
 | k, .scope c=>R5 d k c
 | _,_=>[]
abbrev Cq:=Exit->List Value->World->Prop
def thn (next:List Value->World->Prop) (Q:Cq):Cq
 | .normal,a,w=>next a w
 | e,a,w=>Q e a w
def Q56 (id:Nat) (Q:Cq):Cq
 | .exit b,a,w=>if b=id then Q .normal a w else Q (.exit b) a w
 | e,a,w=>Q e a w
noncomputable def Hk (P:Program) (a:List (Option (List Nat))):Nat->Code->Cq->List Value->World->Prop
 | _, .skip,Q,l,w=>Q .normal l w
 | _, .label _,Q,l,w=>Q .normal l w
 | _, .exit id,Q,l,w=>Q (.exit id) l w
 | _, .ret,Q,l,w=>Q .ret l w
 | _, .region _ ops false,Q,l,w=>J5 P ops.toList (fun l w=>Q .normal l w) ops.toList l w
 | _, .region _ ops true,Q,l,w=> ∀t,J5 P ops.toList (fun l w=>Q .normal l w) ((Region.schedule (P.follows .mixedOrders) ops t).filterMap (ops[·]?)) l w.drew
 | k, .seq x y,Q,l,w=>match a.getD k none with
  | none=>Hk P a (k+1) x (thn (fun l w=>Hk P a (k+1+Yv x) y Q l w) Q) l w
  | some e=>jn w (fun J w=>Hk P a (k+1) x (thn (fun l' w'=>J (Rn l' e) w') Q) l w)
   (fun z d w=>Hk P a (k+1+Yv x) y Q (F5 e (R5 a (k+1) x) z d 0 l) w)
 | k, .cond c x y,Q,l,w=>X1 (ev l c) (Hk P a k x Q l w) (Hk P a (k+Yv x) y Q l w)
 | k, .block id c,Q,l,w=>Hk P a k c (Q56 id Q) l w
 | k, .loop c,Q,l,w=>
  lp (Rn l ((a.getD k none).getD [])) w (fun b x d w=>Hk P a (k+1) c (thn (fun l' w'=>b (Rn l' ((a.getD k none).getD [])) w') Q) (F5 ((a.getD k none).getD []) (R5 a (k+1) c) x d 0 l) w)
 | _,_,_,_,_=>False
theorem X1L {ops:List Oper} {l:List Value} {o:Oper} {j:Nat} {b:Bool} (e:o.guard=some (j,b)) {d:Nat} (a:(ops[j]?).bind (·.dst)=some d):
 Region.wanted o (yielded ops.toArray l.toArray)=true↔get l d= .bool b:=by
 unfold Region.wanted yielded;rw[e];simp only[List.getElem?_toArray];rw[a];simp only[Option.bind_some,get,List.getD_eq_getElem?_getD]
 have key: ∀x:Option Value,((match x with | some (.bool c)=>some c | _=>none)==some b)=true↔x.getD undef= .bool b:=by
  intro x;cases x with
  | none=>simp[undef]
  | some v=>cases v<;>simp
 exact key _
theorem Q9S {ops:List Oper} {l:List Value} {o:Oper} {j:Nat} {b:Bool} (c:o.guard=some (j,b)) (a:(ops[j]?).bind (·.dst)=none):
 Region.wanted o (yielded ops.toArray l.toArray)=false:=by
 unfold Region.wanted yielded;rw[c];simp only[List.getElem?_toArray];rw[a];rfl
theorem Ou {v:Value} {b:Bool} {a:World->(Value->World->Prop)->Prop} {J:Value->World->Prop} {w:World} (h:Q1 v b w a J):
 (v= .bool b/\a w J)\/(v≠ .bool b/\J undef w):=by
 rw[Cg] at h;unfold Ep at h
 split at h
 .split at h
  .rename_i c;subst c;exact .inl ⟨rfl,h⟩
  .rename_i c;exact .inr ⟨by simp[c],h⟩
 .rename_i d;exact .inr ⟨d b,h⟩
theorem Q2q {v:Value} {b:Bool} {a:World->(Value->World->Prop)->Prop} {J:Value->World->Prop} {w:World}
 (h:(v= .bool b/\a w J)\/(v≠ .bool b/\J undef w)):Q1 v b w a J:=by
 rw[Cg];unfold Ep
 split
 .split
  .rename_i c;subst c
   rcases h with h | h
   .exact h.2
   .exact absurd rfl h.1
  .rename_i c
   rcases h with h | h
   .exact absurd (Value.bool.inj h.1) c
   .exact h.2
 .rename_i d
  rcases h with h | h
  .exact absurd h.1 (d b)
  .exact h.2
theorem Q5U (a:Act):a.eval=ev a.tmps.toList:=by
 funext x
 cases x<;>simp[Act.eval,ev,get,List.getD_eq_getElem?_getD]
theorem X1q (a:Act) (d:Option Tmp) (v:Value):(a.put d v).tmps.toList=put a.tmps.toList d v:=by
 cases d<;>simp[Act.put,put]
theorem X1p (a:Act) (d:Option Tmp) (v:Value):(a.put d v).defers=a.defers:=by
 cases d<;>simp[Act.put]
def lift (Q:Cq):Exit->Act->World->Prop:=fun e a w=>a.defers=[]/\Q e a.tmps.toList w
theorem Q28 (P:Program) (ops:Array Oper) (Q:Exit->Act->World->Prop) (next:List Value->World->Prop)
 (u: ∀a w,a.defers=[]->next a.tmps.toList w->Q .normal a w) (is:List Nat) (s: ∀i∈is,i<ops.size):
 ∀(a:Act) (w:World),a.defers=[]->J5 P ops.toList next (is.filterMap (ops[·]?)) a.tmps.toList w->wpOps P ops Q is a w:=by
 induction is with
 | nil=>intro a w o h;exact u a w o h
 | cons i is y=>
  intro a w o h;have p:=s i U5;have k:ops[i]? =some ops[i]:=by simp[p]
  rw[List.filterMap_cons,k] at h;simp only[J5] at h;simp only[wpOps,k];have q:ops.toList.toArray=ops:=by simp
  have r:a.tmps.toList.toArray=a.tmps:=by simp
  have f: ∀{v w},J5 P ops.toList next (is.filterMap (ops[·]?)) (put a.tmps.toList ops[i].dst v) w->wpOps P ops Q is (a.put ops[i].dst v) w:=by
   intro v w e;refine y (fun j t=>s j (by simp[t])) _ _ (by rw[X1p];exact o) ?_
   rw[X1q];exact e
  have m:N3 P a.tmps.toList ops[i] w (fun v w=>J5 P ops.toList next (is.filterMap (ops[·]?)) (put a.tmps.toList ops[i].dst v) w)->
   ops[i].wp P a w (wpOps P ops Q is) Q:=by
   intro h;refine X7H ?_;rw[Q5U];exact Rx (fun v w e=>f e) (Q9i h)
  split at h
  .rename_i n
   rw[if_pos (by simp[Region.wanted,n])]
   exact .inl (m h)
  .rename_i j b n
   split at h
   .rename_i d c
    have g:=X1L (ops:=ops.toList) (l:=a.tmps.toList) n c;rw[q,r] at g
    rcases Ou h with ⟨e,h⟩ | ⟨e,h⟩
    .rw[if_pos (g.2 e)];exact .inl (m h)
    .rw[if_neg (fun h=>e (g.1 h))];exact f h
   .rename_i c
    have g:=Q9S (ops:=ops.toList) (l:=a.tmps.toList) n c;rw[q,r] at g;rw[if_neg (by rw[g];simp)];exact f h
theorem Q1h (ops:Array Oper):(List.range ops.size).filterMap (ops[·]?)=ops.toList:=by
 apply List.ext_getElem?;intro i;rw[<-Array.length_toList]
 have: ∀l:List Oper,(List.range l.length).filterMap (l[·]?)=l:=by
  intro l
  induction l with
  | nil=>rfl
  | cons x l a=>
   rw[List.length_cons,List.range_succ_eq_map,List.filterMap_cons];simp only[List.getElem?_cons_zero,List.filterMap_map]
   congr 1
 have h:=this ops.toList;simp only[Array.getElem?_toList] at h;rw[h]
theorem Q4f (b:Bool) (ops:Array Oper) (t:Nat): ∀i∈Region.schedule b ops t,i<ops.size:=by
 have key: ∀m c t a e,(∀i∈e,i<ops.size)-> ∀i∈Region.linearise.go m ops c t a e,i<ops.size:=by
  intro m c
  induction c with
  | zero=>intro t a e h i d;simp[Region.linearise.go] at d;exact h i d
  | succ c g=>
   intro t a e h i d;simp only[Region.linearise.go] at d
   split at d
   .rename_i j f
    refine g _ _ _ ?_ i d;intro k hk
    rcases List.mem_cons.1 hk with rfl | hk
    .have:=List.mem_of_getElem? f
     simp only[List.mem_filter,List.mem_range] at this;exact this.1
    .exact h k hk
   .simp at d;exact h i d
 intro i d;unfold Region.schedule at d
 split at d
 .exact key _ _ _ _ _ U5 i d
 .exact key _ _ _ _ _ U5 i d
def Yo (W:List Nat) (l l':List Value):Prop:=l'.length=l.length/\ ∀i,W.contains i=false->l'[i]? =l[i]?
theorem Yo.refl (W:List Nat) (l:List Value):Yo W l l:=⟨rfl,fun _ _=>rfl⟩
theorem Yo.trans {W:List Nat} {a b c:List Value} (h:Yo W a b) (k:Yo W b c):Yo W a c:=
 ⟨k.1.trans h.1,fun i d=>(k.2 i d).trans (h.2 i d)⟩
theorem Fo (a c:List Nat) (x:Tup a.length) (d:Nat->Value) (l:List Value): ∀i,(F5 a c x d i l).length=l.length:=by
 induction l with
 | nil=>intro i;rfl
 | cons v l b=>intro i;simp[F5,b]
theorem Iz (a b:List Nat) (x:Tup a.length) (d:Nat->Value) (l:List Value): ∀i j,(F5 a b x d i l)[j]? =(l[j]?).map fun v=>Bu (i+j) (if b.contains (i+j) then d (i+j) else v) a x:=by
 induction l with
 | nil=>intro i j;simp[F5]
 | cons v l c=>
  intro i j;cases j with
  | zero=>simp[F5]
  | succ j=>simp only[F5,List.getElem?_cons_succ,c];rw[show i+1+j=i+(j+1) from by omega]
theorem Ng (i:Nat) (e:Value): ∀(b:List Nat) (x:Tup b.length),b.contains i=false->Bu i e b x=e
 | [],_,_=>rfl
 | [s],x,h=>by
  have a: ¬s=i:=by intro a;subst a;simp at h
  exact if_neg a
 | s::t::r,x,h=>by
  simp only[Bu]
  split
  .rename_i a;subst a;simp at h
  .refine Ng i e (t::r) x.2 ?_
   simp only[List.contains_cons,Bool.or_eq_false_iff] at h⊢;exact h.2
theorem Q90 (l:List Value) (i:Nat) (e c:Value): ∀(b:List Nat),b.contains i=true->Bu i e b (Rn l b)=get l i
 | [],h=>by simp at h
 | [s],h=>by
  simp only[List.contains_cons,List.contains_nil,Bool.or_false,beq_iff_eq] at h;subst h;simp[Bu,Rn]
 | s::t::r,h=>by
  simp only[Bu,Rn]
  split
  .rename_i a;subst a;rfl
  .rename_i a
   refine Q90 l i e c (t::r) ?_;simp only[List.contains_cons,Bool.or_eq_true,beq_iff_eq] at h⊢
   rcases h with h | h
   .exact absurd h.symm a
   .exact h
theorem As (a c:List Nat) (l l':List Value) (j:l'.length=l.length)
 (h: ∀i,a.contains i=false->c.contains i=false->l'[i]? =l[i]?):l'=F5 a c (Rn l' a) (get l') 0 l:=by
 apply List.ext_getElem?;intro i;rw[Iz];simp only[Nat.zero_add];cases d:l[i]? with
 | none=>
  have:=List.getElem?_eq_none_iff.1 d;simp only[Option.map_none];exact List.getElem?_eq_none Q4
 | some v=>
  have m:i<l.length:=(List.getElem?_eq_some_iff.1 d).1
  have g:l'[i]? =some (get l' i):=by
   simp only[get,List.getD_eq_getElem?_getD];rw[List.getElem?_eq_getElem Q4];rfl
  rw[g];simp only[Option.map_some,Option.some.injEq]
  by_cases k:a.contains i=true
  .rw[Q90 l' i _ undef a k]
  .have b:a.contains i=false:=by simpa using k
   rw[Ng _ _ _ _ b]
   by_cases e:c.contains i=true
   .rw[if_pos e]
   .have f:c.contains i=false:=by simpa using e
    rw[if_neg e];have:=h i b f;rw[g,d] at this;exact Option.some.inj this
theorem Q6p {v:Value} {t e b a:Prop} (d:t->b) (c:e->a) (h:X1 v t e):X1 v b a:=by
 rw[Q7O] at*;unfold Q4M at*
 split at h
 .exact d h
 .exact c h
 .exact h.elim
theorem Wa (P:Program) (c:List Oper) (next b:List Value->World->Prop) (W:List Nat) (k:List Value): ∀(ops:List Oper) (l:List Value) (w:World),
 (∀o∈ops,∀d,o.dst=some d->W.contains d=true)->Yo W k l->(∀l w,next l w->Yo W k l->b l w)->J5 P c next ops l w->J5 P c b ops l w
 | [],l,w,_,j,p,h=>p l w h j
 | o::f,l,w,q,j,p,h=>by
  have g: ∀v,Yo W k (put l o.dst v):=by
   intro v;cases t:o.dst with
   | none=>exact j
   | some d=>
    have s:=q o U5 d t;refine j.trans ⟨by simp[put],fun i r=>?_⟩
    have:d≠i:=by intro e;subst e;rw[s] at r;cases r
    simp[put,this]
  have a: ∀v w,J5 P c next f (put l o.dst v) w->J5 P c b f (put l o.dst v) w:=fun v w y=>
   Wa P c next b W k f _ w (fun o u=>q o (by simp[u])) (g v) p y
  simp only[J5] at h⊢
  split at h
  .exact Qp a h
  .split at h
   .refine Q2q ((Ou h).imp (fun ⟨m,n⟩=>⟨m,Qp a n⟩) (fun ⟨m,n⟩=>⟨m,a _ _ n⟩))
   .exact a _ _ h
theorem Q6I {α:Type} {x0:α} {c b:(α->World->Prop)->α->(Nat->Value)->World->Prop} {w:World}
 (f: ∀a x d w,c a x d w->b a x d w) (h:lp x0 w c):lp x0 w b:=by
 obtain ⟨I,μ,e,g⟩:=X2G h;exact Nk I μ e fun x d w i=>f _ _ _ _ (g x d w i)
theorem Xj {a b:List Nat} {i:Nat} (h:a.contains i=true):(a++b).contains i=true:=by simp at h⊢;exact .inl h
theorem G2 {a b:List Nat} {i:Nat} (h:b.contains i=true):(a++b).contains i=true:=by simp at h⊢;exact .inr h
theorem Q6s (P:Program) (q:List (Option (List Nat))) (c:Code): ∀(k:Nat) (Q A:Cq) (W:List Nat) (m l:List Value) (w:World),
 (∀i,(R5 q k c).contains i=true->W.contains i=true)->Yo W m l->
 (∀e l w,Q e l w->Yo W m l->A e l w)->Hk P q k c Q l w->Hk P q k c A l w:=by
 induction c with
 | skip=>intro k Q A W m l w _ g j h;exact j _ _ _ h g
 | label n=>intro k Q A W m l w _ g j h;exact j _ _ _ h g
 | exit id=>intro k Q A W m l w _ g j h;exact j _ _ _ h g
 | ret=>intro k Q A W m l w _ g j h;exact j _ _ _ h g
 | goto n=>intro k Q A W m l w _ g j h;exact h.elim
 | refuse s=>intro k Q A W m l w _ g j h;exact h.elim
 | scope c=>intro k Q A W m l w _ g j h;exact h.elim
 | rangeFunc f p a b=>intro k Q A W m l w _ g j h;exact h.elim
 | region id ops L=>
  intro k Q A W m l w B g j h
  have O: ∀o∈ops.toList,∀d,o.dst=some d->W.contains d=true:=by
   intro o R d hd;refine B d ?_;simp only[R5,G1,List.contains_eq_mem,List.mem_filterMap,decide_eq_true_eq];exact ⟨o,R,hd⟩
  cases L with
  | false=>exact Wa P _ _ _ W m _ _ _ O g (fun l w X g=>j _ _ _ X g) h
  | true=>
   intro t;refine Wa P _ _ _ W m _ _ _ ?_ g (fun l w X g=>j _ _ _ X g) (h t);intro o R;simp only[List.mem_filterMap] at R;obtain ⟨i,_,r⟩:=R;exact O o (by simpa using Array.mem_of_getElem? r)
 | seq x y D E=>
  intro k Q A W m l w B g j h;have Z: ∀i,(R5 q (k+1) x).contains i=true->W.contains i=true:=fun i r=>B i (G2 (Xj r));have hy: ∀i,(R5 q (k+1+Yv x) y).contains i=true->W.contains i=true:=fun i r=>B i (G2 (G2 r));simp only[Hk] at h⊢
  split at h
  .refine D _ _ _ W m l w Z g ?_ h
   intro e l' w' C u;cases e with
   | normal=>exact E _ _ _ W m l' w' hy u j C
   | _=>exact j _ _ _ C u
  .rename_i sl Y
   obtain ⟨J,M,N⟩:=Q8a h;refine Zq J (D _ _ _ W m l w Z g ?_ M) fun z d w hz=>?_
   .intro e l' w' C u
    cases e with
    | normal=>exact C
    | _=>exact j _ _ _ C u
   .refine E _ _ _ W m _ w hy (g.trans ⟨Fo _ _ _ _ _ _,fun i r=>?_⟩) j (N z d w hz)
    rw[Iz]
    have M:sl.contains i=false:=by
     cases H:sl.contains i with
     | false=>rfl
     | true=>rw[B i (Xj (by rw[Y];exact H))] at r;cases r
    have N:(R5 q (k+1) x).contains i=false:=by
     cases H:(R5 q (k+1) x).contains i with
     | false=>rfl
     | true=>rw[Z i H] at r;cases r
    simp only[Nat.zero_add];cases hl:l[i]? with
    | none=>rfl
    | some v=>simp only[Option.map_some,Ng _ _ _ _ M,N,Bool.false_eq_true,if_false]
 | cond c x y D E=>
  intro k Q A W m l w B g j h;exact Q6p (D k _ _ W m l w (fun i r=>B i (Xj r)) g j) (E _ _ _ W m l w (fun i r=>B i (G2 r)) g j) h
 | block id c ih=>
  intro k Q A W m l w B g j h;refine ih k _ _ W m l w B g ?_ h;intro e l' w' C u;cases e with
  | exit ah=>simp only[Q56] at C⊢;split<;>rename_i V<;>simp only[V,if_true,if_false] at C<;>exact j _ _ _ C u
  | _=>exact j _ _ _ C u
 | loop c ih=>
  intro k Q A W m l w B g j h;refine Q6I (fun U x d w hb=>?_) h;refine ih _ _ _ W m _ _ (fun i r=>B i (G2 r)) ?_ ?_ hb
  .refine g.trans ⟨Fo _ _ _ _ _ _,fun i r=>?_⟩
   rw[Iz]
   have M:((q.getD k none).getD []).contains i=false:=by
    cases H:((q.getD k none).getD []).contains i with
    | false=>rfl
    | true=>rw[B i (Xj H)] at r;cases r
   have N:(R5 q (k+1) c).contains i=false:=by
    cases H:(R5 q (k+1) c).contains i with
    | false=>rfl
    | true=>rw[B i (G2 H)] at r;cases r
   simp only[Nat.zero_add];cases hl:l[i]? with
   | none=>rfl
   | some v=>simp only[Option.map_some,Ng _ _ _ _ M,N,Bool.false_eq_true,if_false]
  .intro e l' w' C u
   cases e with
   | normal=>exact C
   | _=>exact j _ _ _ C u
theorem X2d (P:Program) (g:List (Option (List Nat))) (c:Code): ∀(k:Nat) (Q:Cq) (a:Act) (w:World),
 a.defers=[]->Hk P g k c Q a.tmps.toList w->c.wp P (lift Q) a w:=by
 induction c with
 | skip=>intro k Q a w j h;exact wp_skip ⟨j,h⟩
 | label n=>intro k Q a w j h;exact wp_label ⟨j,h⟩
 | exit id=>intro k Q a w j h;exact wp_exit ⟨j,h⟩
 | ret=>intro k Q a w j h;exact wp_ret ⟨j,h⟩
 | goto n=>intro k Q a w j h;exact h.elim
 | refuse s=>intro k Q a w j h;exact h.elim
 | scope c=>intro k Q a w j h;exact h.elim
 | rangeFunc f p a b=>intro k Q a w j h;exact h.elim
 | region id ops A=>
  intro k Q a w j h;cases A with
  | false=>
   refine wp_region (Q28 P ops _ _ (fun a w j h=>⟨j,h⟩) _ U5 a w j ?_);rw[Q1h];exact h
  | true=>
   refine wp_region_draw fun t=>?_;exact Q28 P ops _ _ (fun a w j h=>⟨j,h⟩) _ (Q4f _ _ _) a _ j (h t)
 | seq x y r u=>
  intro k Q a w j h;simp only[Hk] at h
  split at h
  .refine wp_seq (wp_mono (r _ _ a w j h) ?_)
   intro e o w' ⟨m,q⟩;cases e with
   | normal=>exact u _ _ o w' m q
   | _=>exact ⟨m,q⟩
  .rename_i Y ad
   obtain ⟨J,L,B⟩:=Q8a h;have H:=Q6s P g x (k+1) _ (fun e l' w'=>thn (fun l' w'=>J (Rn l' Y) w') Q e l' w'/\Yo (R5 g (k+1) x) a.tmps.toList l') (R5 g (k+1) x) a.tmps.toList a.tmps.toList w (fun _ h=>h) (Yo.refl _ _) (fun e l w h N=>⟨h,N⟩) L;refine wp_seq (wp_mono (r (k+1) _ a w j H) ?_);intro e o w' ⟨m,q,C⟩;cases e with
   | normal=>
    refine u (k+1+Yv x) _ o w' m ?_;rw[As Y (R5 g (k+1) x) a.tmps.toList o.tmps.toList C.1 (fun i _ h=>C.2 i h)];exact B _ _ _ q
   | _=>exact ⟨m,q⟩
 | cond c x y r u=>
  intro k Q a w j h;simp only[Hk,Q7O,Q4M] at h
  split at h
  .rename_i W
   exact wp_cond_true (by rw[Q5U];exact W) (r _ _ _ _ j h)
  .rename_i W
   exact wp_cond_false (by rw[Q5U];exact W) (u _ _ _ _ j h)
  .exact h.elim
 | block id c X=>
  intro k Q a w j h;refine wp_block (wp_mono (X k _ a w j h) ?_);intro e o w' ⟨m,q⟩;cases e with
  | exit ae=>
   simp only[Q56,Exit.inBlock] at q⊢
   split<;>rename_i V<;>simp only[V,if_true,if_false] at q<;>exact ⟨m,q⟩
  | _=>exact ⟨m,q⟩
 | loop c X=>
  intro k Q a w j h;obtain ⟨I,μ,h0,hr⟩:=X2G h;refine wp_loop (fun o w'=>o.defers=[]/\(∃d,o.tmps.toList=F5 ((g.getD k none).getD []) (R5 g (k+1) c) (Rn o.tmps.toList ((g.getD k none).getD [])) d 0 a.tmps.toList)/\I (Rn o.tmps.toList ((g.getD k none).getD [])) w') (fun o w'=>μ (Rn o.tmps.toList ((g.getD k none).getD [])) w') ⟨j,⟨get a.tmps.toList,As _ _ _ _ rfl (fun _ _ _=>rfl)⟩,h0⟩ ?_;intro z w1 ⟨U,⟨d1,v⟩,M⟩;have O:=hr _ d1 w1 M;dsimp only at O;rw[<-v] at O;have R:=Q6s P g c (k+1) _ (fun e l' w'=>thn (fun l' w'=>I (Rn l' ((g.getD k none).getD [])) w'/\μ (Rn l' ((g.getD k none).getD [])) w'<μ (Rn z.tmps.toList ((g.getD k none).getD [])) w1) Q e l' w'/\Yo (R5 g (k+1) c) z.tmps.toList l') (R5 g (k+1) c) z.tmps.toList z.tmps.toList w1 (fun _ h=>h) (Yo.refl _ _) (fun e l w h N=>⟨h,N⟩) O;refine wp_mono (X _ _ z w1 U R) ?_;intro e Z w2 ⟨E,B,D⟩;cases e with
  | normal=>
   refine ⟨⟨E,⟨get Z.tmps.toList,As _ _ _ _ ?_ ?_⟩,B.1⟩,B.2⟩
   .rw[D.1,v,Fo]
   .intro i L H
    rw[D.2 i H,v,Iz];simp only[Nat.zero_add,Ng _ _ _ _ L,H,Bool.false_eq_true,if_false,Option.map_id']
  | _=>exact ⟨E,B⟩
def X1E:List Value->Nat->Value->(List Value->Prop)->Prop
 | [],_,_,k=>k []
 | _::l,0,v,k=>k (v::l)
 | x::l,n+1,v,k=>X1E l n v (fun l'=>k (x::l'))
def Q65 (l:List Value) (d:Option Tmp) (v:Value) (k:List Value->Prop):Prop:=
 match d with
 | some d=>X1E l d v k
 | none=>k l
def X16:List Value->Nat->(Value->Prop)->Prop
 | [],_,k=>k undef
 | x::_,0,k=>k x
 | _::l,n+1,k=>X16 l n k
def evK (l:List Value) (o:Operand) (k:Value->Prop):Prop:=
 match o with
 | .tmp t=>X16 l t k
 | .const v=>k v
 | .global g=>k (.pointer (some ⟨g,0,none⟩))
 | .func f=>k (.func (.func f) #[] #[])
def Q5x (i:Nat) (e:Value):(a:List Nat)->Tup a.length->(Value->Prop)->Prop
 | [],_,k=>k e
 | [s],x,k=>if s=i then k x else k e
 | s::t::r,x,k=>if s=i then k x.1 else Q5x i e (t::r) x.2 k
def Pt (a b:List Nat) (x:Tup a.length) (d:Nat->Value):Nat->List Value->(List Value->Prop)->Prop
 | _,[],k=>k []
 | i,v::l,k=>match b.contains i with
  | true=>Q5x i (d i) a x (fun u=>Pt a b x d (i+1) l (fun l'=>k (u::l')))
  | false=>Q5x i v a x (fun u=>Pt a b x d (i+1) l (fun l'=>k (u::l')))
theorem X65 (l:List Value): ∀(n:Nat) (v:Value) (k:List Value->Prop),X1E l n v k=k (l.set n v):=by
 induction l with
 | nil=>intro n v k;rfl
 | cons x l a=>intro n v k;cases n with
  | zero=>rfl
  | succ n=>simp only[X1E,a,List.set_cons_succ]
theorem X0i (l:List Value) (d:Option Tmp) (v:Value) (k:List Value->Prop):Q65 l d v k=k (put l d v):=by
 cases d with
 | none=>rfl
 | some d=>exact X65 l d v k
theorem X5A (l:List Value): ∀(n:Nat) (k:Value->Prop),X16 l n k=k (get l n):=by
 induction l with
 | nil=>intro n k;rfl
 | cons x l a=>intro n k;cases n with
  | zero=>rfl
  | succ n=>simp only[X16,a];rfl
theorem X6H (l:List Value) (o:Operand) (k:Value->Prop):evK l o k=k (ev l o):=by
 cases o with
 | tmp t=>exact X5A l t k
 | _=>rfl
theorem Q36 (i:Nat) (e:Value) (k:Value->Prop): ∀(a:List Nat) (x:Tup a.length),Q5x i e a x k=k (Bu i e a x)
 | [],_=>rfl
 | [s],x=>by
  by_cases h:s=i
  .exact (if_pos h).trans (congrArg k (if_pos h).symm)
  .exact (if_neg h).trans (congrArg k (if_neg h).symm)
 | s::t::r,x=>by
  by_cases h:s=i
  .exact (if_pos h).trans (congrArg k (if_pos h).symm)
  .exact ((if_neg h).trans (Q36 i e k (t::r) x.2)).trans (congrArg k (if_neg h).symm)
theorem Q6x (a c:List Nat) (x:Tup a.length) (d:Nat->Value) (l:List Value): ∀(i:Nat) (k:List Value->Prop),Pt a c x d i l k=k (F5 a c x d i l):=by
 induction l with
 | nil=>intro i k;rfl
 | cons v l b=>
  intro i k;simp only[Pt,F5]
  split
  .rename_i h;rw[Q36,b,if_pos h]
  .rename_i h;rw[Q36,b,if_neg (by rw[h];simp)]
theorem Iy (b c a:List Nat) (h: ∀i,c.contains i=a.contains i) (x:Tup b.length) (d:Nat->Value) (l:List Value): ∀i,F5 b c x d i l=F5 b a x d i l:=by
 induction l with
 | nil=>intro i;rfl
 | cons v l e=>intro i;simp only[F5,e,h]
noncomputable def Qz (P:Program) (ops:List Oper) (next:List Value->World->Prop):List Oper->List Value->World->Prop
 | [],l,w=>next l w
 | o::a,l,w=>
  match o.guard with
  | none=>match o.op with
   | .move x=>evK l x fun v=>Q65 l o.dst v fun l=>Qz P ops next a l w
   | .assign x=>evK l x fun v=>Q65 l o.dst v fun l=>Qz P ops next a l w
   | _=>N3 P l o w (fun v w=>Q65 l o.dst v fun l=>Qz P ops next a l w)
  | some (j,b)=>match (ops[j]?).bind (·.dst) with
   | some d=>Q1 (get l d) b w (N3 P l o) (fun v w=>Q65 l o.dst v fun l=>Qz P ops next a l w)
   | none=>Q65 l o.dst undef fun l=>Qz P ops next a l w
theorem Bg (P:Program) (ops:List Oper) (next:List Value->World->Prop) (os:List Oper): ∀(l:List Value) (w:World),Qz P ops next os l w=J5 P ops next os l w:=by
 induction os with
 | nil=>intro l w;rfl
 | cons o c a=>
  intro l w;obtain ⟨dst,p,e,pos,d,g⟩:=o;cases g with
  | none=>cases p<;>simp only[Qz,J5,X0i,X6H,a,N3]
  | some q=>obtain ⟨j,b⟩:=q;simp only[Qz,J5,X0i,a]
def Mi (T:World->World->Prop) (φ:Value->World->Prop):Prop:= ∀v w w',φ v w->T w w'->φ v w'
def dk (T:World->World->Prop) (φ:Value->World->Prop) (w:World):Value->World->Prop:=fun v w'=>T w w'/\φ v w'
def Q7T (T:World->World->Prop) (A:(Value->World->Prop)->Prop) (a:(Value->World->Prop)->Prop):Prop:=
 ∃φ,Mi T φ/\A φ/\a φ
theorem X2f: ∃f:(World->World->Prop)->((Value->World->Prop)->Prop)->((Value->World->Prop)->Prop)->Prop,f=Q7T:=⟨_,rfl⟩
noncomputable def Z7:(World->World->Prop)->((Value->World->Prop)->Prop)->((Value->World->Prop)->Prop)->Prop:=Classical.choose X2f
theorem X2e:Z7=Q7T:=Classical.choose_spec X2f
def X0Z (w:World) (A:(World->World->Prop)->(World->Prop)->Prop):Prop:= ∃T B,B w.drew/\(∀w w',B w->T w w'->B w')/\A T B
theorem X4G: ∃f:World->((World->World->Prop)->(World->Prop)->Prop)->Prop,f=X0Z:=⟨_,rfl⟩
noncomputable def dr:World->((World->World->Prop)->(World->Prop)->Prop)->Prop:=Classical.choose X4G
theorem X4F:dr=X0Z:=Classical.choose_spec X4G
theorem Is {w:World} {A:(World->World->Prop)->(World->Prop)->Prop} (T:World->World->Prop) (B:World->Prop) (h:B w.drew) (b: ∀w w',B w->T w w'->B w') (a:A T B):dr w A:=by
 rw[X4F];exact ⟨T,B,h,b,a⟩
theorem H7 {T:World->World->Prop} {A a:(Value->World->Prop)->Prop} (φ:Value->World->Prop) (c:Mi T φ) (h:A φ) (b:a φ):Z7 T A a:=by
 rw[X2e];exact ⟨φ,c,h,b⟩
def Q5R (T:World->World->Prop) (A a:(List Value->Value->World->Prop)->Prop):Prop:=
 ∃φ,(∀xs,Mi T (φ xs))/\A φ/\a φ
theorem X07: ∃f:(World->World->Prop)->((List Value->Value->World->Prop)->Prop)->((List Value->Value->World->Prop)->Prop)->Prop,f=Q5R:=⟨_,rfl⟩
noncomputable def Fh:(World->World->Prop)->((List Value->Value->World->Prop)->Prop)->((List Value->Value->World->Prop)->Prop)->Prop:=Classical.choose X07
theorem X06:Fh=Q5R:=Classical.choose_spec X07
theorem Q5S {T:World->World->Prop} {A a:(List Value->Value->World->Prop)->Prop} (φ:List Value->Value->World->Prop) (c: ∀xs,Mi T (φ xs)) (h:A φ) (b:a φ):Fh T A a:=by
 rw[X06];exact ⟨φ,c,h,b⟩
abbrev Iv:=Nat×Nat
def Ap (a:Nat->Iv):Prop:= ∀i j,i≠j->(a i).2<=(a j).1\/(a j).2<=(a i).1
def dkR (T:World->World->Prop) (φ:Iv->Value->World->Prop) (w:World):Value->World->Prop:=fun v w'=>T w w'/\φ (w.heap.size,w'.heap.size) v w'
def Q5Q (T:(Nat->Iv)->World->World->Prop) (j:Nat) (A a:(Iv->Value->World->Prop)->Prop):Prop:=
 ∃φ,(∀b,Ap b->Mi (T b) (φ (b j)))/\A φ/\a φ
theorem X05: ∃f:((Nat->Iv)->World->World->Prop)->Nat->((Iv->Value->World->Prop)->Prop)->((Iv->Value->World->Prop)->Prop)->Prop,f=Q5Q:=⟨_,rfl⟩
noncomputable def X3I:((Nat->Iv)->World->World->Prop)->Nat->((Iv->Value->World->Prop)->Prop)->((Iv->Value->World->Prop)->Prop)->Prop:=Classical.choose X05
theorem X5n:X3I=Q5Q:=Classical.choose_spec X05
def Q5P (T:(Nat->Iv)->World->World->Prop) (A a:(Value->World->Prop)->Prop):Prop:=
 ∃φ,(∀b,Ap b->Mi (T b) φ)/\A φ/\a φ
theorem X04: ∃f:((Nat->Iv)->World->World->Prop)->((Value->World->Prop)->Prop)->((Value->World->Prop)->Prop)->Prop,f=Q5P:=⟨_,rfl⟩
noncomputable def X3H:((Nat->Iv)->World->World->Prop)->((Value->World->Prop)->Prop)->((Value->World->Prop)->Prop)->Prop:=Classical.choose X04
theorem X5m:X3H=Q5P:=Classical.choose_spec X04
def Q4q (T:(Nat->Iv)->World->World->Prop) (A a:(List Value->Value->World->Prop)->Prop):Prop:=
 ∃φ,(∀xs b,Ap b->Mi (T b) (φ xs))/\A φ/\a φ
theorem Q7U: ∃f:((Nat->Iv)->World->World->Prop)->((List Value->Value->World->Prop)->Prop)->((List Value->Value->World->Prop)->Prop)->Prop,f=Q4q:=⟨_,rfl⟩
noncomputable def X0Y:((Nat->Iv)->World->World->Prop)->((List Value->Value->World->Prop)->Prop)->((List Value->Value->World->Prop)->Prop)->Prop:=Classical.choose Q7U
theorem X3J:X0Y=Q4q:=Classical.choose_spec Q7U
def Q7V (w:World) (A:((Nat->Iv)->World->World->Prop)->(World->Prop)->Prop):Prop:= ∃T B,B w.drew/\(∀a w w',B w->T a w w'->B w')/\(∀a w w',T a w w'->w.heap.size<=w'.heap.size)/\A T B
theorem X2g: ∃f:World->(((Nat->Iv)->World->World->Prop)->(World->Prop)->Prop)->Prop,f=Q7V:=⟨_,rfl⟩
noncomputable def drR:World->(((Nat->Iv)->World->World->Prop)->(World->Prop)->Prop)->Prop:=Classical.choose X2g
theorem X6D:drR=Q7V:=Classical.choose_spec X2g
def allI:Bool->((Nat->Iv)->Prop)->Prop
 | false,k=>k fun _=>(0,0)
 | true,k=> ∀a:Nat->Iv,Ap a->k a
def OkI:Bool->(Nat->Iv)->Prop
 | false,a=>a=fun _=>(0,0)
 | true,a=>Ap a
def Rm:Bool->World->Nat
 | false,_=>0
 | true,w=>w.heap.size
theorem Q7z {r:Bool} {k:(Nat->Iv)->Prop} (h:allI r k) {b:Nat->Iv} (a:OkI r b):k b:=by
 cases r with
 | false=>have a:b=_:=a;subst a;exact h
 | true=>exact h b a
def Il (r:Bool) (a:Nat->Iv) (w:World):Prop:=OkI r a/\ ∀q,(a q).2<=Rm r w
theorem Il.init {r:Bool} {w:World}:Il r (fun _=>(0,0)) w:=⟨by cases r<;>first | rfl | exact fun _ _ _=> .inl (Nat.le_refl _),fun _=>Nat.zero_le _⟩
theorem Il.step {r:Bool} {c:Nat->Iv} {w w':World} (h:Il r c w) (g:Rm r w<=Rm r w') (q:Nat):Il r (fun n=>if n=q then (Rm r w,Rm r w') else c n) w':=by
 obtain ⟨a,d⟩:=h;refine ⟨?_,fun n=>?_⟩
 .cases r with
  | false=>
   have a:c=_:=a;subst a
   funext n
   simp[Rm]
  | true=>
   intro i j b;have a:Ap c:=a;simp only
   by_cases e:i=q
   .subst e
    rw[if_pos rfl,if_neg (Ne.symm b)];exact .inr (d j)
   .rw[if_neg e]
    by_cases f:j=q
    .subst f
     rw[if_pos rfl];exact .inl (d i)
    .rw[if_neg f]
     exact a i j b
 .simp only
  split
  .exact Nat.le_refl _
  .exact Nat.le_trans (d n) g
noncomputable def runOp (P:Program) (ops:List Oper) (l:List Value) (o:Oper) (w:World) (K:Value->World->Prop):Prop:=
 match o.guard with
 | none=>N3 P l o w K
 | some (j,b)=>match (ops[j]?).bind (·.dst) with
  | some d=>Q1 (get l d) b w (N3 P l o) K
  | none=>False
inductive Ent where
  | val (v : Value)
  | ref (j : Nat)
def Ent.at (u:Nat->Value):Ent->Value
 | .val v=>v
 | .ref j=>u j
def Qc (u:Nat->Value) (S:List Ent):List Value:=S.map (Ent.at u)
def getE:List Ent->Nat->Ent
 | [],_=> .val undef
 | x::_,0=>x
 | _::l,n+1=>getE l n
def entOf (S:List Ent):Operand->Ent
 | .tmp t=>getE S t
 | .const v=> .val v
 | .global g=> .val (.pointer (some ⟨g,0,none⟩))
 | .func f=> .val (.func (.func f) #[] #[])
def mv (o:Oper):Option Operand:=
 match o.guard with
 | some _=>none
 | none=>match o.op with
  | .move x=>some x
  | .assign x=>some x
  | _=>none
def Q4D:List Ent->Nat->Ent->List Ent
 | [],_,_=>[]
 | _::l,0,e=>e::l
 | x::l,n+1,e=>x::Q4D l n e
def putE (S:List Ent) (d:Option Nat) (e:Ent):List Ent:=
 match d with
 | some d=>Q4D S d e
 | none=>S
def G7 (o:Oper):List Nat:=o.op.operands.toList.filterMap fun | .tmp t=>some t | _=>none
def F8 (ops:List Oper) (o:Oper):List Nat:=
 match o.guard with
 | none=>[]
 | some (j,_)=>match (ops[j]?).bind (·.dst) with | some d=>[d] | none=>[]
def Q3g:List Nat->List Nat
 | []=>[]
 | x::l=>x::(Q3g l).filter (fun y=> !(y==x))
def Q7o:Ent->List Nat
 | .ref j=>[j]
 | .val _=>[]
def Q3p (S:List Ent):List Nat->List Nat
 | []=>[]
 | s::l=>Q7o (getE S s)++Q3p S l
def refs (ops:List Oper) (S:List Ent) (o:Oper):List Nat:=Q3g (Q3p S (F8 ops o++G7 o))
def Ns:List Nat->(Nat->Value)->((Nat->Value)->Prop)->Prop
 | [],u,k=>k u
 | j::a,u,k=> ∀t:Value,Ns a (fun n=>if n=j then t else u n) k
abbrev Bz:=List (Nat×List Nat×(List Value->Iv->Value->World->Prop))
def Lz:Bz->Nat->Option (List Nat×(List Value->Iv->Value->World->Prop))
 | [],_=>none
 | (i,φ)::l,j=>if i=j then some φ else Lz l j
def Nw (c:Bz) (u:Nat->Value) (b:Nat->Iv) (w:World) (a:Prop):List Nat->Prop
 | []=>a
 | j::d=>match Lz c j with
  | some ([],φ)=>φ [] (b j) (u j) w->Nw c u b w a d
  | _=>Nw c u b w a d
def Q3l (c:Bz) (u:Nat->Value) (b:Nat->Iv) (w:World) (a:Prop):List Nat->Prop
 | []=>a
 | j::d=>match Lz c j with
  | some (R,φ)=>φ (R.map u) (b j) (u j) w->Q3l c u b w a d
  | none=>Q3l c u b w a d
def Q86 (o:Oper):Bool:=match o.op with | .store .. =>true | _=>false
def Q2u (o:Oper):Bool:=match o.op with | .call c=>(match c.callee with | .value (.func _)=>true | _=>false) | _=>false
def X8f (o:Oper):Bool:=match o.op with | .build .. =>true | _=>false
def X3W (o:Oper):Bool:=match o.op with | .call c=>(match c.callee with | .builtin .append=>true | _=>false) | _=>false
def Rs (o:Oper):Bool:=match o.op with | .alloc .. =>true | _=>false
def X1j (r:Bool) (o:Oper):Bool:=match r with | true=>Q2u o||X3W o||Rs o | false=>false
abbrev ivZ:Nat->Iv:=fun _=>(0,0)
def X1k (r:Bool) (o:Oper):Bool:=match r with | true=>Q86 o||X8f o | false=>Q86 o
noncomputable def chain (P:Program) (r:Bool) (ops:List Oper) (T:(Nat->Iv)->World->World->Prop) (B:World->Prop) (W3:List Value->World->Prop) (tail:List Oper):Nat->List Oper->List Ent->Bz->List Nat->Prop
 | _,[],S,c,done=>Ns done (fun _=>undef) fun u=>allI r fun b=> ∀w,B w->Q3l c u b w (Qz P ops W3 tail (Qc u S) w) done
 | i,o::a,S,c,done=>
  match mv o with
  | some x=>chain P r ops T B W3 tail (i+1) a (putE S o.dst (entOf S x)) c done
  | none=>match X1k r o with
   | true=>match r with
    | true=>X0Y T (fun φ=>Ns (refs ops S o) (fun _=>undef) fun u=>allI true fun b=> ∀w,B w->Nw c u b w (runOp P ops (Qc u S) o w (dk (T b) (φ ((refs ops S o).map u)) w)) (refs ops S o))
     (fun φ=>chain P r ops T B W3 tail (i+1) a (putE S o.dst (.ref i)) (c++[(i,refs ops S o,fun xs (_:Iv)=>φ xs)]) (done++[i]))
    | false=>Fh (T ivZ) (fun φ=>Ns (refs ops S o) (fun _=>undef) fun u=>allI false fun b=> ∀w,B w->Nw c u b w (runOp P ops (Qc u S) o w (dk (T b) (φ ((refs ops S o).map u)) w)) (refs ops S o))
     (fun φ=>chain P r ops T B W3 tail (i+1) a (putE S o.dst (.ref i)) (c++[(i,refs ops S o,fun xs (_:Iv)=>φ xs)]) (done++[i]))
   | false=>match X1j r o with
    | true=>X3I T i (fun φ=>Ns (refs ops S o) (fun _=>undef) fun u=>allI r fun b=> ∀w,B w->Nw c u b w (runOp P ops (Qc u S) o w (dkR (T b) φ w)) (refs ops S o))
     (fun φ=>chain P r ops T B W3 tail (i+1) a (putE S o.dst (.ref i)) (c++[(i,[],fun (_:List Value)=>φ)]) (done++[i]))
    | false=>match r with
     | true=>X3H T (fun φ=>Ns (refs ops S o) (fun _=>undef) fun u=>allI true fun b=> ∀w,B w->Nw c u b w (runOp P ops (Qc u S) o w (dk (T b) φ w)) (refs ops S o))
      (fun φ=>chain P r ops T B W3 tail (i+1) a (putE S o.dst (.ref i)) (c++[(i,[],fun (_:List Value) (_:Iv)=>φ)]) (done++[i]))
     | false=>Z7 (T ivZ) (fun φ=>Ns (refs ops S o) (fun _=>undef) fun u=>allI false fun b=> ∀w,B w->Nw c u b w (runOp P ops (Qc u S) o w (dk (T b) φ w)) (refs ops S o))
      (fun φ=>chain P r ops T B W3 tail (i+1) a (putE S o.dst (.ref i)) (c++[(i,[],fun (_:List Value) (_:Iv)=>φ)]) (done++[i]))
def Jg:Op->Bool
 | .ready _ | .waits _ | .sliceToArrayPointer .. | .makeChan .. | .typeAssert .. | .go _ | .defer _ | .send .. | .recv .. | .select .. =>false
 | .call c=>match c.callee with | .invoke .. =>false | _=>true
 | _=>true
theorem Iu {l l':List Value} {x:Option Operand} (h: ∀y∈x.toArray,ev l y=ev l' y):evo l x=evo l' x:=by
 cases x with
 | none=>rfl
 | some y=>simp only[evo];rw[h y U5]
theorem Q2a {l l':List Value} {xs:Array Operand} (h: ∀y∈xs,ev l y=ev l' y):evs l xs=evs l' xs:=by
 unfold evs;exact List.map_congr_left fun y a=>h y (by simpa using a)
theorem Q6w {l l':List Value} {xs:Array (Nat×Operand)} (h: ∀y∈(xs.toList.map (·.2)).toArray,ev l y=ev l' y):evp l xs=evp l' xs:=by
 unfold evp;refine List.map_congr_left fun y a=>?_;rw[h y.2 (by simp;exact ⟨y.1,by simpa using a⟩)]
theorem Se {P:Program} {l l':List Value} {o:Oper} (q:Jg o.op=true) (h: ∀x∈o.op.operands,ev l x=ev l' x):N3 P l o=N3 P l' o:=by
 obtain ⟨d,p,D,pos,B,g⟩:=o
 funext w K
 cases p with
 | call c=>
  obtain ⟨j,i,C⟩:=c;have k:evs l i=evs l' i:=Q2a fun y e=>h y (by simp[Op.operands,Call.operands];exact .inr e)
  cases j with
  | invoke r m=>simp[Jg] at q
  | builtin b=>simp only[N3,Ro,k]
  | value f=>
   have s:ev l f=ev l' f:=h f (by simp[Op.operands,Call.operands])
   cases f<;>simp only[N3,Ro,k,s]
 | build t A=>simp only[N3];rw[Q6w h]
 | buildSlice t n A=>simp only[N3];rw[Q6w h]
 | makeFunc f a b=>
  simp only[N3];rw[Q2a (xs:=a) fun y e=>h y (by simp[Op.operands];exact .inl e),Q2a (xs:=b) fun y e=>h y (by simp[Op.operands];exact .inr e)]
 | makeMap t r=>simp only[N3];rw[Iu h]
 | slice t x v u z=>
  simp only[N3];rw[h x (by simp[Op.operands]),Iu (x:=v) fun y e=>h y (by simp[Op.operands] at e⊢;simp[e]),Iu (x:=u) fun y e=>h y (by simp[Op.operands] at e⊢;simp[e]),Iu (x:=z) fun y e=>h y (by simp[Op.operands] at e⊢;simp[e])]
 | _=>first
  | (simp[Jg] at q;done)
  | (simp only[Op.operands,List.mem_toArray,List.mem_cons,List.not_mem_nil,or_false,forall_eq_or_imp,forall_eq] at h;simp only[N3,h];done)
  | rfl
def Aj:List Oper->List Nat->List Nat
 | [],acc=>acc
 | o::a,acc=>Aj a (acc++[(o.after.toList.filter (Region.binds .any)).foldl (fun s e=>s ||| 2 ^ e.on ||| acc.getD e.on 0) 0])
def Yp (a b:Oper):Bool:=
 match a.dst with
 | some d=>(G7 b).contains d||b.dst==some d
 | none=>false
def Q5M (a:List Nat) (ops:List Oper):Bool:=
 ops.zipIdx.all fun (o,j)=>ops.zipIdx.all fun (q,i)=> !(decide (i<j))|| !(Yp q o||Yp o q)||(a.getD j 0).testBit i
def Lg (ops:List Oper):Bool:=
 ops.zipIdx.all fun (o,i)=>Jg o.op&&(o.after.toList.filter (Region.binds .any)).all (fun e=>decide (e.on<i))&&
  match o.guard with | none=>true | some (j,_)=>(o.after.toList.filter (Region.binds .any)).any (fun e=>e.on==j)
def Q7p (m:Region.Mode) (ops:List Oper):List Nat->List Nat->Bool
 | [],_=>true
 | j::L,seen=>((ops[j]?.map fun o=>o.after.toList).getD []).all (fun e=> !Region.binds m e||seen.contains e.on)&&Q7p m ops L (j::seen)
def Xu (m:Region.Mode) (ops:List Oper) (L:List Nat):Bool:=
 Q7p m ops L []&&(List.range ops.length).all (L.contains ·)&&ops.all (fun o=>o.after.toList.all fun e=> !Region.binds m e||decide (e.on<ops.length))
def X4q (m:Region.Mode) (ops:List Oper):Nat->List Nat->List Nat->List Nat
 | 0,_,seen=>seen.reverse
 | n+1,a,seen=>
  match a.find? (fun j=>((ops[j]?.map fun o=>o.after.toList).getD []).all (fun e=> !Region.binds m e||seen.contains e.on)) with
  | some j=>X4q m ops n (a.erase j) (j::seen)
  | none=>seen.reverse
def Je:List Nat->Bool
 | []=>true
 | x::l=> !l.contains x&&Je l
def Xw (ops:List Oper) (j:Nat):List Nat:=(ops[j]?.map fun o=>(o.after.toList.filter (Region.binds .any)).map (·.on)).getD []
def Fa (ops:List Oper) (L:List Nat):Prop:= ∀b j a,L=b++j::a-> ∀i∈Xw ops j,i∈b
theorem Q81 (f:Edge->Nat) (l:List Edge): ∀(s i:Nat),(l.foldl (fun s e=>s ||| 2 ^ e.on ||| f e) s).testBit i=true->
 s.testBit i=true\/ ∃e∈l,e.on=i\/(f e).testBit i=true:=by
 induction l with
 | nil=>intro s i h;exact .inl h
 | cons e l c=>
  intro s i h
  rcases c _ _ h with h | ⟨a,b,h⟩
  .simp only[Nat.testBit_or,Bool.or_eq_true] at h
   rcases h with (h | h) | h
   .exact .inl h
   .rw[Nat.testBit_two_pow] at h
    exact .inr ⟨e,by simp, .inl (by simpa using h)⟩
   .exact .inr ⟨e,by simp, .inr h⟩
  .exact .inr ⟨a,by simp[b],h⟩
theorem Q6o (a:List Oper): ∀(b:List Oper) (acc:List Nat),acc.length+b.length=a.length->(∀k,acc.length<=k->a[k]? =b[k-acc.length]?)->
 (∀j i,j<acc.length->(acc.getD j 0).testBit i=true-> ∃k∈Xw a j,k=i\/(k<j/\(acc.getD k 0).testBit i=true))->
 (∀j,j<a.length-> ∀k∈Xw a j,k<j)->
 ∀j i,j<a.length->((Aj b acc).getD j 0).testBit i=true-> ∃k∈Xw a j,k=i\/(k<j/\((Aj b acc).getD k 0).testBit i=true)
 | [],acc,q,_,c,_=>by
  intro j i t h;exact c j i (by simp at q;omega) h
 | o::b,acc,q,f,c,p=>by
  have z:a[acc.length]? =some o:=by rw[f _ (Nat.le_refl _)];simp
  refine Q6o a b _ (by simp at q⊢;omega) ?_ ?_ p
  .intro k g
   simp only[List.length_append,List.length_cons,List.length_nil] at g⊢;rw[f k Q4];obtain ⟨m,y⟩: ∃m,k-acc.length=m+1:=⟨k-acc.length-1,by omega⟩
   rw[y,List.getElem?_cons_succ]
   congr 1;omega
  .intro j i t h
   simp only[List.length_append,List.length_cons,List.length_nil] at t
   have d: ∀k,k<acc.length->(acc++[(o.after.toList.filter (Region.binds .any)).foldl (fun s e=>s ||| 2 ^ e.on ||| acc.getD e.on 0) 0]).getD k 0=acc.getD k 0:=by
    intro k g;simp only[List.getD_eq_getElem?_getD];rw[List.getElem?_append_left g]
   by_cases n:j<acc.length
   .rw[d j n] at h
    obtain ⟨k,g,h⟩:=c j i n h;exact ⟨k,g,h.imp id fun ⟨u,v⟩=>⟨u,by rw[d k Q4];exact v⟩⟩
   .have r:j=acc.length:=by omega
    subst r;simp only[List.getD_eq_getElem?_getD,List.getElem?_append_right (Nat.le_refl _),Nat.sub_self,List.getElem?_cons_zero,Option.getD_some] at h
    rcases Q81 (fun e=>acc.getD e.on 0) _ _ _ (by simpa only[List.getD_eq_getElem?_getD] using h) with h | ⟨e,w,h⟩
    .simp at h
    .have l:e.on∈Xw a acc.length:=by
      unfold Xw;rw[z];simp only[Option.map_some,Option.getD_some,List.mem_map];exact ⟨e,w,rfl⟩
     refine ⟨e.on,l,h.imp id fun h=>?_⟩;have g:=p acc.length (by simp at q;omega) _ l
     exact ⟨g,by rw[d _ g];exact h⟩
theorem Ao {ops:List Oper} (h:Lg ops=true): ∀j,j<ops.length-> ∀k∈Xw ops j,k<j:=by
 intro j b k a;simp only[Lg,List.all_eq_true,Bool.and_eq_true] at h;unfold Xw at a;rw[List.getElem?_eq_getElem b] at a;simp only[Option.map_some,Option.getD_some,List.mem_map] at a;obtain ⟨e,c,rfl⟩:=a;have:=(h (ops[j],j) (by rw[List.mem_zipIdx_iff_getElem?];simp[b])).1.2 e c
 simpa using this
theorem Q8O {ops:List Oper} (l:Lg ops=true) {L:List Nat} (n:Fa ops L): ∀(j:Nat),j<ops.length-> ∀i b a,L=b++j::a->((Aj ops []).getD j 0).testBit i=true->i∈b:=by
 intro j
 induction j using Nat.strongRecOn with
 | _ j o=>
  intro d i b a f g;obtain ⟨k,m,h⟩:=Q6o ops ops [] U5 U5 (by intro j i d;simp at d) (Ao l) j i d g
  have c:=n b j a f k m
  rcases h with rfl | ⟨e,h⟩
  .exact c
  .obtain ⟨p,q,rfl⟩:=List.append_of_mem c
   have:=o k e Q4 i p (q++j::a) (by rw[f];simp) h
   exact List.mem_append_left _ this
theorem Ny: ∀(n:Nat) (a:List Nat),(∀k,k<n->k∈a)->n<=a.length
 | 0,_,_=>Nat.zero_le _
 | n+1,a,h=>by
  have b:=Ny n (a.erase n) fun k e=>(List.mem_erase_of_ne Q4).2 (h k Q4);have c:=List.length_erase_of_mem (h n Q4);have d:=List.length_pos_of_mem (h n Q4);omega
theorem I7: ∀(n:Nat) (l:List Nat),l.Nodup->(∀k∈l,k<n)->l.length<=n
 | 0,l,_,h=>by
  cases l with
  | nil=>simp
  | cons x l=>exact absurd (h x U5) Q4
 | n+1,l,c,h=>by
  by_cases b:n∈l
  .have g:=I7 n (l.erase n) (c.erase n) fun k a=>by
    have d:=h k (List.mem_of_mem_erase a);have f:k≠n:=fun e=>by subst e;exact (List.Nodup.not_mem_erase c) a
    omega
   have d:=List.length_erase_of_mem b;have f:=List.length_pos_of_mem b;omega
  .have:=I7 n l c fun k a=>by
    have d:=h k a;have f:k≠n:=fun e=>by subst e;exact b a
    omega
   omega
theorem X1Y {m:Region.Mode} {e:Edge} (h:Region.binds .any e=true):Region.binds m e=true:=by
 unfold Region.binds at h⊢;cases a:e.ground<;>rw[a] at h<;>first | rfl | (exact absurd h (by simp<;>rfl)) | (simp at h;cases h)
theorem X1m {m:Region.Mode} {ops:List Oper} {L:List Nat} (h:Xu m ops L=true) (k:Nat) (b:k<ops.length): ∀e∈(ops[k]?.map fun o=>o.after.toList).getD [],Region.binds m e=true->e.on<ops.length:=by
 intro e a c;simp only[Xu,Bool.and_eq_true,List.all_eq_true] at h;rw[List.getElem?_eq_getElem b] at a;have:=h.2 ops[k] (List.getElem_mem b) e (by simpa using a)
 rw[c] at this
 simpa using this
theorem Q8N {m:Region.Mode} {ops:List Oper} {L:List Nat} (h:Xu m ops L=true): ∀k,k<ops.length->k∈L:=by
 intro k a;simp only[Xu,Bool.and_eq_true,List.all_eq_true] at h
 simpa using h.1.2 k (by simpa using a)
theorem X0b (m:Region.Mode) (ops:Array Oper) (R:Lg ops.toList=true) (U:List Nat) (O:Xu m ops.toList U=true): ∀(fuel t:Nat) (listed:Array Bool) (a:List Nat),
 fuel+a.length=ops.size->listed.size=ops.size->(∀i,i<ops.size->(listed.getD i true=true↔i∈a))->a.Nodup->(∀i∈a,i<ops.size)->Fa ops.toList a.reverse->
 (Region.linearise.go m ops fuel t listed a).Nodup/\(Region.linearise.go m ops fuel t listed a).length=ops.size/\Fa ops.toList (Region.linearise.go m ops fuel t listed a)
 | 0,t,listed,a,hf,_,_,hn,_,hr=>by
  simp only[Region.linearise.go];exact ⟨List.pairwise_reverse.2 (hn.imp fun h=>Ne.symm h),by simp;omega,hr⟩
 | fuel+1,t,listed,a,hf,M,C,hn,D,hr=>by
  -- one that isn't listed may come
  have X: ∃k,k<ops.size/\k∉a:=by
   refine Classical.byContradiction fun ad=>?_;have u: ∀k,k<ops.size->k∈a:=fun k hk=>Classical.byContradiction fun h=>ad ⟨k,hk,h⟩;have:=Ny ops.size a u;omega
  simp only[Region.linearise.go]
  split
  .rename_i i hi
   have l:=List.mem_of_getElem? hi;simp only[List.mem_filter,List.mem_range,Bool.and_eq_true,Bool.not_eq_true'] at l;obtain ⟨c,v,n⟩:=l;have H:i∉a:=fun h=>by rw[(C i c).2 h] at v;cases v
   refine X0b m ops R U O fuel _ _ _ (by simp;omega) (by simp[M]) ?_ (List.nodup_cons.2 ⟨H,hn⟩) ?_ ?_
   .intro j hj
    by_cases p:i=j
    .subst p;simp[Array.getD,M,c]
    .have:(listed.setIfInBounds i true).getD j true=listed.getD j true:=by
      simp only[Array.getD_eq_getD_getElem?];rw[Array.getElem?_setIfInBounds_ne p]
     rw[this,C j hj]
     simp[Ne.symm p]
   .intro j hj
    rcases List.mem_cons.1 hj with rfl | hj
    .exact c
    .exact D j hj
   .rw[List.reverse_cons]
    intro af j N V k hk
    rcases List.eq_nil_or_concat N with rfl | ⟨r,x,rfl⟩
    .have hh:=List.append_inj' V rfl
     obtain ⟨h1,h2⟩:=hh;simp only[List.cons.injEq,and_true] at h2;subst h2;subst h1;have Z:=hk;unfold Xw at hk;rw[show ops.toList[i]? =some ops[i] by simp[c]] at hk
     simp only[Option.map_some,Option.getD_some,List.mem_map,List.mem_filter] at hk;obtain ⟨e,⟨f,W⟩,rfl⟩:=hk;rw[show ops[i]? =some ops[i] by simp[c]] at n
     simp only[Option.map_some,Option.getD_some,Array.all_eq_true'] at n;have h4:=n e (by simpa using f)
     simp only[Bool.or_eq_true,Bool.not_eq_true'] at h4
     rcases h4 with h4 | h4
     .rw[X1Y W] at h4;cases h4
     .have an:=Ao R i (by simpa using c) e.on Z
      have:listed.getD e.on true=true:=by
       simp only[Array.getD_eq_getD_getElem?] at h4⊢;rw[Array.getElem?_eq_getElem Q4] at h4⊢
       simpa using h4
      simpa using (C e.on Q4).1 this
    .rw[List.concat_eq_append,<-List.cons_append,<-List.append_assoc] at V
     have hh:=List.append_inj' V rfl;exact hr af j r hh.1 k hk
  .rename_i q
   exfalso
   obtain ⟨k0,y,z⟩:=X;have s:=O;simp only[Xu,Bool.and_eq_true] at s
   -- every number of L0 that is none of an operation's has no edges: it may stand there, but isn't looked at
   have g: ∃k,k<ops.size/\k∉a/\ ∀e∈(ops.toList[k]?.map fun o=>o.after.toList).getD [],Region.binds m e=true->e.on∈a\/ops.size<=e.on:=by
    -- the first of L0 that is an operation's number and isn't listed
    have key: ∀(L b:List Nat),Q7p m ops.toList L b=true->(∀k∈b,k∈a\/ops.size<=k)->(∃k∈L,k<ops.size/\k∉a)->
     ∃k,k<ops.size/\k∉a/\ ∀e∈(ops.toList[k]?.map fun o=>o.after.toList).getD [],Region.binds m e=true->e.on∈a\/ops.size<=e.on:=by
     intro L
     induction L with
     | nil=>rintro b _ _ ⟨k,hk,_⟩;simp at hk
     | cons j L ih=>
      rintro b h hs ⟨k,hk,ab,B⟩;simp only[Q7p,Bool.and_eq_true,List.all_eq_true] at h
      by_cases hj:j∈a\/ops.size<=j
      .refine ih (j::b) h.2 (fun x hx=>by rcases List.mem_cons.1 hx with rfl | hx;exact hj;exact hs x hx) ⟨k,?_,ab,B⟩
       rcases List.mem_cons.1 hk with rfl | hk
       .rcases hj with hj | hj
        .exact absurd hj B
        .omega
       .exact hk
      .have Y:j<ops.size:=by
        refine Nat.lt_of_not_le fun h=>hj (.inr h)
       refine ⟨j,Y,fun h=>hj (.inl h),fun e R Q=>?_⟩;have:=h.1 e R;rw[Q] at this;exact hs _ (by simpa using this)
    exact key U [] s.1.1 U5 ⟨k0,Q8N O k0 (by simpa using y),y,z⟩
   obtain ⟨k,d,aa,A⟩:=g
   by_cases w:k∈(List.range ops.size).filter fun i=> !listed.getD i true&&((ops[i]?).map (·.after.all fun e=> !Region.binds m e||listed.getD e.on false)).getD false
   .have J:=List.length_pos_of_mem w
    have:=List.getElem?_eq_none_iff.1 q;have:=Nat.mod_lt t J;omega
   .refine w ?_
    simp only[List.mem_filter,List.mem_range,Bool.and_eq_true,Bool.not_eq_true'];refine ⟨d,?_,?_⟩
    .cases hc:listed.getD k true with
     | false=>rfl
     | true=>exact absurd ((C k d).1 hc) aa
    .rw[show ops[k]? =some ops[k] by simp[d]]
     simp only[Option.map_some,Option.getD_some,Array.all_eq_true'];intro e f;simp only[Bool.or_eq_true,Bool.not_eq_true'];cases Q:Region.binds m e with
     | false=>exact .inl rfl
     | true=>
      right;rw[show ops.toList[k]? =some ops[k] by simp[d]] at A
      rcases A e (by simpa using f) Q with h | h
      .have E:=D _ h
       have:=(C e.on E).2 h;simp only[Array.getD_eq_getD_getElem?] at this⊢;rw[Array.getElem?_eq_getElem Q4] at this⊢
       simpa using this
      .exact absurd h (by
        have:=X1m O k (by simpa using d) e (by rw[show ops.toList[k]? =some ops[k] by simp[d]];simpa using f) Q
        simp at this;omega)
theorem Q7k (b:Bool) (ops:Array Oper) (t:Nat) (d:Lg ops.toList=true) (f: ∀m,∃L,Xu m ops.toList L=true):
 (Region.schedule b ops t).Nodup/\(Region.schedule b ops t).length=ops.size/\Fa ops.toList (Region.schedule b ops t):=by
 have key: ∀m t,(Region.linearise m ops t).Nodup/\(Region.linearise m ops t).length=ops.size/\Fa ops.toList (Region.linearise m ops t):=by
  intro m t;obtain ⟨L,c⟩:=f m;refine X0b m ops d L c _ _ _ _ U5 U5 ?_ List.nodup_nil U5 ?_
  .intro i e;simp[Array.getD,e]
  .intro g j a h;simp at h
 unfold Region.schedule
 split<;>exact key _ _
theorem Jt: ∀(ops:List Oper),Je (G1 ops)=true-> ∀(i j:Nat) (a b:Oper) (d:Nat),ops[i]? =some a->ops[j]? =some b->a.dst=some d->b.dst=some d->i=j
 | [],_,i,j,a,b,d,h,_,_,_=>by simp at h
 | o::c,g,i,j,a,b,d,m,n,p,r=>by
  have f: ∀(k:Nat) (q:Oper),c[k]? =some q->q.dst=some d->d∈G1 c:=by
   intro k q s v;simp only[G1,List.mem_filterMap];exact ⟨q,List.mem_of_getElem? s,v⟩
  have l:Je (G1 c)=true:=by
   simp only[G1,List.filterMap_cons] at g
   split at g
   .exact g
   .simp only[Je,Bool.and_eq_true] at g;exact g.2
  have e:o.dst=some d->d∉G1 c:=by
   intro u;simp only[G1,List.filterMap_cons,u,Je,Bool.and_eq_true,Bool.not_eq_true'] at g;intro t;have:=g.1;simp only[List.contains_eq_mem,decide_eq_false_iff_not] at this;exact this t
  cases i with
  | zero=>
   simp only[List.getElem?_cons_zero,Option.some.injEq] at m;subst m;cases j with
   | zero=>rfl
   | succ j=>exact absurd (f j b (by simpa using n) r) (e p)
  | succ i=>
   cases j with
   | zero=>
    simp only[List.getElem?_cons_zero,Option.some.injEq] at n;subst n;exact absurd (f i a (by simpa using m) p) (e r)
   | succ j=>rw[Jt c l i j a b d (by simpa using m) (by simpa using n) p r]
theorem Au (u:Nat->Value): ∀(S:List Ent) (s:Nat),get (Qc u S) s=(getE S s).at u
 | [],s=>by simp[Qc,get,getE,Ent.at]
 | e::S,0=>rfl
 | e::S,s+1=>Au u S s
theorem Px: ∀(S:List Ent) (s:Nat),getE S s=(S[s]?).getD (.val undef)
 | [],s=>by simp[getE]
 | e::S,0=>rfl
 | e::S,s+1=>by simp only[getE,List.getElem?_cons_succ];exact Px S s
theorem Q3r: ∀(S:List Ent) (n:Nat) (e:Ent),Q4D S n e=S.set n e
 | [],n,e=>by simp[Q4D]
 | x::S,0,e=>rfl
 | x::S,n+1,e=>by simp only[Q4D,List.set_cons_succ,Q3r S n e]
theorem Q6J {x:Nat}: ∀{l:List Nat},x∈l->x∈Q3g l
 | y::l,h=>by
  simp only[Q3g,List.mem_cons,List.mem_filter]
  by_cases e:x=y
  .exact .inl e
  .exact .inr ⟨Q6J ((List.mem_cons.1 h).resolve_left e),by simpa using e⟩
theorem Ir {x:Nat}: ∀{l:List Nat},x∈Q3g l->x∈l
 | y::l,h=>by
  simp only[Q3g,List.mem_cons,List.mem_filter] at h⊢;exact h.imp id fun h=>Ir h.1
theorem Q6K {S:List Ent} {j:Nat}: ∀{l:List Nat} {s:Nat},s∈l->getE S s= .ref j->j∈Q3p S l
 | x::l,s,h,e=>by
  simp only[Q3p,List.mem_append]
  rcases List.mem_cons.1 h with rfl | h
  .left;rw[e];simp[Q7o]
  .right;exact Q6K h e
theorem Km {S:List Ent} {j:Nat}: ∀{l:List Nat},j∈Q3p S l-> ∃s∈l,getE S s= .ref j
 | x::l,h=>by
  simp only[Q3p,List.mem_append] at h
  rcases h with h | h
  .refine ⟨x,by simp,?_⟩
   cases a:getE S x with
   | val v=>rw[a] at h;simp[Q7o] at h
   | ref k=>rw[a] at h;simp[Q7o] at h;rw[h]
  .obtain ⟨s,b,e⟩:=Km h
   exact ⟨s,by simp[b],e⟩
theorem Q4j: ∀(a:List Nat) (c u:Nat->Value) (k:(Nat->Value)->Prop),Ns a c k-> ∃b,k b/\ ∀x,(x∈a->b x=u x)/\(x∉a->b x=c x)
 | [],c,u,k,h=>⟨c,h,fun x=>⟨fun h=>by simp at h,fun _=>rfl⟩⟩
 | j::a,c,u,k,h=>by
  obtain ⟨b,g,d⟩:=Q4j a _ u k (h (u j));refine ⟨b,g,fun x=>⟨fun hx=>?_,fun hx=>?_⟩⟩
  .by_cases f:x∈a
   .exact (d x).1 f
   .rw[(d x).2 f]
    rcases List.mem_cons.1 hx with rfl | hx
    .simp
    .exact absurd hx f
  .rw[(d x).2 (fun h=>hx (List.mem_cons_of_mem _ h))]
   have:x≠j:=fun e=>hx (by simp[e])
   simp[this]
theorem Q4u {f:Bz} {u:Nat->Value} {e:Nat->Iv} {w:World} {a:Prop}: ∀{d:List Nat},Nw f u e w a d->(∀j∈d,∀φ,Lz f j=some ([],φ)->φ [] (e j) (u j) w)->a
 | [],h,_=>h
 | j::d,h,c=>by
  simp only[Nw] at h
  split at h
  .rename_i φ g
   exact Q4u (h (c j U5 φ g)) fun k b=>c k (by simp[b])
  .exact Q4u h fun k b=>c k (by simp[b])
theorem Q2t {f:Bz} {u:Nat->Value} {e:Nat->Iv} {w:World} {a:Prop}: ∀{d:List Nat},Q3l f u e w a d->(∀j∈d,∀R φ,Lz f j=some (R,φ)->φ (R.map u) (e j) (u j) w)->a
 | [],h,_=>h
 | j::d,h,c=>by
  simp only[Q3l] at h
  split at h
  .rename_i R φ g
   exact Q2t (h (c j U5 R φ g)) fun k b=>c k (by simp[b])
  .exact Q2t h fun k b=>c k (by simp[b])
theorem Q0l {a:Bz} {i j:Nat} {φ:List Nat×(List Value->Iv->Value->World->Prop)} (h:i≠j):Lz (a++[(i,φ)]) j=Lz a j:=by
 induction a with
 | nil=>simp[Lz,h]
 | cons p a b=>obtain ⟨k,ψ⟩:=p;simp only[List.cons_append,Lz,b]
theorem Ey {a:Bz} {i:Nat} {φ:List Nat×(List Value->Iv->Value->World->Prop)} (h:Lz a i=none):Lz (a++[(i,φ)]) i=some φ:=by
 induction a with
 | nil=>simp[Lz]
 | cons p a c=>
  obtain ⟨k,ψ⟩:=p;simp only[Lz] at h
  split at h
  .cases h
  .rename_i b;simp only[List.cons_append,Lz,b,if_false];exact c h
def Gn (S:List Ent) (i:Nat) (o:Oper):Ent:=match mv o with | some x=>entOf S x | none=> .ref i
def C5 (S:List Ent):Nat->List Oper->List Ent
 | _,[]=>S
 | i,o::a=>C5 (putE S o.dst (Gn S i o)) (i+1) a
theorem Q6V: ∀(a:List Oper) (S:List Ent) (i k:Nat) (o:Oper),a[k]? =some o->
 C5 S i (a.take (k+1))=putE (C5 S i (a.take k)) o.dst (Gn (C5 S i (a.take k)) (i+k) o)
 | [],_,_,_,_,h=>by simp at h
 | x::a,S,i,0,o,h=>by
  simp only[List.getElem?_cons_zero,Option.some.injEq] at h;subst h
  simp[C5]
 | x::a,S,i,k+1,o,h=>by
  simp only[List.getElem?_cons_succ] at h;have:=Q6V a (putE S x.dst (Gn S i x)) (i+1) k o h;simp only[List.take_succ_cons,C5];rw[this,show i+1+k=i+(k+1) from by omega]
def Uj (S:List Ent) (D:List Nat):Prop:= ∀e∈S,∀j,e= .ref j->j∈D
theorem Uj.getE {S:List Ent} {D:List Nat} (h:Uj S D) {s j:Nat} (e:Go.Emb.getE S s= .ref j):j∈D:=by
 rw[Px] at e;cases a:S[s]? with
 | none=>rw[a] at e;cases e
 | some x=>rw[a] at e;exact h x (List.mem_of_getElem? a) j e
theorem Uj.putE {S:List Ent} {D:List Nat} (h:Uj S D) (d:Option Nat) {e:Ent} (c: ∀j,e= .ref j->j∈D):Uj (Go.Emb.putE S d e) D:=by
 cases d with
 | none=>exact h
 | some d=>
  intro x a j b;simp only[Go.Emb.putE,Q3r] at a
  rcases List.mem_or_eq_of_mem_set a with a | rfl
  .exact h x a j b
  .exact c j b
theorem Uj.mono {S:List Ent} {D a:List Nat} (h:Uj S D) (b: ∀j∈D,j∈a):Uj S a:=fun e c j d=>b j (h e c j d)
theorem Uj.entOf {S:List Ent} {D:List Nat} (h:Uj S D) (x:Operand) {j:Nat} (e:Go.Emb.entOf S x= .ref j):j∈D:=by
 cases x with
 | tmp t=>exact h.getE e
 | _=>cases e
theorem X0U {S:List Ent} {D:List Nat} (h:Uj S D) {u a:Nat->Value} (c: ∀j∈D,a j=u j):Qc a S=Qc u S:=by
 unfold Qc;refine List.map_congr_left fun e b=>?_;cases e with
 | val v=>rfl
 | ref j=>exact c j (h _ b j rfl)
theorem Q4c {P:Program} {ops:List Oper} {l l':List Value} {o:Oper} (e:Jg o.op=true) (h: ∀s∈F8 ops o++G7 o,get l s=get l' s):runOp P ops l o=runOp P ops l' o:=by
 funext w K
 unfold runOp
 rw[Se e fun x f=>by
  cases x with
  | tmp s=>exact h s (List.mem_append_right _ (by simp only[G7,List.mem_filterMap];exact ⟨.tmp s,by simpa using f,rfl⟩))
  | _=>rfl]
 cases a:o.guard with
 | none=>rfl
 | some q=>
  obtain ⟨j,b⟩:=q;simp only;cases c:(ops[j]?).bind (·.dst) with
  | none=>rfl
  | some d=>simp only;rw[h d (List.mem_append_left _ (by simp[F8,a,c]))]
theorem Q5s {P:Program} {ops:List Oper} {l:List Value} {o:Oper} {w:World} {K d:Value->World->Prop} (c: ∀v w,K v w->d v w) (h:runOp P ops l o w K):runOp P ops l o w d:=by
 unfold runOp at*
 split at h
 .exact Qp c h
 .split at h
  .exact Q2q ((Ou h).imp (fun ⟨a,b⟩=>⟨a,Qp c b⟩) (fun ⟨a,b⟩=>⟨a,c _ _ b⟩))
  .exact h.elim
theorem Q4N {P:Program} {ops:List Oper} {W3:List Value->World->Prop} {o:Oper} {a:List Oper} {l:List Value} {w:World}
 (h:runOp P ops l o w (fun v w=>J5 P ops W3 a (put l o.dst v) w)):J5 P ops W3 (o::a) l w:=by
 simp only[J5];unfold runOp at h;cases e:o.guard with
 | none=>simp only[e] at h⊢;exact h
 | some q=>
  obtain ⟨j,b⟩:=q;simp only[e] at h⊢
  split at h
  .rename_i d c
   first | exact h | (simp only[c];exact h) | (rw[c];exact h)
  .exact h.elim
structure Whole (P : Program) (r : Bool) (ops : List Oper) (T : (Nat -> Iv) -> World -> World -> Prop) (B : World -> Prop) (W3 : List Value -> World -> Prop) (tail : List Oper) (Φ : Nat -> (Nat -> Value) -> Iv -> World -> Prop) (S : List Ent) (i : Nat) (rest : List Oper) (D : List Nat) : Prop where
  stable : ∀ k o, rest[k]? = some o -> mv o = none -> ∀ u iv w w', OkI r iv -> Φ (i + k) u (iv (i + k)) w -> T iv w w' -> Φ (i + k) u (iv (i + k)) w'
  loc : ∀ k o, rest[k]? = some o -> mv o = none -> ∀ u u', (∀ r ∈ (i + k) :: refs ops (C5 S i (rest.take k)) o, u r = u' r) -> Φ (i + k) u = Φ (i + k) u'
  run : ∀ k o, rest[k]? = some o -> mv o = none -> Jg o.op = true -> ∀ u iv w, OkI r iv -> B w -> (∀ j ∈ refs ops (C5 S i (rest.take k)) o, Φ j u (iv j) w) ->
    runOp P ops (Qc u (C5 S i (rest.take k))) o w (fun v w' => T iv w w' /\ ∀ u', (∀ r ∈ refs ops (C5 S i (rest.take k)) o, u' r = u r) -> u' (i + k) = v -> Φ (i + k) u' (Rm r w, Rm r w') w')
  last : ∀ u iv w, OkI r iv -> B w -> (∀ j ∈ D, Φ j u (iv j) w) -> (∀ k o, rest[k]? = some o -> mv o = none -> Φ (i + k) u (iv (i + k)) w) -> J5 P ops W3 tail (Qc u (C5 S i rest)) w
theorem Q25 (P:Program) (r:Bool) (ops:List Oper) (T:(Nat->Iv)->World->World->Prop) (B:World->Prop) (W3:List Value->World->Prop) (tail:List Oper): ∀(l:List Oper) (i:Nat) (S:List Ent) (t:Bz) (done:List Nat),
 Uj S done->(∀j,j∈done->j<i/\ ∃φ,Lz t j=some φ)->(∀j φ,Lz t j=some φ->j<i/\ ∀r∈φ.1,r∈done)->chain P r ops T B W3 tail i l S t done->
 ∃Φ:Nat->(Nat->Value)->Iv->World->Prop,(∀j R φ,Lz t j=some (R,φ)->Φ j=fun u p w=>φ (R.map u) p (u j) w)/\Whole P r ops T B W3 tail Φ S i l done
 | [],i,S,t,done,O,X,N,h=>by
  refine ⟨fun j u p w=>match Lz t j with | some (R,φ)=>φ (R.map u) p (u j) w | none=>True,fun j R φ hj=>by simp[hj],⟨by simp,by simp,by simp,?_⟩⟩
  intro u b w y hB J _;obtain ⟨C,m,d⟩:=Q4j done _ u _ h
  have n:=Q2t (Q7z m y w hB) fun j hj R φ V=>by
   have:=J j hj;simp only[V] at this;rw[(d j).1 hj,show R.map C=R.map u from List.map_congr_left fun r g=>(d r).1 ((N j _ V).2 r g)];exact this
  rw[X0U O fun j hj=>(d j).1 hj,Bg] at n;exact n
 | o::l,i,S,t,done,O,X,N,h=>by
  simp only[chain] at h;cases z:mv o with
  | some x=>
   simp only[z] at h;have f:Gn S i o=entOf S x:=by simp[Gn,z]
   obtain ⟨Φ,m,d⟩:=Q25 P r ops T B W3 tail l (i+1) _ t done (O.putE _ fun j hj=>O.entOf x hj) (fun j hj=>⟨by have:=(X j hj).1;omega,(X j hj).2⟩) (fun j φ hj=>⟨by have:=(N j φ hj).1;omega,(N j φ hj).2⟩) h
   refine ⟨Φ,m,⟨?_,?_,?_,?_⟩⟩
   .intro k q c a
    cases k with
    | zero=>simp only[List.getElem?_cons_zero,Option.some.injEq] at c;subst c;rw[z] at a;cases a
    | succ k=>have:=d.stable k q (by simpa using c) a;rwa [show i+1+k=i+(k+1) from by omega] at this
   .intro k q c a u C Q
    cases k with
    | zero=>simp only[List.getElem?_cons_zero,Option.some.injEq] at c;subst c;rw[z] at a;cases a
    | succ k=>
     simp only[List.take_succ_cons,C5,f] at Q;have:=d.loc k q (by simpa using c) a u C (by rwa [show i+1+k=i+(k+1) from by omega])
     rwa [show i+1+k=i+(k+1) from by omega] at this
   .intro k q c a D u b w y hB g
    cases k with
    | zero=>simp only[List.getElem?_cons_zero,Option.some.injEq] at c;subst c;rw[z] at a;cases a
    | succ k=>
     simp only[List.take_succ_cons,C5,f] at g⊢;have:=d.run k q (by simpa using c) a D u b w y hB g
     rwa [show i+1+k=i+(k+1) from by omega] at this
   .intro u b w y hB J Z
    simp only[C5,f];refine d.last u b w y hB J fun k q c a=>?_;have:=Z (k+1) q (by simpa using c) a
    rwa [show i+(k+1)=i+1+k from by omega] at this
  | none=>
   have h': ∃(R:List Nat) (φ:List Value->Iv->Value->World->Prop),(∀r∈R,r∈refs ops S o)/\(∀xs b,OkI r b->Mi (T b) (φ xs (b i)))/\
    (Ns (refs ops S o) (fun _=>undef) fun u=>allI r fun b=> ∀w,B w->Nw t u b w (runOp P ops (Qc u S) o w (fun v w'=>T b w w'/\φ (R.map u) (Rm r w,Rm r w') v w')) (refs ops S o))/\
    chain P r ops T B W3 tail (i+1) l (putE S o.dst (.ref i)) (t++[(i,R,φ)]) (done++[i]):=by
    cases L:X1k r o with
    | true=>
     cases r with
     | true=>
      simp only[z,L,X3J,Q4q] at h;obtain ⟨φ,m,d,n⟩:=h;exact ⟨_,fun xs _=>φ xs,fun _ h=>h,fun xs b e=>m xs b e,d,n⟩
     | false=>
      simp only[z,L,X06,Q5R] at h;obtain ⟨φ,m,d,n⟩:=h;exact ⟨_,fun xs _=>φ xs,fun _ h=>h,fun xs b e=>by have e:b=_:=e;subst e;exact m xs,d,n⟩
    | false=>
     cases Y:X1j r o with
     | true=>
      simp only[z,L,Y,X5n,Q5Q] at h;obtain ⟨φ,m,d,n⟩:=h;cases r with
      | false=>cases Y
      | true=>exact ⟨[],fun _=>φ,by simp,fun _ b e=>m b e,d,n⟩
     | false=>
      cases r with
      | true=>
       simp only[z,L,Y,X5m,Q5P] at h;obtain ⟨φ,m,d,n⟩:=h;exact ⟨[],fun _ _=>φ,by simp,fun _ b e=>m b e,d,n⟩
      | false=>
       simp only[z,L,Y,X2e,Q7T] at h;obtain ⟨φ,m,d,n⟩:=h;exact ⟨[],fun _ _=>φ,by simp,fun _ b e=>by have e:b=_:=e;subst e;exact m,d,n⟩
   clear h;obtain ⟨R,φ,W,ad,U,h⟩:=h'
   have ac: ∀r∈refs ops S o,r∈done:=fun r g=>by
    obtain ⟨s,_,he⟩:=Km (Ir g);exact O.entOf (.tmp s) he
   have f:Gn S i o= .ref i:=by simp[Gn,z]
   have A:Lz t i=none:=by
    cases J:Lz t i with
    | none=>rfl
    | some ψ=>have:=(N i ψ J).1;omega
   obtain ⟨Φ,m,d⟩:=Q25 P r ops T B W3 tail l (i+1) _ (t++[(i,R,φ)]) (done++[i])
    ((O.mono fun j hj=>List.mem_append_left _ hj).putE _ fun j hj=>by cases hj;simp)
    (fun j hj=>by
     rcases List.mem_append.1 hj with hj | hj
     .obtain ⟨n,ψ,H⟩:=X j hj
      exact ⟨by omega,ψ,by rw[Q0l Q4];exact H⟩
     .simp at hj;subst hj;exact ⟨by omega,(R,φ),Ey A⟩)
    (fun j ψ hj=>by
     by_cases e:i=j
     .subst e
      rw[Ey A] at hj;cases hj;exact ⟨by omega,fun r g=>List.mem_append_left _ (ac r (W r g))⟩
     .rw[Q0l e] at hj
      obtain ⟨n,H⟩:=N j ψ hj;exact ⟨by omega,fun r g=>List.mem_append_left _ (H r g)⟩) h
   have M:Φ i=fun u p w=>φ (R.map u) p (u i) w:=m i R φ (Ey A);have E: ∀j R' ψ,Lz t j=some (R',ψ)->Φ j=fun u p w=>ψ (R'.map u) p (u j) w:=fun j R' ψ hj=>m j R' ψ (by rw[Q0l (by have:=(N j _ hj).1;omega)];exact hj)
   refine ⟨Φ,E,⟨?_,?_,?_,?_⟩⟩
   .intro k q c a
    cases k with
    | zero=>
     intro u b w w' y ha hT;rw[Nat.add_zero,M] at ha⊢;exact ad _ b y _ _ _ ha hT
    | succ k=>have:=d.stable k q (by simpa using c) a;rwa [show i+1+k=i+(k+1) from by omega] at this
   .intro k q c a u C Q
    cases k with
    | zero=>
     simp only[List.getElem?_cons_zero,Option.some.injEq] at c;subst c;simp only[List.take_zero,C5,Nat.add_zero] at Q;rw[Nat.add_zero,M]
     funext p w
     show φ (R.map u) p (u i) w=φ (R.map C) p (C i) w
     rw[show R.map u=R.map C from List.map_congr_left fun r g=>Q r (List.mem_cons_of_mem _ (W r g)),Q i U5]
    | succ k=>
     simp only[List.take_succ_cons,C5,f] at Q;have:=d.loc k q (by simpa using c) a u C (by rwa [show i+1+k=i+(k+1) from by omega])
     rwa [show i+1+k=i+(k+1) from by omega] at this
   .intro k q c a D u b w y hB g
    cases k with
    | zero=>
     simp only[List.getElem?_cons_zero,Option.some.injEq] at c;subst c;simp only[List.take_zero,C5,Nat.add_zero] at g⊢;obtain ⟨C,n,H⟩:=Q4j _ _ u _ U
     have h5:=Q4u (Q7z n y w hB) fun j hj ψ hψ=>by
      have h6:=g j hj;rw[E j [] ψ hψ] at h6;rw[(H j).1 hj];exact h6
     rw[Q4c D (l':=Qc u S)] at h5
     .refine Q5s ?_ h5
      rintro v w' ⟨hT,hf⟩;refine ⟨hT,fun u2 ae hi=>?_⟩;rw[M]
      show φ (R.map u2) (Rm r w,Rm r w') (u2 i) w'
      rw[hi,show R.map u2=R.map C from List.map_congr_left fun r g=>by rw[ae r (W r g),(H r).1 (W r g)]]
      exact hf
     .intro s L
      rw[Au,Au];cases he:getE S s with
      | val v=>rfl
      | ref j=>exact (H j).1 (Q6J (Q6K L he))
    | succ k=>
     simp only[List.take_succ_cons,C5,f] at g⊢;have:=d.run k q (by simpa using c) a D u b w y hB g
     rwa [show i+1+k=i+(k+1) from by omega] at this
   .intro u b w y hB J Z
    simp only[C5,f];refine d.last u b w y hB (fun j hj=>?_) fun k q c a=>?_
    .rcases List.mem_append.1 hj with hj | hj
     .exact J j hj
     .simp at hj;subst hj
      have:=Z 0 o U5 z
      simpa using this
    .have:=Z (k+1) q (by simpa using c) a
     rwa [show i+(k+1)=i+1+k from by omega] at this
def Yx (os:List Oper) (S0:List Ent) (q:Nat):Ent:=
 match os[q]? with
 | some o=>Gn (C5 S0 0 (os.take q)) q o
 | none=> .val undef
theorem X0u {os:List Oper} {S0:List Ent} {q:Nat} {o:Oper} (h:os[q]? =some o):C5 S0 0 (os.take (q+1))=putE (C5 S0 0 (os.take q)) o.dst (Yx os S0 q):=by
 rw[Q6V os S0 0 q o h]
 simp[Yx,h]
theorem Q9D (S:List Ent) (d:Option Nat) (e:Ent):(putE S d e).length=S.length:=by
 cases d with
 | none=>rfl
 | some d=>simp[putE,Q3r]
theorem Q0W (os:List Oper) (S0:List Ent): ∀q,q<=os.length->(C5 S0 0 (os.take q)).length=S0.length
 | 0,_=>by simp[C5]
 | q+1,h=>by rw[X0u (List.getElem?_eq_getElem Q4),Q9D,Q0W os S0 q Q4]
theorem Gw {os:List Oper} {S0:List Ent} (u:Je (G1 os)=true) (t: ∀d∈G1 os,d<S0.length): ∀q,q<=os.length->
 (∀p,p<q-> ∀o d,os[p]? =some o->o.dst=some d->(C5 S0 0 (os.take q))[d]? =some (Yx os S0 p))/\
  (∀s,(∀p,p<q-> ∀o,os[p]? =some o->o.dst≠some s)->(C5 S0 0 (os.take q))[s]? =S0[s]?)
 | 0,_=>⟨fun p k=>absurd k Q4,fun s _=>by simp[C5]⟩
 | q+1,h=>by
  obtain ⟨n,r⟩:=Gw u t q Q4;have j:os[q]? =some os[q]:=List.getElem?_eq_getElem Q4;have i:=Q0W os S0 q Q4;rw[X0u j];cases a:os[q].dst with
  | none=>
   refine ⟨fun p k o d c b=>?_,fun s l=>r s fun p k=>l p Q4⟩
   by_cases e:p=q
   .subst e;rw[j] at c;cases c;rw[a] at b;cases b
   .exact n p Q4 o d c b
  | some g=>
   have m:g<S0.length:=t g (by simp only[G1,List.mem_filterMap];exact ⟨os[q],List.getElem_mem _,a⟩)
   simp only[putE,Q3r];refine ⟨fun p k o d c b=>?_,fun s l=>?_⟩
   .by_cases e:p=q
    .subst e;rw[j] at c;cases c;rw[a] at b;cases b
     rw[List.getElem?_set_self (by rw[i];exact m)]
    .have f:g≠d:=by
      rintro rfl;exact e (Jt os u p q o os[q] g c j b a)
     rw[List.getElem?_set_ne f];exact n p Q4 o d c b
   .have f:g≠s:=fun e=>l q Q4 os[q] j (by rw[a,e])
    rw[List.getElem?_set_ne f];exact r s fun p k=>l p Q4
def Es (os:List Oper) (p:Nat):Bool:=
 match os[p]? with
 | some o=>match mv o with
  | some (.tmp s)=> !(G1 os).contains s
  | some _=>true
  | none=>false
 | none=>false
theorem X6Y {P:Program} {o:Oper} {x:Operand} (h:mv o=some x) (l:List Value) (w:World) (K:Value->World->Prop):o.guard=none/\N3 P l o w K=K (ev l x) w:=by
 unfold mv at h
 split at h
 .cases h
 .rename_i b
  refine ⟨b,?_⟩
  split at h
  .rename_i y a;cases h;simp only[N3,a]
  .rename_i y a;cases h;simp only[N3,a]
  .cases h
theorem Q9j {P:Program} {ops:List Oper} {W3:List Value->World->Prop} {o:Oper} {c a:List Oper} {l l':List Value} {w:World} (p:Jg o.op=true) (n: ∀s∈F8 ops o++G7 o,get l' s=get l s)
 (f: ∀v w,J5 P ops W3 c (put l o.dst v) w->J5 P ops W3 a (put l' o.dst v) w) (h:J5 P ops W3 (o::c) l w):J5 P ops W3 (o::a) l' w:=by
 have m:N3 P l' o=N3 P l o:=Se p fun x r=>by
  cases x with
  | tmp s=>exact n s (List.mem_append_right _ (by simp only[G7,List.mem_filterMap];exact ⟨.tmp s,by simpa using r,rfl⟩))
  | _=>rfl
 simp only[J5] at h⊢;cases e:o.guard with
 | none=>simp only[e] at h⊢;rw[m];exact Qp f h
 | some q=>
  obtain ⟨j,b⟩:=q;simp only[e] at h⊢;cases k:(ops[j]?).bind (·.dst) with
  | none=>simp only[k] at h⊢;exact f _ _ h
  | some d=>
   simp only[k] at h⊢;rw[n d (List.mem_append_left _ (by simp[F8,e,k])),m]
   exact Q2q ((Ou h).imp (fun ⟨g,i⟩=>⟨g,Qp f i⟩) (fun ⟨g,i⟩=>⟨g,f _ _ i⟩))
structure At (os : List Oper) (l0 : List Value) (pre : List Nat) (l : List Value) (u : Nat -> Value) : Prop where
  len : l.length = l0.length
  done : ∀ p ∈ pre, ∀ o d, os[p]? = some o -> o.dst = some d -> l[d]? = some ((Yx os (l0.map .val) p).at u)
  rest : ∀ s, (∀ p ∈ pre, ∀ o, os[p]? = some o -> o.dst ≠ some s) -> l[s]? = l0[s]?
  refs : ∀ p ∈ pre, ∀ r, Yx os (l0.map .val) p = .ref r -> r ∈ pre /\ ∃ o, os[r]? = some o /\ mv o = none
theorem X8c {P:Program} {r0:Bool} {ops os:List Oper} {T:(Nat->Iv)->World->World->Prop} {B:World->Prop} {W3:List Value->World->Prop} {m:Nat} {C:List Value} {Φ:Nat->(Nat->Value)->Iv->World->Prop}
 (bit:Nat->Nat->Bool) (bz: ∀o∈os,Jg o.op=true) (hn:Je (G1 os)=true) (hd: ∀d∈G1 os,d<C.length)
 (ae: ∀p q a b,p<q->os[p]? =some a->os[q]? =some b->(Yp a b||Yp b a)=true->bit p q=true)
 (hg: ∀q o j b,os[q]? =some o->o.guard=some (j,b)-> ∃p,p<q/\os[p]? =ops[j]? /\bit p q=true)
 (hm:m<=os.length) (an: ∀q,m<=q->q<os.length-> ∀p,p<q->bit p q=true\/(p<m/\Es os p=true))
 (hT: ∀iv w w',B w->T iv w w'->B w') (hM: ∀iv w w',T iv w w'->Rm r0 w<=Rm r0 w') (hW:Whole P r0 ops T B W3 (os.drop m) Φ (C.map .val) 0 (os.take m) [])
 (L:List Nat) (H:L.Nodup) (bo:L.length=os.length) (ac: ∀q∈L,q<os.length)
 (hC: ∀c q f,L=c++q::f-> ∀p,bit p q=true->p<os.length->p∈c):
 ∀(f c:List Nat),L=c++f->(∀q∈c,q<m)-> ∀(l:List Value) (u:Nat->Value) (iv:Nat->Iv) (w:World),Il r0 iv w->At os C c l u->B w->
  (∀r∈c,∀o,os[r]? =some o->mv o=none->Φ r u (iv r) w/\ ∀j∈refs ops (C5 (C.map .val) 0 (os.take r)) o,j∈c)->J5 P ops W3 (f.filterMap (os[·]?)) l w:=by
 have a8: ∀d∈G1 os,d<(C.map Ent.val).length:=by simpa using hd
 have a4: ∀q,q<=m->(os.take m).take q=os.take q:=fun q hq=>by rw[List.take_take,Nat.min_eq_left hq]
 have X: ∀q,q<m->(os.take m)[q]? =os[q]? :=fun q hq=>by rw[List.getElem?_take_of_lt hq]
 -- when all of the first part is done
 have cq: ∀(c f:List Nat),L=c++f->(∀q∈c,q<m)->(∀q,q<m->q∈c)-> ∀l u iv w,Il r0 iv w->At os C c l u->B w->
  (∀r∈c,∀o,os[r]? =some o->mv o=none->Φ r u (iv r) w/\ ∀j∈refs ops (C5 (C.map .val) 0 (os.take r)) o,j∈c)->J5 P ops W3 (f.filterMap (os[·]?)) l w:=by
  intro c f E D ao l u iv w hI hA hB hΦ
  have cf: ∀(f c:List Nat),L=c++f->m<=c.length->(∀q,q∈c↔q<c.length)->f.filterMap (os[·]?)=os.drop c.length:=by
   intro f
   induction f with
   | nil=>
    intro c E _ _;rw[List.append_nil] at E;rw[<-E,bo];simp
   | cons q f ih=>
    intro c E da ax
    have cy:q∉c:=by
     rw[E] at H;intro h;exact (List.nodup_append.1 H).2.2 q h q U5 rfl
    have cv:c.length<=q:=Nat.le_of_not_lt fun h=>cy ((ax q).2 h);have V:=ac q (by rw[E];simp)
    have cw:q=c.length:=by
     refine Nat.le_antisymm (Nat.le_of_not_lt fun h=>?_) cv;have:=hC c q f E c.length ((an q Q4 V _ h).resolve_right Q4) Q4;have:=(ax _).1 this;omega
    subst cw;rw[List.filterMap_cons,List.getElem?_eq_getElem V];simp only;rw[ih (c++[c.length]) (by rw[E];simp) (by simp;omega) (by intro x;simp only[List.mem_append,ax,List.mem_singleton,List.length_append,List.length_cons,List.length_nil];omega)]
    simp only[List.length_append,List.length_cons,List.length_nil];rw[<-List.drop_eq_getElem_cons V]
  have bk:c.length=m:=by
   have J:=I7 m c (by rw[E] at H;exact (List.nodup_append.1 H).1) D
   have R:=Ny m c ao;omega
  have J:=cf f c E Q4 (fun q=>by rw[bk];exact ⟨D q,ao q⟩)
  rw[J,bk]
  have R:=hW.last u iv w hI.1 hB U5 fun k o hk t=>by
   have az:k<m:=by
    have:=(List.getElem?_eq_some_iff.1 hk).1
    simp at this;omega
   rw[Nat.zero_add];rw[X k az] at hk;exact (hΦ k (ao k az) o hk t).1
  have h3:l=Qc u (C5 (C.map .val) 0 (os.take m)):=by
   obtain ⟨g1,g2⟩:=Gw hn a8 m hm;apply List.ext_getElem?;intro s;rw[Qc,List.getElem?_map]
   by_cases hs: ∃p,p<m/\ ∃o,os[p]? =some o/\o.dst=some s
   .obtain ⟨p,hp,o,i,z⟩:=hs
    rw[hA.done p (ao p hp) o s i z,g1 p hp o s i z];rfl
   .have af: ∀p,p<m-> ∀o,os[p]? =some o->o.dst≠some s:=fun p hp o i z=>hs ⟨p,hp,o,i,z⟩
    rw[hA.rest s (fun p hp=>af p (D p hp)),g2 s af,List.getElem?_map];cases C[s]? <;>rfl
  rw[h3];exact R
 -- moves that come late, among the tail
 have cj: ∀(f c:List Nat) (k:Nat),L=c++f->m<=k->k<=os.length->(∀q,m<=q->(q∈c↔q<k))->(∀p∈f,p<m->Es os p=true)->
  ∀(l lf:List Value) (w:World),l.length=C.length->lf.length=C.length->(∀s,(∀p∈f,p<m-> ∀o,os[p]? =some o->o.dst≠some s)->l[s]? =lf[s]?)->
   (∀p∈f,p<m-> ∀o d x,os[p]? =some o->mv o=some x->o.dst=some d->lf[d]? =some (ev C x))->(∀s,(G1 os).contains s=false->l[s]? =C[s]?)->
   J5 P ops W3 (os.drop k) lf w->J5 P ops W3 (f.filterMap (os[·]?)) l w:=by
  intro f
  induction f with
  | nil=>
   intro c k E bb bu ad _ l lf w hl ba ap _ _ h;rw[List.append_nil] at E
   have hk:k=os.length:=by
    refine Nat.le_antisymm bu (Nat.le_of_not_lt fun D=>?_);have cu:k∉c:=fun e=>by have:=(ad k bb).1 e;omega
    have J:=I7 os.length (k::c) (List.nodup_cons.2 ⟨cu,E▸H⟩) (fun x hx=>by
     rcases List.mem_cons.1 hx with rfl | hx
     .exact D
     .exact ac x (by rw[E];exact hx))
    simp at J
    rw[E] at bo;omega
   have:l=lf:=List.ext_getElem? fun s=>ap s U5;rw[this];rw[hk,List.drop_length] at h;exact h
  | cons q f ih=>
   intro c k E bb bu ad al l lf w hl ba ap a5 aa h
   have O:q∉c:=by
    rw[E] at H;intro h;exact (List.nodup_append.1 H).2.2 q h q U5 rfl
   have cp:q∉f:=by
    rw[E] at H;exact (List.nodup_cons.1 (List.nodup_append.1 H).2.1).1
   have V:=ac q (by rw[E];simp)
   have A:os[q]? =some os[q]:=List.getElem?_eq_getElem V;have b7:L=(c++[q])++f:=by rw[E];simp
   rw[List.filterMap_cons,A];simp only
   by_cases Z:q<m
   ·-- a late move
    have D:=al q U5 Z;unfold Es at D;rw[A] at D;simp only at D;cases t:mv os[q] with
    | none=>rw[t] at D;cases D
    | some x=>
     rw[t] at D
     have hx:ev l x=ev C x:=by
      cases x with
      | tmp s=>
       simp only[Bool.not_eq_true'] at D;simp only[ev,get,List.getD_eq_getElem?_getD,aa s D]
      | _=>rfl
     obtain ⟨a9,aw⟩:=X6Y (P:=P) t l w (fun v w=>J5 P ops W3 (f.filterMap (os[·]?)) (put l os[q].dst v) w);simp only[J5,a9];rw[aw,hx];refine ih (c++[q]) k b7 bb bu (fun q' a1=>?_) (fun p hp=>al p (by simp[hp])) _ lf w ?_ ba (fun s hs=>?_) (fun p hp=>a5 p (by simp[hp])) (fun s hs=>?_) h
     .rw[<-ad q' a1];simp only[List.mem_append,List.mem_singleton]
      exact ⟨fun e=>e.resolve_right Q4, .inl⟩
     .cases g:os[q].dst<;>simp[put,hl]
     .cases g:os[q].dst with
      | none=>
       refine ap s fun p hp M o i=>?_
       rcases List.mem_cons.1 hp with rfl | hp
       .rw[A] at i;cases i;rw[g];simp
       .exact hs p hp M o i
      | some d=>
       have aq:d<C.length:=hd d (by simp only[G1,List.mem_filterMap];exact ⟨os[q],List.getElem_mem _,g⟩)
       simp only[put]
       by_cases e:d=s
       .subst e
        rw[List.getElem?_set_self (by rw[hl];exact aq)]
        exact (a5 q U5 Z os[q] d x A t g).symm
       .rw[List.getElem?_set_ne e]
        refine ap s fun p hp M o i=>?_
        rcases List.mem_cons.1 hp with rfl | hp
        .rw[A] at i;cases i;rw[g];simpa using e
        .exact hs p hp M o i
     .cases g:os[q].dst with
      | none=>exact aa s hs
      | some d=>
       have ai:(G1 os).contains d=true:=by
        rw[List.contains_iff_mem];simp only[G1,List.mem_filterMap];exact ⟨os[q],List.getElem_mem _,g⟩
       simp only[put];rw[List.getElem?_set_ne (by rintro rfl;rw[hs] at ai;cases ai)]
       exact aa s hs
   .have Z:m<=q:=by omega
    have cx:q=k:=by
     have J:k<=q:=Nat.le_of_not_lt fun e=>O ((ad q Z).2 e);refine Nat.le_antisymm (Nat.le_of_not_lt fun e=>?_) J;have:=hC c q f E k ((an q Z V k e).resolve_right Q4) Q4;have:=(ad k bb).1 this;omega
    subst cx;rw[List.drop_eq_getElem_cons V] at h
    have cb: ∀p∈f,p<m->bit p q=true->False:=fun p hp M hb=>by
     have:=hC c q f E p hb Q4;rw[E] at H;exact (List.nodup_append.1 H).2.2 p this p (by simp[hp]) rfl
    refine Q9j (bz _ (List.getElem_mem _)) (fun s hs=>?_) (fun v w' hv=>?_) h
    .have:l[s]? =lf[s]? :=ap s fun p hp M o i z=>by
      rcases List.mem_cons.1 hp with rfl | hp
      .omega
      refine cb p hp M ?_
      rcases List.mem_append.1 hs with hs | hs
      .unfold F8 at hs
       split at hs
       .simp at hs
       .rename_i j b br
        split at hs
        .rename_i d bq
         simp only[List.mem_singleton] at hs;subst hs;obtain ⟨p',av,bx,hb⟩:=hg q os[q] j b A br;obtain ⟨o',bw,cc⟩:=Option.bind_eq_some_iff.1 bq;have:=Jt os hn p' p o' o s (by rw[bx,bw]) i cc z
         subst this;exact hb
        .simp at hs
      .exact ae p q o os[q] Q4 i A (by simp only[Yp,z,Bool.or_eq_true];left;left;simpa using hs)
     simp only[get,List.getD_eq_getElem?_getD,this]
    .refine ih (c++[q]) (q+1) b7 Q4 Q4 (fun q' a1=>?_) (fun p hp=>al p (by simp[hp])) _ _ w' ?_ ?_ (fun s hs=>?_) (fun p hp M o d x i bc z=>?_) (fun s hs=>?_) hv
     .simp only[List.mem_append,List.mem_singleton,ad q' a1];omega
     .cases g:os[q].dst<;>simp[put,hl]
     .cases g:os[q].dst<;>simp[put,ba]
     .have hb:l[s]? =lf[s]? \/os[q].dst=some s:=by
       left;refine ap s fun p hp M o i=>?_
       rcases List.mem_cons.1 hp with rfl | hp
       .omega
       .exact hs p hp M o i
      cases g:os[q].dst with
      | none=>
       rcases hb with hb | hb
       .exact hb
       .rw[g] at hb;cases hb
      | some d=>
       simp only[put]
       by_cases e:d=s
       .subst e
        have aq:d<C.length:=hd d (by simp only[G1,List.mem_filterMap];exact ⟨os[q],List.getElem_mem _,g⟩)
        rw[List.getElem?_set_self (by rw[hl];exact aq),List.getElem?_set_self (by rw[ba];exact aq)]
       .rw[List.getElem?_set_ne e,List.getElem?_set_ne e]
        rcases hb with hb | hb
        .exact hb
        .rw[g] at hb;cases hb;exact absurd rfl e
     .have cg:=a5 p (by simp[hp]) M o d x i bc z
      cases g:os[q].dst with
      | none=>exact cg
      | some d'=>
       have Y:d'≠d:=by
        rintro rfl;have:=Jt os hn p q o os[q] d' i A z g;omega
       simp only[put];rw[List.getElem?_set_ne Y];exact cg
     .cases g:os[q].dst with
      | none=>exact aa s hs
      | some d=>
       have ai:(G1 os).contains d=true:=by
        rw[List.contains_iff_mem];simp only[G1,List.mem_filterMap];exact ⟨os[q],List.getElem_mem _,g⟩
       simp only[put];rw[List.getElem?_set_ne (by rintro rfl;rw[hs] at ai;cases ai)]
       exact aa s hs
 intro f
 induction f with
 | nil=>
  intro c E D l u iv w hI hA hB hΦ;refine cq c [] E D ?_ l u iv w hI hA hB hΦ;intro q hq;rw[List.append_nil] at E;refine Classical.byContradiction fun a0=>?_
  have J:=I7 os.length (q::c) (List.nodup_cons.2 ⟨a0,E▸H⟩) (fun k hk=>by
   rcases List.mem_cons.1 hk with rfl | hk
   .omega
   .exact ac k (by rw[E];exact hk))
  simp at J
  rw[E] at bo;omega
 | cons q f ih=>
  intro c E D l u iv w hI hA hB hΦ
  have O:q∉c:=by
   rw[E] at H;intro h;exact (List.nodup_append.1 H).2.2 q h q U5 rfl
  have V:=ac q (by rw[E];simp)
  by_cases Z:m<=q
  ·-- the tail begins
   have am: ∀p,p<m->p∉c->Es os p=true:=fun p hp bv=>by
    rcases an q Z V p Q4 with h | h
    .exact absurd (hC c q f E p h Q4) bv
    .exact h.2
   have bg: ∀p,Es os p=true-> ∀o,os[p]? =some o-> ∃x,mv o=some x/\ ∀s,x= .tmp s->(G1 os).contains s=false:=by
    intro p hp o i;unfold Es at hp;rw[i] at hp;simp only at hp;cases N:mv o with
    | none=>rw[N] at hp;cases hp
    | some x=>
     refine ⟨x,rfl,fun s hs=>?_⟩;subst hs;rw[N] at hp;simpa using hp
   obtain ⟨g1,g2⟩:=Gw hn a8 m hm
   have bj: ∀s,(G1 os).contains s=false-> ∀(p:Nat) o,os[p]? =some o->o.dst≠some s:=by
    intro s hs p o i z
    have:(G1 os).contains s=true:=by
     rw[List.contains_iff_mem];simp only[G1,List.mem_filterMap];exact ⟨o,List.mem_of_getElem? i,z⟩
    rw[hs] at this;cases this
   refine cj (q::f) c m E (Nat.le_refl _) hm (fun q' a1=>⟨fun e=>D q' e,fun e=>absurd a1 Q4⟩) (fun p hp M=>am p M fun e=>by
    rw[E] at H;exact (List.nodup_append.1 H).2.2 p e p hp rfl) l (Qc u (C5 (C.map .val) 0 (os.take m))) w hA.len (by simp[Qc,Q0W os _ m hm]) (fun s hs=>?_) (fun p hp M o d x i bc z=>?_) (fun s hs=>?_) ?_
   .rw[Qc,List.getElem?_map]
    by_cases ar: ∃p,p<m/\ ∃o,os[p]? =some o/\o.dst=some s
    .obtain ⟨p,hp,o,i,z⟩:=ar
     by_cases U:p∈c
     .rw[hA.done p U o s i z,g1 p hp o s i z];rfl
     .exfalso
      have cd:p∈L:=by
       refine Classical.byContradiction fun a0=>?_
       have J:=I7 os.length (p::L) (List.nodup_cons.2 ⟨a0,H⟩) (fun k hk=>by
        rcases List.mem_cons.1 hk with rfl | hk
        .omega
        .exact ac k hk)
       simp at J;omega
      rw[E] at cd
      rcases List.mem_append.1 cd with h | h
      .exact U h
      .exact hs p h hp o i z
    .have af: ∀p,p<m-> ∀o,os[p]? =some o->o.dst≠some s:=fun p hp o i z=>ar ⟨p,hp,o,i,z⟩
     rw[hA.rest s (fun p hp=>af p (D p hp)),g2 s af,List.getElem?_map];cases C[s]? <;>rfl
   .have U:p∉c:=fun e=>by
     rw[E] at H;exact (List.nodup_append.1 H).2.2 p e p hp rfl
    rw[Qc,List.getElem?_map,g1 p M o d i z];simp only[Option.map_some,Option.some.injEq];have W:Yx os (C.map .val) p=entOf (C5 (C.map .val) 0 (os.take p)) x:=by simp[Yx,i,Gn,bc]
    rw[W];obtain ⟨x',ch,c1⟩:=bg p (am p M U) o i;rw[bc] at ch;cases ch;cases x with
    | tmp s=>
     have hs:=c1 s rfl;obtain ⟨_,k2⟩:=Gw (S0:=C.map .val) hn a8 p Q4;simp only[entOf];rw[Px,k2 s (fun p' _ o' bw=>bj s hs p' o' bw),List.getElem?_map];simp only[ev,get,List.getD_eq_getElem?_getD];cases C[s]? <;>rfl
    | _=>rfl
   .exact hA.rest s fun p _ o i=>bj s hs p o i
   .refine hW.last u iv w hI.1 hB U5 fun k o hk t=>?_
    have az:k<m:=by
     have:=(List.getElem?_eq_some_iff.1 hk).1
     simp at this;omega
    rw[Nat.zero_add];rw[X k az] at hk;refine (hΦ k (Classical.byContradiction fun bv=>?_) o hk t).1;obtain ⟨x,hx,_⟩:=bg k (am k az bv) o hk;rw[t] at hx;cases hx
  .have Z:q<m:=by omega
   have A:os[q]? =some os[q]:=List.getElem?_eq_getElem V;obtain ⟨g1,g2⟩:=Gw (S0:=C.map .val) hn a8 q Q4
   -- what a slot holds that this operation reads
   have ag: ∀s,(∃p o,os[p]? =some o/\o.dst=some s/\p<q/\bit p q=true)\/s∈G7 os[q]->
    get l s=(getE (C5 (C.map .val) 0 (os.take q)) s).at u/\ ∀r,getE (C5 (C.map .val) 0 (os.take q)) s= .ref r->r∈c/\ ∃o,os[r]? =some o/\mv o=none:=by
    intro s hs
    have af:(∀p∈c,∀o,os[p]? =some o->o.dst≠some s)->(∀p,p<q-> ∀o,os[p]? =some o->o.dst≠some s)->
     get l s=(getE (C5 (C.map .val) 0 (os.take q)) s).at u/\ ∀r,getE (C5 (C.map .val) 0 (os.take q)) s= .ref r->r∈c/\ ∃o,os[r]? =some o/\mv o=none:=by
     intro J R;rw[Px,g2 s R,List.getElem?_map];simp only[get,List.getD_eq_getElem?_getD,hA.rest s J];cases C[s]? with
     | none=>exact ⟨rfl,fun r hr=>by cases hr⟩
     | some v=>exact ⟨rfl,fun r hr=>by cases hr⟩
    have bm: ∀p o,os[p]? =some o->o.dst=some s->p<q->p∈c->
     get l s=(getE (C5 (C.map .val) 0 (os.take q)) s).at u/\ ∀r,getE (C5 (C.map .val) 0 (os.take q)) s= .ref r->r∈c/\ ∃o,os[r]? =some o/\mv o=none:=by
     intro p o hp i av U;rw[Px,g1 p av o s hp i];simp only[get,List.getD_eq_getElem?_getD,hA.done p U o s hp i,Option.getD_some]
     first | exact ⟨rfl,hA.refs p U⟩ | exact ⟨trivial,hA.refs p U⟩
    rcases hs with ⟨p,o,hp,i,av,hb⟩ | hs
    .exact bm p o hp i av (hC c q f E p hb Q4)
    .by_cases ar: ∃(p:Nat) (o:Oper),os[p]? =some o/\o.dst=some s
     .obtain ⟨p,o,hp,i⟩:=ar
      have c5:=(List.getElem?_eq_some_iff.1 hp).1;have aa: ∀p' o',os[p']? =some o'->o'.dst=some s->p'=p:=fun p' o' J R=>Jt os hn p' p o' o s J hp R i
      rcases Nat.lt_trichotomy p q with h | h | h
      .have hb:=ae p q o os[q] h hp A (by simp only[Yp,i,Bool.or_eq_true];left;left;simpa using hs)
       exact bm p o hp i h (hC c q f E p hb Q4)
      .subst h
       exact af (fun p' aj o' J R=>by rw[aa p' o' J R] at aj;exact O aj) (fun p' aj o' J R=>by rw[aa p' o' J R] at aj;omega)
      .refine af (fun p' aj o' J R=>?_) (fun p' aj o' J R=>by rw[aa p' o' J R] at aj;omega)
       have e:=aa p' o' J R;subst e;have hb:=ae q p' os[q] o' h A J (by simp only[Yp,R,Bool.or_eq_true];right;left;simpa using hs)
       obtain ⟨p1,p2,U⟩:=List.append_of_mem aj;have:=hC p1 p' (p2++q::f) (by rw[E,U];simp) q hb V
       exact O (by rw[U];exact List.mem_append_left _ this)
     .exact af (fun p _ o J R=>ar ⟨p,o,J,R⟩) (fun p _ o J R=>ar ⟨p,o,J,R⟩)
   have bs: ∀s∈F8 ops os[q]++G7 os[q],(∃p o,os[p]? =some o/\o.dst=some s/\p<q/\bit p q=true)\/s∈G7 os[q]:=by
    intro s hs
    rcases List.mem_append.1 hs with hs | hs
    .left
     unfold F8 at hs
     split at hs
     .simp at hs
     .rename_i j b br
      split at hs
      .rename_i d bq
       simp only[List.mem_singleton] at hs;subst hs;obtain ⟨p,av,bx,hb⟩:=hg q os[q] j b A br;obtain ⟨o,i,z⟩:=Option.bind_eq_some_iff.1 bq;exact ⟨p,o,by rw[bx,i],z,av,hb⟩
      .simp at hs
    .exact .inr hs
   have a3:=X q Z;rw[A] at a3;rw[List.filterMap_cons,A];simp only
   -- the state behind it
   have step: ∀(v:Value) (u':Nat->Value) (be:Nat->Iv) (w':World),Il r0 be w'->(∀p∈c,(Yx os (C.map .val) p).at u'=(Yx os (C.map .val) p).at u)->v=(Yx os (C.map .val) q).at u'->
    (∀r,Yx os (C.map .val) q= .ref r->r∈q::c/\ ∃o,os[r]? =some o/\mv o=none)->B w'->(∀r∈q::c,∀o,os[r]? =some o->mv o=none->Φ r u' (be r) w'/\ ∀j∈refs ops (C5 (C.map .val) 0 (os.take r)) o,j∈q::c)->
    J5 P ops W3 (f.filterMap (os[·]?)) (put l os[q].dst v) w':=by
    intro v u' be w' ct hu hv hr cs ci;have Q: ∀x,x∈c++[q]↔x∈q::c:=by intro x;simp[or_comm]
    refine ih (c++[q]) (by rw[E];simp) (fun x hx=>by rcases List.mem_cons.1 ((Q x).1 hx) with rfl | hx;exact Z;exact D x hx) _ u' be w' ct ?_ cs (fun r hr o i N=>⟨(ci r ((Q r).1 hr) o i N).1,fun j hj=>(Q j).2 ((ci r ((Q r).1 hr) o i N).2 j hj)⟩)
    have a2: ∀p∈c++[q],∀r,Yx os (C.map .val) p= .ref r->r∈c++[q]/\ ∃o,os[r]? =some o/\mv o=none:=by
     intro p hp r b0
     rcases List.mem_cons.1 ((Q p).1 hp) with rfl | hp
     .exact ⟨(Q r).2 (hr r b0).1,(hr r b0).2⟩
     .obtain ⟨J,R⟩:=hA.refs p hp r b0
      exact ⟨List.mem_append_left _ J,R⟩
    cases g:os[q].dst with
    | none=>
     refine ⟨hA.len,?_,?_,a2⟩
     .intro p hp o d i z
      rcases List.mem_cons.1 ((Q p).1 hp) with rfl | hp
      .rw[A] at i;cases i;rw[g] at z;cases z
      .rw[hu p hp];exact hA.done p hp o d i z
     .intro s hs;exact hA.rest s fun p hp=>hs p (List.mem_append_left _ hp)
    | some d0=>
     have aq:d0<C.length:=hd d0 (by simp only[G1,List.mem_filterMap];exact ⟨os[q],List.getElem_mem _,g⟩)
     refine ⟨by simp[put,hA.len],?_,?_,a2⟩
     .intro p hp o d i z
      rcases List.mem_cons.1 ((Q p).1 hp) with rfl | hp2
      .rw[A] at i;cases i
       rw[g] at z;cases z;simp only[put];rw[List.getElem?_set_self (by rw[hA.len];exact aq),hv]
      .have Y:d0≠d:=by
        rintro rfl;have:=Jt os hn p q o os[q] d0 i A z g;subst this;exact O hp2
       simp only[put];rw[List.getElem?_set_ne Y,hu p hp2];exact hA.done p hp2 o d i z
     .intro s hs
      have Y:d0≠s:=fun e=>hs q U5 os[q] A (by rw[g,e])
      simp only[put];rw[List.getElem?_set_ne Y];exact hA.rest s fun p hp=>hs p (List.mem_append_left _ hp)
   cases t:mv os[q] with
   | some x=>
    have W:Yx os (C.map .val) q=entOf (C5 (C.map .val) 0 (os.take q)) x:=by simp[Yx,A,Gn,t]
    -- a move: what the operand holds
    have hx:ev l x=(entOf (C5 (C.map .val) 0 (os.take q)) x).at u/\ ∀r,entOf (C5 (C.map .val) 0 (os.take q)) x= .ref r->r∈c/\ ∃o,os[r]? =some o/\mv o=none:=by
     cases x with
     | tmp s=>
      have hs:s∈G7 os[q]:=by
       unfold mv at t
       split at t
       .cases t
       .simp only[G7,List.mem_filterMap]
        split at t
        .rename_i y hy;cases t;exact ⟨.tmp s,by rw[hy];simp[Op.operands],rfl⟩
        .rename_i y hy;cases t;exact ⟨.tmp s,by rw[hy];simp[Op.operands],rfl⟩
        .cases t
      exact ag s (.inr hs)
     | _=>exact ⟨rfl,fun r hr=>by cases hr⟩
    have a9:os[q].guard=none:=by
     unfold mv at t
     split at t
     .cases t
     .assumption
    simp only[J5,a9]
    have aw:N3 P l os[q] w (fun v w=>J5 P ops W3 (f.filterMap (os[·]?)) (put l os[q].dst v) w)=J5 P ops W3 (f.filterMap (os[·]?)) (put l os[q].dst (ev l x)) w:=by
     unfold mv at t;rw[a9] at t;simp only at t
     split at t
     .rename_i y hy;cases t;simp only[N3,hy]
     .rename_i y hy;cases t;simp only[N3,hy]
     .cases t
    rw[aw]
    refine step _ u iv w hI (fun _ _=>rfl) (by rw[W];exact hx.1) (fun r hr=>by
     rw[W] at hr;obtain ⟨J,R⟩:=hx.2 r hr;exact ⟨List.mem_cons_of_mem _ J,R⟩) hB (fun r hr o i N=>by
     rcases List.mem_cons.1 hr with rfl | hr
     .rw[A] at i;cases i;rw[t] at N;cases N
     .exact ⟨(hΦ r hr o i N).1,fun j hj=>List.mem_cons_of_mem _ ((hΦ r hr o i N).2 j hj)⟩)
   | none=>
    have W:Yx os (C.map .val) q= .ref q:=by simp[Yx,A,Gn,t]
    have bl:=hW.run q os[q] a3 t (bz _ (List.getElem_mem _)) u iv w hI.1 hB;rw[a4 q Q4,Nat.zero_add] at bl;have cz:=hW.stable
    have b1:=bl (fun j hj=>by
     obtain ⟨s,hs,he⟩:=Km (Ir hj);obtain ⟨J,o,R,h3⟩:=(ag s (bs s hs)).2 j he;exact (hΦ j J o R h3).1)
    have ca: ∀j∈refs ops (C5 (C.map .val) 0 (os.take q)) os[q],j∈c:=fun j hj=>by
     obtain ⟨s,hs,he⟩:=Km (Ir hj);exact ((ag s (bs s hs)).2 j he).1
    refine Q4N ?_;rw[Q4c (bz _ (List.getElem_mem _)) (l':=Qc u (C5 (C.map .val) 0 (os.take q))) (fun s hs=>by rw[Au];exact (ag s (bs s hs)).1)]
    refine Q5s ?_ b1;intro v w' ⟨bp,hφ⟩;have Y: ∀r∈c,r≠q:=fun r hr e=>O (e▸hr);refine step v (fun n=>if n=q then v else u n) (fun n=>if n=q then (Rm r0 w,Rm r0 w') else iv n) w' (hI.step (hM iv w w' bp) q) ?_ (by rw[W];simp[Ent.at]) (fun r hr=>by rw[W] at hr;cases hr;exact ⟨by simp,os[q],A,t⟩) (hT iv w w' hB bp) ?_
    .intro p hp
     cases he:Yx os (C.map .val) p with
     | val x=>rfl
     | ref r=>
      have:=Y r (hA.refs p hp r he).1
      simp[Ent.at,this]
    .intro r hr o i N
     rcases List.mem_cons.1 hr with rfl | hr
     .rw[A] at i;cases i
      refine ⟨?_,fun j hj=>List.mem_cons_of_mem _ (ca j hj)⟩;simp only[if_true];exact hφ _ (fun x hx=>by simp[Y x (ca x hx)]) U5
     .obtain ⟨f1,f2⟩:=hΦ r hr o i N
      have ce:=D r hr;have bi:=Y r hr
      have hl:=hW.loc r o (by rw[X r ce];exact i) N (fun n=>if n=q then v else u n) u (fun x hx=>by
       rw[a4 r Q4,Nat.zero_add] at hx
       have:x≠q:=by
        rcases List.mem_cons.1 hx with rfl | hx
        .exact bi
        .exact Y x (f2 x hx)
       simp[this])
      have hs:=cz r o (by rw[X r ce];exact i) N
      rw[Nat.zero_add] at hs hl;refine ⟨?_,fun j hj=>List.mem_cons_of_mem _ (f2 j hj)⟩;simp only[if_neg bi];rw[hl];exact hs _ iv _ _ hI.1 f1 bp
def X6N:Op->Bool
 | .move _ | .assign _ | .fieldAddr .. | .indexAddr .. | .field .. | .index .. | .binOp .. | .unOp .. | .extract .. | .pick .. | .makeFunc .. | .nilCheck _ | .slice .. =>true
 | _=>false
def ready (ops:List Oper) (a:List Nat) (j:Nat):Bool:=(Xw ops j).all (a.contains ·)
def X6M (ops:List Oper) (j:Nat):Bool:=match ops[j]? with | some o=>X6N o.op | none=>false
def X1l (ops:List Oper):Nat->List Nat->List Nat->List Nat
 | 0,_,a=>a.reverse
 | n+1,b,a=>
  match b.find? (fun j=>X6M ops j&&ready ops a j) with
  | some j=>X1l ops n (b.erase j) (j::a)
  | none=>match b.find? (ready ops a) with
   | some j=>X1l ops n (b.erase j) (j::a)
   | none=>a.reverse
def H1 (ops:List Oper):List Nat:=X1l ops ops.length (List.range ops.length) []
def P6 (ops:List Oper) (a:List Nat) (p q:Nat):Bool:=((Aj ops []).getD (a.getD q 0) 0).testBit (a.getD p 0)
def J8 (ops:List Oper) (a:List Nat):List Oper:=a.map fun i=>ops.getD i default
def cutA (ops:List Oper) (a:List Nat):Nat->Nat
 | 0=>0
 | j+1=>if (List.range j).all (fun i=>P6 ops a i j||Es (J8 ops a) i) then cutA ops a j else j+1
def X8a (ops:List Oper) (a:List Nat) (c n:Nat):Bool:=(List.range n).all fun q=>(List.range q).all fun p=>decide (p<c)||P6 ops a p q
def Lf (ops:List Oper) (a:List Nat) (n:Nat):Nat:=if X8a ops a (cutA ops a n) n then cutA ops a n else n
theorem Q6r (ops:List Oper) (a:List Nat): ∀n,cutA ops a n<=n/\ ∀q,cutA ops a n<=q->q<n-> ∀p,p<q->P6 ops a p q=true\/Es (J8 ops a) p=true
 | 0=>⟨Nat.le_refl _,fun q _ h=>by omega⟩
 | j+1=>by
  obtain ⟨g,f⟩:=Q6r ops a j;simp only[cutA]
  split
  .rename_i h
   refine ⟨by omega,fun q d b p c=>?_⟩
   by_cases e:q=j
   .subst e
    simpa using List.all_eq_true.1 h p (by simpa using c)
   .exact f q d Q4 p c
  .exact ⟨Nat.le_refl _,fun q d b=>by omega⟩
theorem X0V (ops:List Oper) (a:List Nat) (n:Nat):Lf ops a n<=n/\ ∀q,Lf ops a n<=q->q<n-> ∀p,p<q->P6 ops a p q=true\/(p<Lf ops a n/\Es (J8 ops a) p=true):=by
 obtain ⟨f,g⟩:=Q6r ops a n;unfold Lf
 split
 .rename_i i
  refine ⟨f,fun q e b p d=>?_⟩
  by_cases c:p<cutA ops a n
  .exact (g q e b p d).imp id fun h=>⟨c,h⟩
  .left
   have:=List.all_eq_true.1 (List.all_eq_true.1 i q (by simpa using b)) p (by simpa using d)
   simpa [c] using this
 .exact ⟨Nat.le_refl _,fun q e b=>by omega⟩
def Q7n (ops:List Oper) (a:List Nat):Bool:=
 a.length==ops.length&&(List.range ops.length).all (a.contains ·)&&Je a&&a.all (fun i=>decide (i<ops.length))&&
  (List.range ops.length).all fun q=>(List.range q).all fun p=> !P6 ops a q p
def Ml (ops:List Oper) (n:Nat):Bool:=
 Lg ops&&Q5M (Aj ops []) ops&&Je (G1 (J8 ops (H1 ops)))&&(G1 (J8 ops (H1 ops))).all (fun d=>decide (d<n))&&
  (Xu .any ops (List.range ops.length)&&Xu .text ops (List.range ops.length)&&Xu .gc ops (X4q .gc ops ops.length (List.range ops.length) []))&&Q7n ops (H1 ops)
theorem Q2D: ∀{l:List Nat},Je l=true->l.Nodup
 | [],_=>List.nodup_nil
 | x::l,h=>by
  simp only[Je,Bool.and_eq_true,Bool.not_eq_true'] at h;exact List.nodup_cons.2 ⟨by simpa using h.1,Q2D h.2⟩
theorem Q7M {ops:List Oper}: ∀(b:List Oper) (a:List Nat),a.length+b.length=ops.length->(∀k,a.length<=k->ops[k]? =b[k-a.length]?)->
 (∀j k,j<a.length->k∈Xw ops j->(a.getD j 0).testBit k=true)-> ∀j k,j<ops.length->k∈Xw ops j->((Aj b a).getD j 0).testBit k=true
 | [],a,n,_,c=>fun j k p d=>c j k (by simp at n;omega) d
 | o::b,a,n,f,c=>by
  have t:ops[a.length]? =some o:=by rw[f _ (Nat.le_refl _)];simp
  refine Q7M b _ (by simp at n⊢;omega) ?_ ?_
  .intro k d
   simp only[List.length_append,List.length_cons,List.length_nil] at d⊢;rw[f k Q4];obtain ⟨m,r⟩: ∃m,k-a.length=m+1:=⟨k-a.length-1,by omega⟩
   rw[r,List.getElem?_cons_succ]
   congr 1;omega
  .intro j k p d
   simp only[List.length_append,List.length_cons,List.length_nil] at p
   by_cases g:j<a.length
   .simp only[List.getD_eq_getElem?_getD,List.getElem?_append_left g]
    simpa only[List.getD_eq_getElem?_getD] using c j k g d
   .have i:j=a.length:=by omega
    subst i;simp only[List.getD_eq_getElem?_getD,List.getElem?_append_right (Nat.le_refl _),Nat.sub_self,List.getElem?_cons_zero,Option.getD_some];unfold Xw at d;rw[t] at d;simp only[Option.map_some,Option.getD_some,List.mem_map] at d;obtain ⟨e,q,rfl⟩:=d
    have key: ∀(l:List Edge) (s:Nat),(e∈l\/s.testBit e.on=true)->(l.foldl (fun s e=>s ||| 2 ^ e.on ||| (a[e.on]?).getD 0) s).testBit e.on=true:=by
     intro l
     induction l with
     | nil=>intro s h;simpa using h
     | cons x l u=>
      intro s h;refine u _ ?_
      rcases h with h | h
      .rcases List.mem_cons.1 h with rfl | h
       .right;simp
       .exact .inl h
      .right;simp[h]
    exact key _ _ (.inl q)
theorem Fk {α β:Type} {f g:α->Option β}: ∀{l:List α},(∀x∈l,f x=g x)->l.filterMap f=l.filterMap g
 | [],_=>rfl
 | x::l,h=>by
  rw[List.filterMap_cons,List.filterMap_cons,h x U5,Fk fun y a=>h y (by simp[a])]
structure Arr (ops : List Oper) (ord : List Nat) (L : List Nat) : Prop where
  hpl : ∀ o ∈ J8 ops ord, Jg o.op = true
  hclash : ∀ p q a b, p < q -> (J8 ops ord)[p]? = some a -> (J8 ops ord)[q]? = some b -> (Yp a b || Yp b a) = true -> P6 ops ord p q = true
  hg : ∀ q o j b, (J8 ops ord)[q]? = some o -> o.guard = some (j, b) -> ∃ p, p < q /\ (J8 ops ord)[p]? = ops[j]? /\ P6 ops ord p q = true
  hn : L.Nodup
  hlt : ∀ q ∈ L, q < (J8 ops ord).length
  hC : ∀ pre q post, L = pre ++ q :: post -> ∀ p, P6 ops ord p q = true -> p < (J8 ops ord).length -> p ∈ pre
  hLl : L.length = (J8 ops ord).length
theorem An {ops:Array Oper} {c:List Nat} (X:Lg ops.toList=true) (hc:Q5M (Aj ops.toList []) ops.toList=true) (a9:Xu .any ops.toList (List.range ops.toList.length)=true) (ba:Xu .text ops.toList (List.range ops.toList.length)=true) (bb:Xu .gc ops.toList (X4q .gc ops.toList ops.toList.length (List.range ops.toList.length) [])=true) (O:Q7n ops.toList c=true) (b:Bool) (t:Nat):
 (Region.schedule b ops t).filterMap (ops[·]?)=((Region.schedule b ops t).map (c.idxOf ·)).filterMap ((J8 ops.toList c)[·]?)/\Arr ops.toList c ((Region.schedule b ops t).map (c.idxOf ·))/\(J8 ops.toList c).length=ops.toList.length/\(Region.schedule b ops t).Nodup/\ ∀i∈Region.schedule b ops t,i<ops.toList.length/\c.getD (c.idxOf i) 0=i:=by
 simp only[Q7n,Bool.and_eq_true,beq_iff_eq] at O;obtain ⟨⟨⟨⟨ad,R⟩,ax⟩,N⟩,E⟩:=O;have ae:=Q2D ax;have af:(J8 ops.toList c).length=ops.toList.length:=by simp[J8,ad]
 have g: ∀p,p<ops.toList.length->c.getD p 0<ops.toList.length:=by
  intro p U;simp only[List.getD_eq_getElem?_getD];rw[List.getElem?_eq_getElem Q4];have:=List.all_eq_true.1 N c[p] (List.getElem_mem _)
  simpa using this
 have d: ∀p,p<ops.toList.length->(J8 ops.toList c)[p]? =ops.toList[c.getD p 0]? :=by
  intro p U;have n:=g p U;simp only[List.getD_eq_getElem?_getD] at n;rw[List.getElem?_eq_getElem (by omega:p<c.length)] at n
  simp only[Option.getD_some] at n;simp only[J8,List.getElem?_map,List.getD_eq_getElem?_getD];rw[List.getElem?_eq_getElem (by omega:p<c.length)]
  simp only[Option.map_some,Option.getD_some];rw[List.getElem?_eq_getElem n]
  simp
 obtain ⟨Q,M,A⟩:=Q7k b ops t X (fun m=>by cases m<;>exact ⟨_,by assumption⟩)
 have f:=Q4f b ops t;generalize Region.schedule b ops t=L0 at Q M A f⊢;have z: ∀i,i<ops.toList.length->i∈c:=fun i s=>by simpa using List.all_eq_true.1 R i (by simpa using s)
 have l: ∀i,i<ops.toList.length->c.idxOf i<ops.toList.length/\c.getD (c.idxOf i) 0=i:=by
  intro i s;have n:=List.idxOf_lt_length_of_mem (z i s);refine ⟨by omega,?_⟩
  simp only[List.getD_eq_getElem?_getD];rw[List.getElem?_eq_getElem n]
  simp
 have r: ∀p,p<ops.toList.length->c.idxOf (c.getD p 0)=p:=by
  intro p U;simp only[List.getD_eq_getElem?_getD];rw[List.getElem?_eq_getElem (by omega:p<c.length)]
  simp only[Option.getD_some];exact List.Nodup.idxOf_getElem ae p Q4
 have ac: ∀p q,p<q->q<ops.toList.length->P6 ops.toList c q p=false:=by
  intro p q V u;have:=List.all_eq_true.1 (List.all_eq_true.1 E q (by simpa using u)) p (by simpa using V)
  simpa using this
 have ao:L0.filterMap (ops[·]?)=(L0.map (c.idxOf ·)).filterMap ((J8 ops.toList c)[·]?):=by
  rw[List.filterMap_map];refine Fk fun i s=>?_;have:=f i s;have n:=l i (by simpa using this)
  simp only[Function.comp];rw[d _ n.1,n.2]
  simp
 refine ⟨ao,⟨?_,?_,?_,?_,?_,?_,by simp[M,ad,J8]⟩,af,Q,fun i s=>⟨by simpa using f i s,(l i (by simpa using f i s)).2⟩⟩
 .intro o ho
  simp only[J8,List.mem_map] at ho;obtain ⟨i,s,rfl⟩:=ho;have w:i<ops.toList.length:=by simpa using List.all_eq_true.1 N i s
  simp only[Lg,List.all_eq_true,Bool.and_eq_true] at X;have:=(X (ops.toList[i],i) (by rw[List.mem_zipIdx_iff_getElem?];simpa using w)).1.1
  rw[List.getD_eq_getElem?_getD,List.getElem?_eq_getElem w];exact this
 .intro p q a b' V ha C D
  have U:p<ops.toList.length:=by have:=(List.getElem?_eq_some_iff.1 ha).1;omega
  have u:q<ops.toList.length:=by have:=(List.getElem?_eq_some_iff.1 C).1;omega
  rw[d p U] at ha;rw[d q u] at C
  have Z: ∀i i' x x',i<i'->ops.toList[i]? =some x->ops.toList[i']? =some x'->(Yp x x'||Yp x' x)=true->((Aj ops.toList []).getD i' 0).testBit i=true:=by
   intro i i' x x' av hx a1 D;simp only[Q5M,List.all_eq_true] at hc;have:=hc (x',i') (by rw[List.mem_zipIdx_iff_getElem?];simpa using a1) (x,i) (by rw[List.mem_zipIdx_iff_getElem?];simpa using hx)
   simp only[av,D,decide_true,Bool.not_true,Bool.false_or,Bool.or_self] at this;exact this
  have ab:c.getD p 0≠c.getD q 0:=by
   intro e;have:=r p U;rw[e,r q u] at this;omega
  rcases Nat.lt_or_gt_of_ne ab with h | h
  .exact Z _ _ a b' h ha C D
  .have n:=Z _ _ b' a h C ha (by rw[Bool.or_comm];exact D)
   have v:=ac p q V u;unfold P6 at v;rw[n] at v;cases v
 .intro q o j b' u ap
  have H:q<ops.toList.length:=by have:=(List.getElem?_eq_some_iff.1 u).1;omega
  rw[d q H] at u
  have L:j∈Xw ops.toList (c.getD q 0):=by
   have aa:=X;simp only[Lg,List.all_eq_true,Bool.and_eq_true] at aa;have:=(aa (o,c.getD q 0) (by rw[List.mem_zipIdx_iff_getElem?];simpa using u)).2
   rw[ap] at this;simp only[List.any_eq_true] at this;obtain ⟨e,an,am⟩:=this;unfold Xw;rw[u];simp only[Option.map_some,Option.getD_some,List.mem_map];exact ⟨e,an,by simpa using am⟩
  have ar:=Ao X _ (g q H) j L;have hj:j<ops.toList.length:=by have:=g q H;omega
  have C:=Q7M (ops:=ops.toList) ops.toList [] U5 U5 (by intro j k hj;simp at hj) _ j (g q H) L
  obtain ⟨n,v⟩:=l j hj;have J:P6 ops.toList c (c.idxOf j) q=true:=by unfold P6;rw[v];exact C
  refine ⟨c.idxOf j,?_,by rw[d _ n,v],J⟩
  rcases Nat.lt_trichotomy (c.idxOf j) q with h | h | h
  .exact h
  .rw[<-h,v] at ar;omega
  .have:=ac q _ h n
   rw[J] at this;cases this
 .refine List.pairwise_map.2 (Q.imp_of_mem ?_)
  intro x y hx hy aw a2;have n:=(l x (by simpa using f x hx)).2
  have v:=(l y (by simpa using f y hy)).2
  exact aw (by rw[<-n,<-v,a2])
 .intro q u
  simp only[List.mem_map] at u;obtain ⟨i,s,rfl⟩:=u;have:=(l i (by simpa using f i s)).1
  omega
 .intro be q a8 hL p C U
  rw[List.map_eq_append_iff] at hL;obtain ⟨ai,a3,Y,ag,B⟩:=hL;rw[List.map_eq_cons_iff] at B;obtain ⟨i,W,hr,s,az⟩:=B;subst hr s ag;have w:i<ops.toList.length:=by simpa using f i (by rw[Y];simp)
  obtain ⟨n,v⟩:=l i w;unfold P6 at C;rw[v] at C;have ay:p<ops.toList.length:=by omega
  have:=Q8O X A i w (c.getD p 0) ai W Y C;rw[List.mem_map];exact ⟨c.getD p 0,this,r p ay⟩
theorem Q6t {ops:Array Oper} {n:Nat} (a:Ml ops.toList n=true) (b:Bool) (t:Nat): ∃L,(Region.schedule b ops t).filterMap (ops[·]?)=L.filterMap ((J8 ops.toList (H1 ops.toList))[·]?)/\Arr ops.toList (H1 ops.toList) L/\(J8 ops.toList (H1 ops.toList)).length=ops.toList.length:=by
 simp only[Ml,Bool.and_eq_true] at a;obtain ⟨⟨⟨⟨⟨k,j⟩,m⟩,l⟩,⟨d,e⟩,f⟩,c⟩:=a;obtain ⟨g,h,i,_⟩:=An k j d e f c b t;exact ⟨_,g,h,i⟩
theorem X03 (P:Program) (r:Bool) (ops:Array Oper) (T:(Nat->Iv)->World->World->Prop) (B:World->Prop) (W3:List Value->World->Prop) (i:List Value) (g:Ml ops.toList i.length=true)
 (z: ∀o w w',B w->T o w w'->B w') (y: ∀o w w',T o w w'->Rm r w<=Rm r w')
 (h:chain P r ops.toList T B W3 ((J8 ops.toList (H1 ops.toList)).drop (Lf ops.toList (H1 ops.toList) ops.toList.length)) 0
  ((J8 ops.toList (H1 ops.toList)).take (Lf ops.toList (H1 ops.toList) ops.toList.length)) (i.map .val) [] [])
 (b:Bool) (t:Nat) (w:World) (U:B w):J5 P ops.toList W3 ((Region.schedule b ops t).filterMap (ops[·]?)) i w:=by
 obtain ⟨L,n,c,u⟩:=Q6t g b t;simp only[Ml,Bool.and_eq_true] at g;obtain ⟨⟨⟨⟨⟨l,V⟩,H⟩,C⟩,⟨J,M⟩,N⟩,s⟩:=g;generalize H1 ops.toList=a at*;obtain ⟨Φ,_,A⟩:=Q25 P r ops.toList T B W3 _ _ 0 (i.map .val) [] [] (by intro e l j D;simp only[List.mem_map] at l;obtain ⟨v,_,rfl⟩:=l;cases D) U5 (by simp[Lz]) h
 rw[n];obtain ⟨k,f⟩:=X0V ops.toList a ops.toList.length
 exact X8c (os:=J8 ops.toList a) (m:=Lf ops.toList a ops.toList.length) (T:=T) (B:=B) (Φ:=Φ) (P6 ops.toList a) c.hpl H (fun d E=>by simpa using List.all_eq_true.1 C d E) c.hclash c.hg Q4
  (fun q Q R p O=>f q Q Q4 p O) z y A L c.hn c.hLl c.hlt c.hC _ [] rfl U5 i (fun _=>undef) (fun _=>(0,0)) w .init
  ⟨rfl,by simp,fun _ _=>rfl,by simp⟩ U U5
def Vd {α:Type} (P:Program) (s:Sem α):Prop:= ∀w v w',s.run P w= .ok v w'->w'=w
variable {P : Program} {α β : Type}
theorem Li (a:α):Vd P (Pure.pure a:Sem α):=fun w v w' h=>by simp at h;exact h.2.symm
theorem Q9R (m:String):Vd P (stuck m:Sem α):=fun w v w' h=>by simp at h
theorem Yy {s:Sem α} {f:α->Sem β} (d:Vd P s) (c: ∀a,Vd P (f a)):Vd P (s>>=f):=fun w v w' h=>by
 rw[Sem.run_bind] at h;cases b:s.run P w with
 | halt x w1=>rw[b] at h;simp[Result.andThen] at h
 | ok a w1=>
  rw[b] at h;have:=d _ _ _ b;subst this;exact c a _ _ _ h
theorem Q5t (a:Addr) (m:Mode):Vd P (load a m):=fun w v w' h=>by
 unfold load at h;simp only[Sem.run] at h
 split at h
 .cases h;rfl
 .split at h
  .cases h;rfl
  .cases h
theorem Tz (t:TypeId):Vd P (typeInfo t):=fun w v w' h=>by
 unfold typeInfo at h;simp only[Sem.run_bind,run_program,Result.andThen_ok] at h
 split at h<;>simp at h
 exact h.2.symm
theorem Q4C (t:TypeId):Vd P (underlying t):=fun w v w' h=>by
 unfold underlying at h;simp only[Sem.run_bind,run_program,Result.andThen_ok] at h
 split at h<;>simp at h
 exact h.2.symm
theorem Q9Q (t:TypeId):Vd P (isAgg t):=by
 unfold isAgg;refine Yy (Q4C t) fun d=>?_
 split<;>exact Li _
theorem Q8U (t:TypeId):Vd P (sizeOf t):=Yy (Tz t) fun _=>Li _
theorem Q4e (a:Addr): ∀(n i:Nat) (b:Array Value),Vd P (loadCellsFrom a i n b)
 | 0,i,b=>Li _
 | n+1,i,b=>Yy (Q5t _ _) fun v=>Q4e a n (i+1) _
theorem Q7j (t:TypeId) (a:Addr):Vd P (loadVar t a):=by
 unfold loadVar;refine Yy (Q9Q t) fun b=>?_
 split
 .exact Yy (Q8U t) fun n=>Yy (Q4e a n 0 #[]) fun cs=>Li _
 .exact Q5t _ _
theorem Q8T (t:TypeId) (v:Value):Vd P (Instr.loadAt t v):=by
 unfold Instr.loadAt;refine Yy ?_ fun a=>Q7j t a;unfold Instr.sureAddr
 split
 .exact Li _
 .exact Q9R _
def Vc (P:Program) (s:Sem α):Prop:= ∀w v w1,s.run P w= .ok v w1->w1=w/\ ∀w',s.run P w'= .ok v w'
theorem Wd (a:α):Vc P (Pure.pure a:Sem α):=fun w v w' h=>by simp at h⊢;exact ⟨h.2.symm,h.1⟩
theorem Dj (m:String):Vc P (stuck m:Sem α):=fun w v w' h=>by simp at h
theorem Yr {s:Sem α} {f:α->Sem β} (j:Vc P s) (i: ∀a,Vc P (f a)):Vc P (s>>=f):=fun w v w' h=>by
 rw[Sem.run_bind] at h;cases b:s.run P w with
 | halt x w1=>rw[b] at h;simp[Result.andThen] at h
 | ok a w1=>
  rw[b] at h;obtain ⟨rfl,d⟩:=j _ _ _ b;obtain ⟨e,g⟩:=i a _ _ _ h;refine ⟨e,fun c=>?_⟩;rw[Sem.run_bind,d c];exact g c
theorem Q12 (t:TypeId):Vc P (typeInfo t):=fun w v w' h=>by
 unfold typeInfo at h⊢;simp only[Sem.run_bind,run_program,Result.andThen_ok] at h⊢
 split at h<;>simp at h
 rename_i i a;refine ⟨h.2.symm,fun w'=>?_⟩
 simp[a,h.1]
theorem Dk (t:TypeId):Vc P (underlying t):=fun w v w' h=>by
 unfold underlying at h⊢;simp only[Sem.run_bind,run_program,Result.andThen_ok] at h⊢
 split at h<;>simp at h
 rename_i i a;refine ⟨h.2.symm,fun w'=>?_⟩
 simp[a,h.1]
theorem Fl (v:Value) (i:Nat):Vc P (Instr.extract v i):=by
 unfold Instr.extract
 split
 .split
  .exact Wd _
  .exact Dj _
 .exact Dj _
theorem X2t (v:Value):Vc P (Instr.sureAddr v):=by
 unfold Instr.sureAddr
 split
 .exact Wd _
 .exact Dj _
theorem Q5X {s:Sem α} (h: ∀w v w',s.run P w≠ .ok v w'):Vc P s:=fun w v w' e=>absurd e (h w v w')
theorem Q62 {s:Sem α} {f:α->Sem β} (c: ∀a w v w',(f a).run P w≠ .ok v w'): ∀w v w',(s>>=f).run P w≠ .ok v w':=fun w v w' h=>by
 rw[Sem.run_bind] at h;cases b:s.run P w with
 | halt x w1=>rw[b] at h;simp[Result.andThen] at h
 | ok a w1=>rw[b] at h;exact c a _ _ _ h
theorem Q5d (e:Int×Int×Bool×BoundsCode): ∀w v w',(runtimePanic (.bounds e.1 e.2.1 e.2.2.1 e.2.2.2):Sem α).run P w≠ .ok v w':=by
 unfold runtimePanic;exact Q62 fun p=>fun w v w' h=>by cases h
theorem Q40 (k:IntKind) (x y:Int) (c:BoundsCode):Vc P (boundsPanic k x y c:Sem α):=Q5X (by
 unfold boundsPanic;dsimp only
 split
 .exact Q62 fun b=>Q5d (_,_,_,_)
 .exact Q62 fun b=>Q5d (_,_,_,_))
theorem Fm (t:TypeId) (x i:Value):Vc P (Instr.indexAt t x i):=by
 unfold Instr.indexAt;refine Yr ?_ fun q=>?_
 .unfold asIntOf
  split
  .exact Wd _
  .exact Q5X fun w v w' h=>by cases h
  .exact Dj _
 refine Yr (Dk t) fun d=>?_;dsimp only
 have key: ∀(z:Option Addr×Nat×TypeId),Vc P (match z with
  | (base,b,elem)=>do
   let __do_lift<-underlying t
   have c:Bool:=decide (b<=1)&&match __do_lift with
    | TypeDesc.array b elem=>true
    | x=>false
   match base with
    | some a=>
     if 0<=q.snd/\q.snd< ↑b then do
      let __do_lift<-sizeOf elem
      pure (Value.pointer (some (a.add (q.snd.toNat*__do_lift))))
     else
      if c=true then unsupported (Unsupported.noEntry "op/indexAddr.an index out of range at an array of length 0 or 1 (ledger 616)")
      else boundsPanic q.fst q.snd (↑b) BoundsCode.index
    | none=>boundsPanic q.fst q.snd 0 BoundsCode.index):=by
  rintro ⟨base,b,elem⟩;dsimp only;refine Yr (Dk t) fun g=>?_;cases base with
  | none=>exact Q40 _ _ _ _
  | some a=>
   dsimp only
   by_cases e:0<=q.snd/\q.snd< ↑b
   .rw[if_pos e]
    exact Yr (Yr (Q12 _) fun _=>Wd _) fun n=>Wd _
   .rw[if_neg e]
    by_cases f:(decide (b<=1)&&match g with
     | TypeDesc.array b elem=>true
     | x=>false)=true
    .rw[if_pos f]
     exact Q5X fun w v w' h=>by cases h
    .rw[if_neg f]
     exact Q40 _ _ _ _
 split
 .exact Yr (X2t _) fun a=>Yr (Wd _) key
 .exact Yr (Wd _) key
 .exact Yr (Dj _) key
def Q2Y (o:Oper):Bool:=match o.op with | .move _ | .assign _ | .load .. | .extract .. | .indexAddr .. =>true | _=>false
def Q5W (o:Oper):Bool:=match o.op with | .move _ | .assign _ | .extract .. | .indexAddr .. =>true | _=>false
theorem Bj {s:Sem Value} {w:World} {K:Value->World->Prop} (h:op P (sv s) w K): ∃v w',s.run P w= .ok v w'/\K v w':=by
 rw[Ye] at h;unfold Xk sv at h;rw[Sem.run_bind] at h;cases a:s.run P w with
 | halt x w1=>rw[a] at h;exact h.elim
 | ok v w1=>rw[a] at h;exact ⟨v,w1,rfl,h⟩
theorem Bt {s:Sem Value} {v:Value} {w w':World} {K:Value->World->Prop} (h:s.run P w= .ok v w') (k:K v w'):op P (sv s) w K:=by
 rw[Ye];unfold Xk sv;rw[Sem.run_bind,h];exact k
theorem X3b {p:Program} {w w':World} {a k:Addr} {u:TypeId} {b:Bool} {r} (h: ∀(i:Nat) o,w.heap[i]? =some o->w'.heap[i]? =some o) (c:w.seen p a u k b= .ok r):w'.seen p a u k b= .ok r:=by
 cases e:w.heap[a.block]? with
 | some o=>
  have d:=h _ _ e;unfold World.seen at*;rw[d];rw[e] at c;exact c
 | none=>
  exfalso
  unfold World.seen at c;simp only[e,bind,Except.bind,throw,throwThe,MonadExceptOf.throw,pure,Except.pure] at c
  repeat (first | cases c | split at c)
theorem X3M {p:Program} {w w':World} {a:Addr} {b:Bool} {r} (h: ∀(i:Nat) o,w.heap[i]? =some o->w'.heap[i]? =some o) (c:w.farLoad p a b= .ok r):w'.farLoad p a b= .ok r:=by
 unfold World.farLoad at*;cases e:w.heap[a.block]? with
 | none=>rw[e] at c;cases c
 | some o=>
  rw[e] at c;rw[h _ _ e];cases o with
  | view d u=>
   simp only at c⊢;cases f:w.viewLoad p d u a b with
   | error s=>rw[f] at c;cases c
   | ok q=>
    rw[f] at c
    have:w'.viewLoad p d u a b= .ok q:=by
     unfold World.viewLoad at*;cases g:w.seen p d u a b with
     | error s=>rw[g] at f;cases f
     | ok z=>rw[X3b h g];rw[g] at f;exact f
    rw[this];exact c
  | _=>simp only at c;cases c
def Sd {α:Type} (P:Program) (s:Sem α):Prop:= ∀w v w1,s.run P w= .ok v w1->w1=w/\ ∀w':World,(∀(i:Nat) o,w.heap[i]? =some o->w'.heap[i]? =some o)->s.run P w'= .ok v w'
theorem Ch (a:α):Sd P (Pure.pure a:Sem α):=fun w v w' h=>by simp at h⊢;exact ⟨h.2.symm,fun _ _=>h.1⟩
theorem X19 (m:String):Sd P (stuck m:Sem α):=fun w v w' h=>by simp at h
theorem Wo {s:Sem α} {f:α->Sem β} (k:Sd P s) (j: ∀a,Sd P (f a)):Sd P (s>>=f):=fun w v w' h=>by
 rw[Sem.run_bind] at h;cases b:s.run P w with
 | halt x w1=>rw[b] at h;simp[Result.andThen] at h
 | ok a w1=>
  rw[b] at h;obtain ⟨rfl,e⟩:=k _ _ _ b;obtain ⟨g,i⟩:=j a _ _ _ h;refine ⟨g,fun d c=>?_⟩;rw[Sem.run_bind,e d c];exact i d c
theorem Q6C (a:Addr) (m:Mode):Sd P (load a m):=fun w v w1 h=>by
 unfold load at h⊢;simp only[Sem.run] at h⊢;cases e:w.cell? a with
 | some x=>
  rw[e] at h;cases h;refine ⟨rfl,fun w' d=>?_⟩
  have:w'.cell? a=some v:=by
   unfold World.cell? at*;cases c:w.heap[a.block]? with
   | none=>rw[c] at e;cases e
   | some o=>rw[c] at e;rw[d _ _ c];exact e
  rw[this]
 | none=>
  rw[e] at h;simp only at h;cases b:w.farLoad P a (m== .atomic) with
  | error s=>rw[b] at h;cases h
  | ok q=>
   rw[b] at h;cases h;refine ⟨rfl,fun w' d=>?_⟩;have g:=X3M d b;cases f:w'.cell? a with
   | none=>simp only[g]
   | some x=>
    exfalso
    unfold World.farLoad at b;unfold World.cell? at f;cases c:w.heap[a.block]? with
    | none=>rw[c] at b;cases b
    | some o=>
     rw[d _ _ c] at f;rw[c] at b;cases o<;>first | cases f | (simp only at b;cases b)
theorem Q6B {s:Sem α} (h:Vc P s):Sd P s:=fun w v w1 e=>⟨(h w v w1 e).1,fun w' _=>(h w v w1 e).2 w'⟩
theorem X18 (t:TypeId):Sd P (isAgg t):=by
 unfold isAgg;refine Wo (Q6B (Dk t)) fun d=>?_
 split<;>exact Ch _
theorem Q53 (a:Addr): ∀(n i:Nat) (b:Array Value),Sd P (loadCellsFrom a i n b)
 | 0,i,b=>Ch _
 | n+1,i,b=>Wo (Q6C _ _) fun v=>Q53 a n (i+1) _
theorem Q9q (t:TypeId) (v:Value):Sd P (Instr.loadAt t v):=by
 unfold Instr.loadAt;refine Wo ?_ fun a=>?_
 .unfold Instr.sureAddr
  split
  .exact Ch _
  .exact X19 _
 .unfold loadVar
  refine Wo (X18 t) fun b=>?_
  split
  .exact Wo (Wo (Q6B (Q12 t)) fun _=>Ch _) fun n=>Wo (Q53 a n 0 #[]) fun cs=>Ch _
  .exact Q6C _ _
theorem X31 {l:List Value} {o:Oper} {w:World} {K:Value->World->Prop} (h:Q2Y o=true) (c:N3 P l o w K): ∃v,K v w/\ ∀(w':World) b,(∀(i:Nat) o,w.heap[i]? =some o->w'.heap[i]? =some o)->b v w'->N3 P l o w' b:=by
 obtain ⟨d,p,n,pos,m,g⟩:=o;cases p<;>(first | (simp[Q2Y] at h;done) | skip)<;>simp only[N3] at c⊢
 .exact ⟨_,c,fun w' b _ a=>a⟩
 .exact ⟨_,c,fun w' b _ a=>a⟩
 .obtain ⟨v,w',e,f⟩:=Bj c
  obtain ⟨rfl,j⟩:=Q9q _ _ _ _ _ e;exact ⟨v,f,fun w' b k a=>Bt (j w' k) a⟩
 .obtain ⟨v,w',e,f⟩:=Bj c
  obtain ⟨rfl,j⟩:=Fm _ _ _ _ _ _ e;exact ⟨v,f,fun w' b k a=>Bt (j w') a⟩
 .obtain ⟨v,w',e,f⟩:=Bj c
  obtain ⟨rfl,j⟩:=Fl _ _ _ _ _ e;exact ⟨v,f,fun w' b k a=>Bt (j w') a⟩
theorem Q64 {γ δ:Type} {s:Sem γ} {f:γ->Sem δ} {w w':World} {v:δ} (h:(s>>=f).run P w= .ok v w'): ∃a w1,s.run P w= .ok a w1/\(f a).run P w1= .ok v w':=by
 rw[Sem.run_bind] at h;cases b:s.run P w with
 | halt x w1=>rw[b] at h;simp[Result.andThen] at h
 | ok a w1=>rw[b] at h;exact ⟨a,w1,rfl,h⟩
theorem X4l {γ:Type} {r:Unsupported}:Vd P (unsupported r:Sem γ):=fun w v w' h=>by simp[unsupported] at h
theorem Q7x {l:List Value} {o:Oper} {w:World} {K:Value->World->Prop} (h:Rs o=true) (j:N3 P l o w K): ∃v w',(∀(i:Nat) o,w.heap[i]? =some o->w'.heap[i]? =some o)/\K v w'/\ ∀b:Value->World->Prop,b v w'->N3 P l o w b:=by
 obtain ⟨d,p,D,pos,B,g⟩:=o;cases p<;>(first | (simp[Rs] at h;done) | skip)
 simp only[N3] at j⊢;obtain ⟨v,w',f,s⟩:=Bj j;refine ⟨v,w',?_,s,fun b t=>Bt f t⟩;have a:=f;unfold Instr.alloc zeroValue at a;obtain ⟨z,w1,A,m⟩:=Q64 a;have y:w1=w:=Yy (Tz _) (fun i=>by split;exact Li _;exact X4l) _ _ _ A
 subst y;simp only at m;obtain ⟨c,E,n,q⟩:=Q64 m;simp only[Sem.run_pure,Result.ok.injEq] at q;obtain ⟨_,rfl⟩:=q;unfold newVar newRow at n;obtain ⟨C,H,e,r⟩:=Q64 n;simp only[Sem.run_pure,Result.ok.injEq] at r;obtain ⟨_,rfl⟩:=r;unfold newObj at e;simp only[Sem.run,Result.ok.injEq] at e;obtain ⟨_,rfl⟩:=e;intro i o k;have u:=(Array.getElem?_eq_some_iff.1 k).1;simp only[Array.getElem?_push];rw[if_neg Q4];exact k
theorem Q8I {l:List Value} {o:Oper} {w:World} {K:Value->World->Prop} (h:Q2Y o=true) (e:N3 P l o w K): ∃v,K v w/\ ∀c,c v w->N3 P l o w c:=by
 obtain ⟨d,p,j,pos,i,g⟩:=o;cases p<;>(first | (simp[Q2Y] at h;done) | skip)<;>simp only[N3] at e⊢
 .exact ⟨_,e,fun c a=>a⟩
 .exact ⟨_,e,fun c a=>a⟩
 .obtain ⟨v,w',b,f⟩:=Bj e
  have:=Q8T _ _ _ _ _ b;subst this;exact ⟨v,f,fun c a=>Bt b a⟩
 .obtain ⟨v,w',b,f⟩:=Bj e
  have:=(Fm _ _ _ _ _ _ b).1;subst this;exact ⟨v,f,fun c a=>Bt b a⟩
 .obtain ⟨v,w',b,f⟩:=Bj e
  have:=(Fl _ _ _ _ _ b).1;subst this;exact ⟨v,f,fun c a=>Bt b a⟩
theorem Q4r {l:List Value} {o:Oper} {w:World} {K:Value->World->Prop} (h:Q5W o=true) (c:N3 P l o w K): ∃v,K v w/\ ∀w' b,b v w'->N3 P l o w' b:=by
 obtain ⟨d,p,k,pos,j,g⟩:=o;cases p<;>(first | (simp[Q5W] at h;done) | skip)<;>simp only[N3] at c⊢
 .exact ⟨_,c,fun w' b a=>a⟩
 .exact ⟨_,c,fun w' b a=>a⟩
 .obtain ⟨v,w',e,f⟩:=Bj c
  obtain ⟨rfl,i⟩:=Fm _ _ _ _ _ _ e;exact ⟨v,f,fun w' b a=>Bt (i w') a⟩
 .obtain ⟨v,w',e,f⟩:=Bj c
  obtain ⟨rfl,i⟩:=Fl _ _ _ _ _ e;exact ⟨v,f,fun w' b a=>Bt (i w') a⟩
structure Swap (ops : List Oper) (a b : Oper) : Prop where
  pa : Jg a.op = true
  pb : Jg b.op = true
  ga : a.guard = none
  ab : ∀ d, a.dst = some d -> d ∉ F8 ops b ++ G7 b
  ba : ∀ d, b.dst = some d -> d ∉ F8 ops a ++ G7 a
  dd : ∀ d, a.dst = some d -> b.dst ≠ some d
  gb : ∀ j c, b.guard = some (j, c) -> ((ops[j]?).bind (·.dst)).isSome = true
  rd : (Q2Y a = true /\ (Q2Y b = true \/ Rs b = true) /\ b.guard = none \/ Rs a = true /\ Q5W b = true /\ b.guard = none) \/ Q5W a = true
variable {ops : List Oper} {W3 : List Value -> World -> Prop}
theorem Q4F {l:List Value} {d:Option Nat} {v:Value} {s:Nat} (h: ∀e,d=some e->e≠s):get (put l d v) s=get l s:=by
 cases d with
 | none=>rfl
 | some e=>simp only[put,get,List.getD_eq_getElem?_getD,List.getElem?_set_ne (h e rfl)]
theorem X3e {l:List Value} {d e:Option Nat} {v u:Value} (h: ∀x,d=some x->e≠some x):put (put l d v) e u=put (put l e u) d v:=by
 cases d with
 | none=>rfl
 | some d=>cases e with
  | none=>rfl
  | some e=>simp only[put];exact List.set_comm _ _ (by intro a;subst a;exact h d rfl rfl)
theorem Q6L {o:Oper} {s:Nat} (a:Operand.tmp s∈o.op.operands):s∈G7 o:=by
 simp only[G7,List.mem_filterMap];exact ⟨.tmp s,by simpa using a,rfl⟩
theorem Q9k {a b:Oper} {R:List Oper} {l:List Value} {w:World} (Y:Swap ops a b) (h:J5 P ops W3 (a::b::R) l w):J5 P ops W3 (b::a::R) l w:=by
 obtain ⟨pa,Z,V,L,O,Q,W,N⟩:=Y
 have o: ∀v,N3 P (put l a.dst v) b=N3 P l b:=fun v=>Se Z fun x J=>by
  cases x with
  | tmp s=>exact Q4F fun e t g=>L e t (List.mem_append_right _ (g▸Q6L J))
  | _=>rfl
 have m: ∀v,N3 P (put l b.dst v) a=N3 P l a:=fun v=>Se pa fun x J=>by
  cases x with
  | tmp s=>exact Q4F fun e t g=>O e t (List.mem_append_right _ (g▸Q6L J))
  | _=>rfl
 have n: ∀v u,put (put l b.dst u) a.dst v=put (put l a.dst v) b.dst u:=fun v u=>(X3e Q).symm;simp only[J5,V] at h⊢;cases k:b.guard with
 | none=>
  simp only[k] at h⊢
  rcases N with (⟨z,rb | rb,_⟩ | ⟨z,U,_⟩) | fa
  .obtain ⟨A,f,i⟩:=Q8I z h
   rw[o] at f;obtain ⟨B,p,r⟩:=Q8I rb f;refine r _ ?_;rw[m];exact i _ (by rw[n];exact p)
  .obtain ⟨A,f,i⟩:=X31 z h
   rw[o] at f;obtain ⟨B,wb,k,p,r⟩:=Q7x rb f;refine r _ ?_;rw[m];exact i wb _ k (by rw[n];exact p)
  .obtain ⟨A,wa,k,f,i⟩:=Q7x z h
   rw[o] at f;obtain ⟨B,p,r⟩:=Q4r U f;refine r w _ ?_;rw[m];exact i _ (by rw[n];exact p)
  .obtain ⟨A,f,i⟩:=Q4r fa h
   rw[o] at f;refine Qp (fun B w' H=>?_) f;rw[m];exact i w' _ (by rw[n];exact H)
 | some q=>
  obtain ⟨j,c⟩:=q
  rcases N with (⟨_,_,y⟩ | ⟨_,_,y⟩) | fa
  .rw[k] at y;cases y
  .rw[k] at y;cases y
  obtain ⟨d,M⟩:=Option.isSome_iff_exists.1 (W j c k);have E:d∈F8 ops b:=by simp[F8,k,M]
  have X: ∀v,get (put l a.dst v) d=get l d:=fun v=>Q4F fun e t g=>L e t (List.mem_append_left _ (g▸E));simp only[k,M] at h⊢;obtain ⟨A,f,i⟩:=Q4r fa h;rw[o,X] at f;refine Q2q ((Ou f).imp (fun ⟨C,D⟩=>⟨C,Qp (fun B w' H=>?_) D⟩) (fun ⟨C,D⟩=>⟨C,?_⟩))
  .rw[m];exact i w' _ (by rw[n];exact H)
  .rw[m];exact i w _ (by rw[n];exact D)
theorem Q3Y {a:Oper} {R R':List Oper} {l:List Value} {w:World} (b: ∀l w,J5 P ops W3 R l w->J5 P ops W3 R' l w) (h:J5 P ops W3 (a::R) l w):J5 P ops W3 (a::R') l w:=by
 simp only[J5] at h⊢;cases k:a.guard with
 | none=>simp only[k] at h⊢;exact Qp (fun v w g=>b _ _ g) h
 | some q=>
  obtain ⟨j,c⟩:=q;simp only[k] at h⊢;cases i:(ops[j]?).bind (·.dst) with
  | none=>simp only[i] at h⊢;exact b _ _ h
  | some d=>
   simp only[i] at h⊢;exact Q2q ((Ou h).imp (fun ⟨e,f⟩=>⟨e,Qp (fun m w' g=>b _ _ g) f⟩) (fun ⟨e,f⟩=>⟨e,b _ _ f⟩))
theorem Q27 {q:Oper} {R:List Oper}: ∀(A:List Oper) {l:List Value} {w:World},(∀a∈A,Swap ops a q)->J5 P ops W3 (A++q::R) l w->J5 P ops W3 (q::(A++R)) l w
 | [],_,_,_,h=>h
 | a::A,l,w,c,h=>Q9k (c a U5) (Q3Y (R:=A++q::R) (fun _ _ h=>Q27 A (fun b d=>c b (by simp[d])) h) h)
theorem Dg: ∀(A:List Oper) {B:List Oper} {l:List Value} {w:World},J5 P ops W3 (A++B) l w=J5 P ops (fun l w=>J5 P ops W3 B l w) A l w
 | [],B,l,w=>rfl
 | a::A,B,l,w=>by
  simp only[List.cons_append,J5]
  split
  .congr 1;funext v w;exact Dg A
  .split
   .congr 1;funext v w;exact Dg A
   .exact Dg A
theorem X0X {A B b:List Oper} {l:List Value} {w:World} (c: ∀l w,J5 P ops W3 B l w->J5 P ops W3 b l w): ∀{l:List Value} {w:World},J5 P ops W3 (A++B) l w->J5 P ops W3 (A++b) l w:=by
 induction A with
 | nil=>exact fun h=>c _ _ h
 | cons a A d=>exact fun h=>Q3Y (fun _ _ h=>d h) h
theorem X0q (os:List Oper) (bit:Nat->Nat->Bool) (t: ∀p q a b,p<q->os[p]? =some a->os[q]? =some b->bit p q=false->Swap ops a b):
 ∀(n:Nat) (W3:List Value->World->Prop) (L:List Nat) (l:List Value) (w:World),L.Nodup->L.length=n->(∀q∈L,q<n)->n<=os.length->L.Pairwise (fun q p=>p<q->bit p q=false)->
  J5 P ops W3 (os.take n) l w->J5 P ops W3 (L.filterMap (os[·]?)) l w
 | 0,W3,L,l,w,u,v,g,y,D,h=>by
  have:L=[]:=List.eq_nil_of_length_eq_zero v;subst this;exact h
 | n+1,W3,L,l,w,u,v,g,y,D,h=>by
  have V:n∈L:=Classical.byContradiction fun o=>by
   have O:=I7 n L u fun k J=>by
    have i:=g k J;have H:k≠n:=fun e=>o (e▸J);omega
   omega
  obtain ⟨A,B,rfl⟩:=List.append_of_mem V;have d:n<os.length:=by omega
  have c:os[n]? =some os[n]:=List.getElem?_eq_getElem d;have m:=List.nodup_append.1 u;have C:n∉B:=(List.nodup_cons.1 m.2.1).1;have z:n∉A:=fun e=>m.2.2 n e n U5 rfl;have N:os.take (n+1)=os.take n++[os[n]]:=(List.take_append_getElem d).symm;rw[N,Dg] at h
  have j: ∀q∈A++B,q<n:=fun q M=>by
   have O:q<n+1:=g q (by rcases List.mem_append.1 M with h | h<;>simp[h])
   have i:q≠n:=fun e=>by
    subst e
    rcases List.mem_append.1 M with h | h
    .exact z h
    .exact C h
   omega
  have f:(A++B).Sublist (A++n::B):=List.Sublist.append (List.Sublist.refl A) (List.sublist_cons_self n B);have i:=X0q os bit t n _ (A++B) l w (u.sublist f) (by simp at v⊢;omega) j Q4 (D.sublist f) h
  rw[<-Dg] at i;rw[List.filterMap_append,List.append_assoc] at i;rw[List.filterMap_append,List.filterMap_cons,c];refine X0X (l:=l) (w:=w) (fun l w H=>?_) i;have:=Q27 (R:=[]) (B.filterMap (os[·]?)) (fun a U=>?_) H
  .rwa [List.append_nil] at this
  .obtain ⟨p,r,E⟩:=List.mem_filterMap.1 U
   have s:=j p (List.mem_append_right _ r);refine t p n a _ s E c ?_;have Q:=(List.pairwise_append.1 D).2.1;exact (List.pairwise_cons.1 Q).1 p r s
def Q5w (ops:List Oper) (a b:Oper):Bool:=
 (match a.guard with | none=>true | some _=>false)&&(match b.guard with | none=>true | some (j,_)=>match (ops[j]?).bind (·.dst) with | some _=>true | none=>false)&&
  (((Q2Y a&&(Q2Y b||Rs b)||Rs a&&Q5W b)&&(match b.guard with | none=>true | some _=>false))||Q5W a)
def X1D (ops:List Oper) (a:List Nat):Bool:=
 ops.any Q86&&ops.any Q2u&&(List.range ops.length).all fun q=>(List.range q).all fun p=>P6 ops a p q||Q5w ops (ops.getD (a.getD p 0) default) (ops.getD (a.getD q 0) default)
theorem Ry {α:Type} {R:α->α->Prop}: ∀(a b:List α) {L:List α},L=b++a->(∀b q a,L=b++q::a-> ∀p∈a,R q p)->a.Pairwise R
 | [],_,_,_,_=>List.Pairwise.nil
 | q::a,b,L,c,h=>List.pairwise_cons.2 ⟨h b q a c,Ry a (b++[q]) (by rw[c];simp) h⟩
theorem Q5N {P:Program} {ops:Array Oper} {W3:List Value->World->Prop} {l0:List Value} {ord L:List Nat} {bit:Nat->Nat->Bool} (ha:Arr ops.toList ord L) (hosl:(J8 ops.toList ord).length=ops.toList.length) (hn:Je (G1 (J8 ops.toList ord))=true) (hbit: ∀p q,P6 ops.toList ord p q=true->bit p q=true)
 (hsq: ∀p q,p<q->q<ops.toList.length->(bit p q||Q5w ops.toList (ops.toList.getD (ord.getD p 0) default) (ops.toList.getD (ord.getD q 0) default))=true) (hpair:L.Pairwise fun q p=>p<q->bit p q=false) (w:World)
 (h:J5 P ops.toList W3 (J8 ops.toList ord) l0 w):J5 P ops.toList W3 (L.filterMap ((J8 ops.toList ord)[·]?)) l0 w:=by
 refine X0q (J8 ops.toList ord) bit (fun p q a b' hpq hpa hqb hb=>?_) _ W3 L l0 w ha.hn rfl (fun q hq=>by rw[ha.hLl];exact ha.hlt q hq) (by rw[ha.hLl];exact Nat.le_refl _) hpair (by rw[ha.hLl,List.take_length];exact h)
 have hql:q<ops.toList.length:=by have:=(List.getElem?_eq_some_iff.1 hqb).1;omega
 have hpl:p<ops.toList.length:=by omega
 have hget: ∀i o,(J8 ops.toList ord)[i]? =some o->ops.toList.getD (ord.getD i 0) default=o:=by
  intro i o hi;unfold J8 at hi;rw[List.getElem?_map] at hi;cases ho:ord[i]? with
  | none=>rw[ho] at hi;cases hi
  | some x=>
   rw[ho] at hi;simp only[Option.map_some,Option.some.injEq] at hi;rw[List.getD_eq_getElem?_getD (l:=ord),ho];exact hi
 have hnc:(Yp a b'||Yp b' a)=false:=by
  cases hx:Yp a b'||Yp b' a with
  | false=>rfl
  | true=>rw[hbit p q (ha.hclash p q a b' hpq hpa hqb hx)] at hb;cases hb
 rw[Bool.or_eq_false_iff] at hnc;have hs:=hsq p q hpq hql;rw[hb,Bool.false_or,hget p a hpa,hget q b' hqb] at hs;simp only[Q5w,Bool.and_eq_true,Bool.or_eq_true] at hs;obtain ⟨⟨g1,g2⟩,g3⟩:=hs
 have hga:a.guard=none:=by
  cases hx:a.guard with
  | none=>rfl
  | some _=>rw[hx] at g1;cases g1
 have c1: ∀d,a.dst=some d->d∉G7 b'/\b'.dst≠some d:=fun d hd=>by
  have:=hnc.1;unfold Yp at this;rw[hd] at this;simp only[Bool.or_eq_false_iff] at this;exact ⟨fun hm=>by simp[hm] at this,fun hm=>by simp[hm] at this⟩
 have c2: ∀d,b'.dst=some d->d∉G7 a:=fun d hd=>by
  have:=hnc.2;unfold Yp at this;rw[hd] at this;simp only[Bool.or_eq_false_iff] at this;exact fun hm=>by simp[hm] at this
 refine ⟨ha.hpl a (List.mem_of_getElem? hpa),ha.hpl b' (List.mem_of_getElem? hqb),hga,fun d hd'=>?_,fun d hd'=>?_,fun d hd'=>(c1 d hd').2,fun j c hbg=>?_,?_⟩
 .rw[List.mem_append,not_or]
  refine ⟨fun hm=>?_,(c1 d hd').1⟩;unfold F8 at hm;cases hbg:b'.guard with
  | none=>rw[hbg] at hm;simp at hm
  | some q0=>
   obtain ⟨j,c⟩:=q0;obtain ⟨p',hp',hpj,hbt⟩:=ha.hg q b' j c hqb hbg;rw[hbg] at hm;simp only at hm;cases hjd:ops.toList[j]?.map (·.dst) with
   | none=>
    cases hj:ops.toList[j]? with
    | none=>rw[hj] at hm;simp at hm
    | some oj=>rw[hj] at hjd;cases hjd
   | some dj=>
    cases hj:ops.toList[j]? with
    | none=>rw[hj] at hjd;cases hjd
    | some oj=>
     rw[hj] at hm hpj;simp only[Option.bind_some] at hm;cases hdj:oj.dst with
     | none=>rw[hdj] at hm;simp at hm
     | some d2=>
      rw[hdj] at hm;simp only[List.mem_singleton] at hm;subst hm;have:=Jt (J8 ops.toList ord) hn p' p oj a d hpj hpa hdj hd';subst this;rw[hbit _ _ hbt] at hb;cases hb
 .rw[List.mem_append,not_or]
  exact ⟨fun hm=>by simp[F8,hga] at hm,c2 d hd'⟩
 .rw[hbg] at g2
  simp only at g2;cases hx:(ops.toList[j]?).bind (·.dst) with
  | none=>rw[hx] at g2;cases g2
  | some _=>rfl
 .rcases g3 with ⟨g3,g5⟩ | g3
  .have hn:b'.guard=none:=by
    cases hx:b'.guard with
    | none=>rfl
    | some _=>rw[hx] at g5;cases g5
   exact .inl (g3.imp (fun g=>⟨g.1,g.2,hn⟩) fun g=>⟨g.1,g.2,hn⟩)
  .exact .inr g3
theorem X6z (P:Program) (ops:Array Oper) (W3:List Value->World->Prop) (m:List Value) (a:Ml ops.toList m.length=true) (e:X1D ops.toList (H1 ops.toList)=true)
 (b:Bool) (t:Nat) (w:World) (h:J5 P ops.toList W3 (J8 ops.toList (H1 ops.toList)) m w):J5 P ops.toList W3 ((Region.schedule b ops t).filterMap (ops[·]?)) m w:=by
 obtain ⟨L,k,i,c⟩:=Q6t a b t;simp only[Ml,Bool.and_eq_true] at a;obtain ⟨⟨⟨⟨⟨E,C⟩,y⟩,D⟩,⟨z,A⟩,B⟩,r⟩:=a;generalize H1 ops.toList=f at*;rw[k];refine Q5N i c y (bit:=P6 ops.toList f) (fun _ _ h=>h) (fun p q d l=>?_) ?_ w h
 .simp only[X1D,Bool.and_eq_true] at e
  exact List.all_eq_true.1 (List.all_eq_true.1 e.2 q (by simpa using l)) p (by simpa using d)
 .refine Ry L [] (L:=L) rfl fun n q g j p s d=>?_
  cases v:P6 ops.toList f p q with
  | false=>rfl
  | true=>
   have u:=i.hC n q g j p v (i.hlt p (by rw[j];simp[s]))
   have o:=i.hn;rw[j] at o;exact absurd rfl ((List.nodup_append.1 o).2.2 p u p (by simp[s]))
def X73 (b:List Nat) (a c:Nat):List Nat:=((b.erase a).takeWhile (· !=c))++a::((b.erase a).dropWhile (· !=c))
def Q8V (ops:List Oper) (d b:List Nat) (a c:Nat):Bool:=
 Q7n ops b&&Je (G1 (J8 ops b))&&
  ((List.range ops.length).all fun q=>(List.range q).all fun p=>(P6 ops d p q||(d.getD p 0==c&&d.getD q 0==a))||Q5w ops (ops.getD (d.getD p 0) default) (ops.getD (d.getD q 0) default))&&
  ((List.range ops.length).all fun q=>(List.range q).all fun p=>(P6 ops b p q||(b.getD p 0==a&&b.getD q 0==c))||Q5w ops (ops.getD (b.getD p 0) default) (ops.getD (b.getD q 0) default))
def X1J (ops:List Oper):Option (List Nat):=
 match ops.any Q86&&ops.any Q2u&&ops.any Rs with
 | true=>match ops.findIdx Rs !=ops.findIdx Q2u&&Q8V ops (H1 ops) (X73 (H1 ops) (ops.findIdx Rs) (ops.findIdx Q2u)) (ops.findIdx Rs) (ops.findIdx Q2u) with
  | true=>some (X73 (H1 ops) (ops.findIdx Rs) (ops.findIdx Q2u))
  | false=>none
 | false=>none
theorem X4W {ops:Array Oper} {a f:List Nat} {x y:Nat} (U:f.Nodup) (v: ∀i∈f,i<ops.toList.length/\a.getD (a.idxOf i) 0=i) (m:Arr ops.toList a (f.map (a.idxOf ·))) (o: ∀e s c,f≠e++y::(s++x::c)):
 (f.map (a.idxOf ·)).Pairwise fun q p=>p<q->(P6 ops.toList a p q||(a.getD p 0==x&&a.getD q 0==y))=false:=by
 refine Ry _ [] (L:=f.map (a.idxOf ·)) rfl fun e q c b p l N=>?_;rw[Bool.or_eq_false_iff];constructor
 .cases J:P6 ops.toList a p q with
  | false=>rfl
  | true=>
   have h:=m.hC e q c b p J (m.hlt p (by rw[b];simp[l]))
   have g:=m.hn;rw[b] at g;exact absurd rfl ((List.nodup_append.1 g).2.2 p h p (by simp[l]))
 .rw[Bool.and_eq_false_iff]
  refine Classical.byContradiction fun d=>?_;rw[not_or] at d;obtain ⟨h,g⟩:=d;have h:a.getD p 0=x:=by simpa using h
  have g:a.getD q 0=y:=by simpa using g
  rw[List.map_eq_append_iff] at b;obtain ⟨j,u,B,_,w⟩:=b;rw[List.map_eq_cons_iff] at w;obtain ⟨i,t,C,O,r⟩:=w;rw[<-r,List.mem_map] at l;obtain ⟨k,M,n⟩:=l;obtain ⟨Q,R,D⟩:=List.append_of_mem M;subst C B D;have z:=(v i U5).2;have A:=(v k U5).2;rw[O] at z;rw[n] at A;have E:i=y:=by rw[<-z];exact g
  have H:k=x:=by rw[<-A];exact h
  subst E H;exact o j Q R rfl
theorem X5j (P:Program) (ops:Array Oper) (W3:List Value->World->Prop) (D:List Value) (A:Ml ops.toList D.length=true) {d:List Nat} {a c:Nat} (ae:a≠c) (C:Q8V ops.toList (H1 ops.toList) d a c=true)
 (b:Bool) (t:Nat) (w:World) (h1:J5 P ops.toList W3 (J8 ops.toList (H1 ops.toList)) D w) (h2:J5 P ops.toList W3 (J8 ops.toList d) D w):J5 P ops.toList W3 ((Region.schedule b ops t).filterMap (ops[·]?)) D w:=by
 simp only[Ml,Bool.and_eq_true] at A;obtain ⟨⟨⟨⟨⟨U,R⟩,hn⟩,hd⟩,⟨u,v⟩,z⟩,B⟩:=A;simp only[Q8V,Bool.and_eq_true] at C;obtain ⟨⟨⟨j,M⟩,N⟩,O⟩:=C
 by_cases r: ∃i g f,Region.schedule b ops t=i++a::(g++c::f)
 .obtain ⟨E,n,H,o,J⟩:=An U R u v z j b t
  rw[E];refine Q5N n H M (bit:=fun p q=>P6 ops.toList d p q||(d.getD p 0==a&&d.getD q 0==c)) (fun p q h=>by rw[h];rfl) (fun p q k l=>?_) (X4W o J n fun i g f e=>?_) w h2
  .exact List.all_eq_true.1 (List.all_eq_true.1 O q (by simpa using l)) p (by simpa using k)
  .obtain ⟨W,V,Q,X⟩:=r
   have s: ∀{L p m q:List Nat} {x y:Nat},L=p++x::(m++y::q)->L[p.length]? =some x/\L[p.length+1+m.length]? =some y/\p.length+1+m.length<L.length:=by
    rintro L p m q x y rfl;refine ⟨by simp,?_,by simp;omega⟩
    rw[List.getElem?_append_right Q4,show p.length+1+m.length-p.length=m.length+1 by omega,List.getElem?_cons_succ]
    simp
   obtain ⟨Y,Z,g3⟩:=s e;obtain ⟨g4,g5,g6⟩:=s X;have k1:=(List.getElem?_inj Q4 o).1 (Y.trans g5.symm);have k2:=(List.getElem?_inj Q4 o).1 (Z.trans g4.symm);omega
 .obtain ⟨E,n,H,o,J⟩:=An U R u v z B b t
  rw[E];refine Q5N n H hn (bit:=fun p q=>P6 ops.toList (H1 ops.toList) p q||((H1 ops.toList).getD p 0==c&&(H1 ops.toList).getD q 0==a)) (fun p q h=>by rw[h];rfl) (fun p q k l=>?_) (X4W o J n fun i g f e=>r ⟨i,g,f,e⟩) w h1
  exact List.all_eq_true.1 (List.all_eq_true.1 N q (by simpa using l)) p (by simpa using k)
theorem X6A (P:Program) (ops:Array Oper) (W3:List Value->World->Prop) (d:List Value) (f:Ml ops.toList d.length=true) {a:List Nat} (c:X1J ops.toList=some a)
 (b:Bool) (t:Nat) (w:World) (h:J5 P ops.toList W3 (J8 ops.toList (H1 ops.toList)) d w/\J5 P ops.toList W3 (J8 ops.toList a) d w):J5 P ops.toList W3 ((Region.schedule b ops t).filterMap (ops[·]?)) d w:=by
 unfold X1J at c
 split at c
 .split at c
  .rename_i e
   cases c;rw[Bool.and_eq_true] at e;exact X5j P ops W3 d f (by simpa using e.1) e.2 b t w h.1 h.2
  .cases c
 .cases c
theorem X4X: ∃f:World->(World->Prop)->Prop,f=fun w A=>A w.drew:=⟨_,rfl⟩
noncomputable def sq:World->(World->Prop)->Prop:=Classical.choose X4X
theorem X1F:sq=fun w A=>A w.drew:=Classical.choose_spec X4X
def Q7q:List Ent->Nat->Ent->(List Ent->Prop)->Prop
 | [],_,_,k=>k []
 | _::l,0,e,k=>k (e::l)
 | x::l,n+1,e,k=>Q7q l n e (fun l'=>k (x::l'))
def Q0n (S:List Ent) (d:Option Nat) (e:Ent) (k:List Ent->Prop):Prop:=
 match d with
 | some d=>Q7q S d e k
 | none=>k S
def X15:List Ent->Nat->(Ent->Prop)->Prop
 | [],_,k=>k (.val undef)
 | x::_,0,k=>k x
 | _::l,n+1,k=>X15 l n k
def X2k (S:List Ent) (x:Operand) (k:Ent->Prop):Prop:=
 match x with
 | .tmp t=>X15 S t k
 | .const v=>k (.val v)
 | .global g=>k (.val (.pointer (some ⟨g,0,none⟩)))
 | .func f=>k (.val (.func (.func f) #[] #[]))
def Q3f (u:Nat->Value):List Ent->(List Value->Prop)->Prop
 | [],k=>k []
 | .val v::S,k=>Q3f u S (fun l=>k (v::l))
 | .ref j::S,k=>Q3f u S (fun l=>k (u j::l))
def Q91:List Value->(List Ent->Prop)->Prop
 | [],k=>k []
 | v::l,k=>Q91 l (fun S=>k (.val v::S))
theorem Q8W: ∀(S:List Ent) (n:Nat) (e:Ent) (k:List Ent->Prop),Q7q S n e k=k (Q4D S n e)
 | [],_,_,_=>rfl
 | _::_,0,_,_=>rfl
 | _::l,n+1,e,k=>by simp only[Q7q,Q4D,Q8W l n e]
theorem Rz (S:List Ent) (d:Option Nat) (e:Ent) (k:List Ent->Prop):Q0n S d e k=k (putE S d e):=by
 cases d with
 | none=>rfl
 | some d=>exact Q8W S d e k
theorem Q84: ∀(S:List Ent) (n:Nat) (k:Ent->Prop),X15 S n k=k (getE S n)
 | [],_,_=>rfl
 | _::_,0,_=>rfl
 | _::l,n+1,k=>Q84 l n k
theorem X2l (S:List Ent) (x:Operand) (k:Ent->Prop):X2k S x k=k (entOf S x):=by
 cases x with
 | tmp t=>exact Q84 S t k
 | _=>rfl
theorem Q4o (u:Nat->Value): ∀(S:List Ent) (k:List Value->Prop),Q3f u S k=k (Qc u S)
 | [],_=>rfl
 | .val v::S,k=>by simp only[Q3f,Q4o u S];rfl
 | .ref j::S,k=>by simp only[Q3f,Q4o u S];rfl
theorem Q6f: ∀(l:List Value) (k:List Ent->Prop),Q91 l k=k (l.map .val)
 | [],_=>rfl
 | v::l,k=>by simp only[Q91,Q6f l];rfl
noncomputable def Vz (P:Program) (r:Bool) (ops:List Oper) (T:(Nat->Iv)->World->World->Prop) (B:World->Prop) (W3:List Value->World->Prop) (tail:List Oper):Nat->List Oper->List Ent->Bz->List Nat->Prop
 | _,[],S,c,done=>Ns done (fun _=>undef) fun u=>allI r fun b=> ∀w,B w->Q3l c u b w (Q3f u S fun l=>Qz P ops W3 tail l w) done
 | i,o::a,S,c,done=>
  match mv o with
  | some x=>X2k S x fun e=>Q0n S o.dst e fun S=>Vz P r ops T B W3 tail (i+1) a S c done
  | none=>match X1k r o with
   | true=>match r with
    | true=>X0Y T (fun φ=>Ns (refs ops S o) (fun _=>undef) fun u=>allI true fun b=> ∀w,B w->Nw c u b w (runOp P ops (Qc u S) o w (dk (T b) (φ ((refs ops S o).map u)) w)) (refs ops S o))
     (fun φ=>Q0n S o.dst (.ref i) fun d=>Vz P r ops T B W3 tail (i+1) a d (c++[(i,refs ops S o,fun xs (_:Iv)=>φ xs)]) (done++[i]))
    | false=>Fh (T ivZ) (fun φ=>Ns (refs ops S o) (fun _=>undef) fun u=>allI false fun b=> ∀w,B w->Nw c u b w (runOp P ops (Qc u S) o w (dk (T b) (φ ((refs ops S o).map u)) w)) (refs ops S o))
     (fun φ=>Q0n S o.dst (.ref i) fun d=>Vz P r ops T B W3 tail (i+1) a d (c++[(i,refs ops S o,fun xs (_:Iv)=>φ xs)]) (done++[i]))
   | false=>match X1j r o with
    | true=>X3I T i (fun φ=>Ns (refs ops S o) (fun _=>undef) fun u=>allI r fun b=> ∀w,B w->Nw c u b w (runOp P ops (Qc u S) o w (dkR (T b) φ w)) (refs ops S o))
     (fun φ=>Q0n S o.dst (.ref i) fun d=>Vz P r ops T B W3 tail (i+1) a d (c++[(i,[],fun (_:List Value)=>φ)]) (done++[i]))
    | false=>match r with
     | true=>X3H T (fun φ=>Ns (refs ops S o) (fun _=>undef) fun u=>allI true fun b=> ∀w,B w->Nw c u b w (runOp P ops (Qc u S) o w (dk (T b) φ w)) (refs ops S o))
      (fun φ=>Q0n S o.dst (.ref i) fun d=>Vz P r ops T B W3 tail (i+1) a d (c++[(i,[],fun (_:List Value) (_:Iv)=>φ)]) (done++[i]))
     | false=>Z7 (T ivZ) (fun φ=>Ns (refs ops S o) (fun _=>undef) fun u=>allI false fun b=> ∀w,B w->Nw c u b w (runOp P ops (Qc u S) o w (dk (T b) φ w)) (refs ops S o))
      (fun φ=>Q0n S o.dst (.ref i) fun d=>Vz P r ops T B W3 tail (i+1) a d (c++[(i,[],fun (_:List Value) (_:Iv)=>φ)]) (done++[i]))
theorem Jl (P:Program) (r:Bool) (ops:List Oper) (T:(Nat->Iv)->World->World->Prop) (B:World->Prop) (W3:List Value->World->Prop) (tail:List Oper): ∀(a:List Oper) (i:Nat) (S:List Ent) (b:Bz) (done:List Nat),
 Vz P r ops T B W3 tail i a S b done=chain P r ops T B W3 tail i a S b done
 | [],i,S,b,done=>by simp only[Vz,chain,Q4o]
 | o::a,i,S,b,done=>by
  simp only[Vz,chain]
  split
  .rw[X2l,Rz,Jl]
  .split
   .cases r with
    | true=>
     dsimp only
     congr 1
     funext φ
     rw[Rz,Jl]
    | false=>
     dsimp only
     congr 1
     funext φ
     rw[Rz,Jl]
   .split
    .congr 1
     funext φ
     rw[Rz,Jl]
    .cases r with
     | true=>
      dsimp only
      congr 1
      funext φ
      rw[Rz,Jl]
     | false=>
      dsimp only
      congr 1
      funext φ
      rw[Rz,Jl]
def X7S (ops:List Oper):Bool:=ops.any fun o=>(match o.op with | .build .. =>true | _=>false)&&decide (2<=((G7 o).filter fun s=>ops.any fun c=>Q2u c&&c.dst==some s).length)
def X7z (ops:List Oper):Bool:=ops.any fun o=>X3W o&&(G7 o).any fun s=>ops.any fun c=>X3W c&&c.dst==some s
def X7R (ops:List Oper):Bool:=decide (2<=(ops.filter Rs).length)&&ops.any Q86
noncomputable def X2h (P:Program) (ops:List Oper) (W3:List Value->World->Prop) (l:List Value) (w:World):Prop:=
 drR w fun T B=>Q91 l fun S=>Vz P true ops T B W3 ((J8 ops (H1 ops)).drop (Lf ops (H1 ops) ops.length)) 0 ((J8 ops (H1 ops)).take (Lf ops (H1 ops) ops.length)) S [] []
noncomputable def X4H (P:Program) (ops:List Oper) (W3:List Value->World->Prop) (l:List Value) (w:World):Prop:=
 dr w fun T B=>Q91 l fun S=>Vz P false ops (fun _=>T) B W3 ((J8 ops (H1 ops)).drop (Lf ops (H1 ops) ops.length)) 0 ((J8 ops (H1 ops)).take (Lf ops (H1 ops) ops.length)) S [] []
def Q3q (a b:List Nat):Bool:=a.all (b.contains ·)&&b.all (a.contains ·)
theorem Gt {a b:List Nat} (h:Q3q a b=true) (i:Nat):a.contains i=b.contains i:=by
 simp only[Q3q,Bool.and_eq_true,List.all_eq_true] at h;rw[Bool.eq_iff_iff];constructor
 .intro c;exact h.1 i (by simpa using c)
 .intro c;exact h.2 i (by simpa using c)
abbrev M0:=List (Option (List Nat×List Nat))
def M0.slots (a:M0):List (Option (List Nat)):=a.map (·.map (·.1))
theorem M0.slots_get (a:M0) (k:Nat):a.slots.getD k none=(a.getD k none).map (·.1):=by
 simp only[M0.slots,List.getD_eq_getElem?_getD,List.getElem?_map];cases a[k]? <;>rfl
noncomputable def Mc (P:Program) (a:M0) (b:List (Option (List Nat))):Nat->Code->Cq->List Value->World->Prop
 | _, .skip,Q,l,w=>Q .normal l w
 | _, .label _,Q,l,w=>Q .normal l w
 | _, .exit id,Q,l,w=>Q (.exit id) l w
 | _, .ret,Q,l,w=>Q .ret l w
 | _, .region _ ops false,Q,l,w=>Qz P ops.toList (fun l w=>Q .normal l w) ops.toList l w
 | _, .region _ ops true,Q,l,w=>match Ml ops.toList l.length with
  | true=>match X1D ops.toList (H1 ops.toList) with
   | true=>sq w fun w=>Qz P ops.toList (fun l w=>Q .normal l w) (J8 ops.toList (H1 ops.toList)) l w
   | false=>match X1J ops.toList with
    | some g=>sq w fun w=>Qz P ops.toList (fun l w=>Q .normal l w) (J8 ops.toList (H1 ops.toList)) l w/\Qz P ops.toList (fun l w=>Q .normal l w) (J8 ops.toList g) l w
    | none=>match X7S ops.toList||(X7z ((J8 ops.toList (H1 ops.toList)).take (Lf ops.toList (H1 ops.toList) ops.toList.length))||X7R ((J8 ops.toList (H1 ops.toList)).take (Lf ops.toList (H1 ops.toList) ops.toList.length))) with
     | true=>X2h P ops.toList (fun l w=>Q .normal l w) l w
     | false=>X4H P ops.toList (fun l w=>Q .normal l w) l w
  | false=>False
 | k, .seq x y,Q,l,w=>match a.getD k none with
  | none=>Mc P a b (k+1) x (thn (fun l w=>Mc P a b (k+1+Yv x) y Q l w) Q) l w
  | some (f,h)=>match Q3q h (R5 b (k+1) x) with
   | true=>jn w (fun J w=>Mc P a b (k+1) x (thn (fun l' w'=>J (Rn l' f) w') Q) l w)
    (fun z d w=>Pt f h z d 0 l fun l=>Mc P a b (k+1+Yv x) y Q l w)
   | false=>False
 | k, .cond c x y,Q,l,w=>X1 (ev l c) (Mc P a b k x Q l w) (Mc P a b (k+Yv x) y Q l w)
 | k, .block id c,Q,l,w=>Mc P a b k c (Q56 id Q) l w
 | k, .loop c,Q,l,w=>match a.getD k none with
  | none=>False
  | some (f,h)=>match Q3q h (R5 b (k+1) c) with
   | true=>lp (Rn l f) w (fun e x d w=>Pt f h x d 0 l fun l=>Mc P a b (k+1) c (thn (fun l' w'=>e (Rn l' f) w') Q) l w)
   | false=>False
 | _,_,_,_,_=>False
theorem Q35 {next a:List Value->World->Prop} {Q b:Cq} (c: ∀l w,next l w->a l w) (d: ∀e l w,Q e l w->b e l w): ∀e l w,thn next Q e l w->thn a b e l w:=by
 intro e l w h;cases e<;>first | exact c _ _ h | exact d _ _ _ h
theorem X3G (P:Program) (m:M0) (c:Code): ∀(k:Nat) (Q j:Cq) (l:List Value) (w:World),(∀e l w,Q e l w->j e l w)->
 Mc P m m.slots k c Q l w->Hk P m.slots k c j l w:=by
 induction c with
 | skip=>intro k Q j l w g h;exact g _ _ _ h
 | label n=>intro k Q j l w g h;exact g _ _ _ h
 | exit id=>intro k Q j l w g h;exact g _ _ _ h
 | ret=>intro k Q j l w g h;exact g _ _ _ h
 | goto n=>intro k Q j l w g h;exact h.elim
 | refuse s=>intro k Q j l w g h;exact h.elim
 | scope c=>intro k Q j l w g h;exact h.elim
 | rangeFunc f p a b=>intro k Q j l w g h;exact h.elim
 | region id ops v=>
  intro k Q j l w g h;cases v with
  | true=>
   simp only[Mc] at h
   split at h
   .rename_i q
    intro t
    have A:J5 P ops.toList (fun l w=>Q .normal l w) ((Region.schedule (P.follows .mixedOrders) ops t).filterMap (ops[·]?)) l w.drew:=by
     split at h
     .rename_i W
      simp only[X1F,Bg] at h;exact X6z P ops _ l q W _ t _ h
     .split at h
      .rename_i aa M
       simp only[X1F,Bg] at h;exact X6A P ops _ l q M _ t _ h
      .split at h
       .simp only[X2h,X6D,Q7V,Q6f,Jl] at h
        obtain ⟨T,B,L,N,hM,h⟩:=h;exact X03 P true ops T B _ l q N hM h (P.follows .mixedOrders) t w.drew L
       .simp only[X4H,X4F,X0Z,Q6f,Jl] at h
        obtain ⟨T,B,L,N,h⟩:=h;exact X03 P false ops (fun _=>T) B _ l q (fun _=>N) (fun _ _ _ _=>Nat.le_refl _) h (P.follows .mixedOrders) t w.drew L
    refine Wa P _ _ _ (G1 ops.toList) l _ _ _ ?_ (Yo.refl _ _) (fun l w R _=>g _ _ _ R) A;intro o E d A;simp only[List.mem_filterMap] at E;obtain ⟨i,_,hi⟩:=E;simp only[G1,List.contains_eq_mem,List.mem_filterMap,decide_eq_true_eq];exact ⟨o,by simpa using Array.mem_of_getElem? hi,A⟩
   .exact h.elim
  | false=>
   simp only[Mc] at h;rw[Bg] at h;refine Wa P _ _ _ (G1 ops.toList) l _ _ _ ?_ (Yo.refl _ _) (fun l w R _=>g _ _ _ R) h;intro o E d A;simp only[G1,List.contains_eq_mem,List.mem_filterMap,decide_eq_true_eq];exact ⟨o,E,A⟩
 | seq x y r u=>
  intro k Q j l w g h;simp only[Mc,Hk] at h⊢;rw[M0.slots_get]
  split at h
  .rename_i C
   simp only[C,Option.map_none];exact r _ _ _ _ _ (Q35 (fun l w h=>u _ _ _ _ _ g h) g) h
  .rename_i sl wr C
   simp only[C,Option.map_some]
   split at h
   .rename_i U
    obtain ⟨J,h1,M⟩:=Q8a h;refine Zq J (r _ _ _ _ _ (Q35 (fun l w h=>h) g) h1) fun z d w hz=>?_;have Y:=M z d w hz;rw[Q6x,Iy _ _ _ (Gt U)] at Y;exact u _ _ _ _ _ g Y
   .exact h.elim
 | cond c x y r u=>
  intro k Q j l w g h;exact Q6p (r k _ _ _ _ g) (u _ _ _ _ _ g) h
 | block id c X=>
  intro k Q j l w g h;refine X k _ _ _ _ ?_ h;intro e l' w' D;cases e with
  | exit ag=>simp only[Q56] at D⊢;split<;>rename_i O<;>simp only[O,if_true,if_false] at D<;>exact g _ _ _ D
  | _=>exact g _ _ _ D
 | loop c X=>
  intro k Q j l w g h;simp only[Mc,Hk] at h⊢
  split at h
  .exact h.elim
  .rename_i sl wr C
   have V:(m.slots.getD k none).getD []=sl:=by rw[M0.slots_get,C];rfl
   split at h
   .rename_i U
    subst V;refine Q6I (fun H x d w Z=>?_) h;rw[Q6x,Iy _ _ _ (Gt U)] at Z;exact X _ _ _ _ _ (Q35 (fun l w h=>h) g) Z
   .exact h.elim
def Q5p (P:Program) (t:TypeId) (a:Value) (w:World) (K:Value->Prop):Prop:= ∃v,(do loadVar t (<-asAddr a):Sem Value).run P w= .ok v w/\K v
theorem Q5r: ∃f:Program->TypeId->Value->World->(Value->Prop)->Prop,f=Q5p:=⟨_,rfl⟩
noncomputable def Z8:Program->TypeId->Value->World->(Value->Prop)->Prop:=Classical.choose Q5r
theorem Q5q:Z8=Q5p:=Classical.choose_spec Q5r
noncomputable def Q8M (P:Program) (l:List Value) (K:List Value->World->Prop):List ResultVar->List Value->World->Prop
 | [],b,w=>K b.reverse w
 | .tmp t::c,b,w=>Q8M P l K c (get l t::b) w
 | .cell a t::c,b,w=>Z8 P t (get l a) w fun v=>Q8M P l K c (v::b) w
def Q5y:List Value->Value
 | [v]=>v
 | vs=> .tuple vs.toArray
noncomputable def results (P:Program) (a:List ResultVar) (K:Value->World->Prop) (l:List Value) (w:World):Prop:=
 Q8M P l (fun vs w=>K (Q5y vs) w) a [] w
noncomputable def Q8Q (P:Program) (fn:Func) (K:Value->World->Prop):Cq
 | .normal,l,w | .ret,l,w=>results P fn.results.toList K l w
 | _,_,_=>False
def X4i (K:Value->World->Prop) (e:Ending) (w:World):Prop:=match e with | .returned v=>K v w | _=>False
theorem Q83 (a:Array Value) (t:Nat):a.getD t undef=get a.toList t:=by
 simp[get,List.getD_eq_getElem?_getD]
theorem X3i (vs:List Value):(if h:vs.toArray.size=1 then vs.toArray[0] else Value.tuple vs.toArray)=Q5y vs:=by
 match vs with
 | []=>rfl
 | [v]=>rfl
 | _::_::_=>rfl
theorem Q4A (P:Program) (l:List Value) (K:List Value->World->Prop) (f:ResultVar->Sem Value)
 (c: ∀t,f (.tmp t)=Pure.pure (get l t)) (d: ∀a t,f (.cell a t)=(do loadVar t (<-asAddr (get l a)))): ∀(e:List ResultVar) (b:List Value) (w:World),Q8M P l K e b w->
 ∃vs,(e.mapM f).run P w= .ok vs w/\K (b.reverse++vs) w
 | [],b,w,h=>⟨[],by simp,by rw[List.append_nil];exact h⟩
 | .tmp t::e,b,w,h=>by
  obtain ⟨vs,g,i⟩:=Q4A P l K f c d e _ w h;refine ⟨get l t::vs,?_,by simpa using i⟩
  rw[List.mapM_cons,c]
  simp[g]
 | .cell a t::e,b,w,h=>by
  simp only[Q8M,Q5q] at h;obtain ⟨v,j,h⟩:=h;obtain ⟨vs,g,i⟩:=Q4A P l K f c d e _ w h;refine ⟨v::vs,?_,by simpa using i⟩
  rw[List.mapM_cons,d,Sem.run_bind,j]
  simp[g]
def X76 (a:Array Value):ResultVar->Sem Value
 | .tmp t=>Pure.pure (a.getD t undef)
 | .cell b t=>do loadVar t (<-asAddr (a.getD b undef))
theorem Q8P (fn:Func) (a:Array Value):Go.results fn a=(do
 let vs<-fn.results.mapM (X76 a)
 Pure.pure (if h:vs.size=1 then vs[0] else .tuple vs)):=by
 unfold Go.results
 congr 1
theorem Q4b (P:Program) (fn:Func) (K:Value->World->Prop) (a:Array Value) (w:World) (h:results P fn.results.toList K a.toList w):
 ∃v,(Go.results fn a).run P w= .ok v w/\K v w:=by
 rw[Q8P,Array.mapM_eq_mapM_toList];obtain ⟨vs,b,c⟩:=Q4A P a.toList (fun vs w=>K (Q5y vs) w) (X76 a) (fun t=>by rw[<-Q83];rfl) (fun d t=>by rw[<-Q83];rfl) fn.results.toList [] w h
 refine ⟨Q5y vs,?_,by simpa using c⟩
 rw[Sem.run_bind,Sem.run_map,b];simp only[Result.andThen_ok,Sem.run_pure,X3i]
def Ps (fn:Func) (a:List Value):List Value:=a++List.replicate (fn.ntmps-a.length) undef
theorem Q7J {P:Program} {f:FuncId} {fn:Func} {c:Code} {b:List Value} {w:World} {K:Value->World->Prop} (d:List (Option (List Nat)))
 (k:P.funcs[f]? =some fn) (j:fn.body=some c) (h:Hk P d 0 c (Q8Q P fn K) (Ps fn b) w):Calls P f b.toArray w (X4i K):=by
 refine calls_of_wp k j (wp_mono (X2d P d c 0 (Q8Q P fn K) _ w rfl ?_) ?_)
 .have:(b.toArray++Array.replicate (fn.ntmps-b.toArray.size) undef).toList=Ps fn b:=by simp[Ps]
  simp only[this];exact h
 .intro e a w ⟨i,g⟩
  cases e with
  | normal=>exact ⟨i,Q4b P fn K _ _ g⟩
  | ret=>exact ⟨i,Q4b P fn K _ _ g⟩
  | _=>exact g.elim
theorem Nt {P:Program} {f:FuncId} {fn:Func} {a:List Value} {w:World} {K:Value->World->Prop}
 (i:P.funcs[f]? =some fn) (d:fn.body.isSome=true) (j:(fn.name== "runtime.NumGoroutine")=false) (h:Calls P f a.toArray w (X4i K)):Q0 P f a w K:=by
 have k:(callFunc f a.toArray).run P w= .ok (.enter f a.toArray) w:=by
  unfold callFunc;simp only[Sem.run_bind,run_program,Result.andThen_ok,i,j,Bool.false_eq_true,if_false];cases b:fn.body with
  | none=>rw[b] at d;cases d
  | some c=>simp
 unfold Q0;rw[Ye];unfold Xk;rw[k];refine h.mono fun e w' g=>?_;cases e<;>exact g
theorem Q5L {P:Program} {f:FuncId} {fn:Func} {a:List Value} {w:World} {K:Value->World->Prop}
 (i:P.funcs[f]? =some fn) (d:fn.body.isSome=true) (j:(fn.name== "runtime.NumGoroutine")=false) (h:Q0 P f a w K):Calls P f a.toArray w (X4i K):=by
 have k:(callFunc f a.toArray).run P w= .ok (.enter f a.toArray) w:=by
  unfold callFunc;simp only[Sem.run_bind,run_program,Result.andThen_ok,i,j,Bool.false_eq_true,if_false];cases b:fn.body with
  | none=>rw[b] at d;cases d
  | some c=>simp
 unfold Q0 at h;rw[Ye] at h;unfold Xk at h;rw[k] at h;refine Calls.mono h fun e w' g=>?_;cases e<;>exact g
theorem X64 {P:Program} {f:FuncId} {fn:Func} {b:List Value} {w:World} {K:Value->World->Prop} (a:M0)
 (g:P.funcs[f]? =some fn) (d:fn.body.isSome=true) (i:(fn.name== "runtime.NumGoroutine")=false)
 (h:Mc P a a.slots 0 (fn.body.getD .skip) (Q8Q P fn K) (Ps fn b) w):Q0 P f b w K:=by
 refine Nt g d i ?_;obtain ⟨c,e⟩:=Option.isSome_iff_exists.1 d;rw[e] at h;exact Q7J a.slots g e (X3G P a c 0 _ _ _ _ (fun _ _ _ h=>h) h)
theorem X63 {P:Program} {f:FuncId} {fn:Func} {a:List Value} {w:World} {K:Value->World->Prop} {g:Prop} (b:M0)
 (e:P.funcs[f]? =some fn) (c:fn.body.isSome=true) (i:(fn.name== "runtime.NumGoroutine")=false)
 (d:g=Mc P b b.slots 0 (fn.body.getD .skip) (Q8Q P fn K) (Ps fn a) w) (h:g):Q0 P f a w K:=
 X64 b e c i (d▸h)
theorem U0 {P:Program} {f:FuncId} {first caps:List Value} {a:List Value} {w:World} {K:Value->World->Prop} (h:Q0 P f (first++a++caps) w K):U2 P (.func (.func f) first.toArray caps.toArray) a w K:=by
 simpa [U2,Q0,Deferred.ofValue,invoke,pure_bind,List.append_toArray] using h
end Go.Emb
namespace Go.Proofs.Y
noncomputable abbrev P : Program := Tryz.prog
end Go.Proofs.Y
namespace Go.Proofs.Y.F
abbrev c3 : Nat := 7
abbrev aH : Nat := 8
abbrev ac : Nat := 9
abbrev c7 : Nat := 10
abbrev aW : Nat := 11
abbrev i : Nat := 12
abbrev aX : Nat := 14
abbrev cb : Nat := 15
abbrev ca : Nat := 17
abbrev ak : Nat := 18
abbrev bV : Nat := 19
abbrev b8 : Nat := 20
abbrev q : Nat := 21
abbrev u : Nat := 22
abbrev cm : Nat := 23
abbrev aI : Nat := 24
abbrev cA : Nat := 25
abbrev cx : Nat := 29
abbrev cn : Nat := 30
abbrev aG : Nat := 31
abbrev aA : Nat := 32
abbrev cw : Nat := 34
abbrev a0 : Nat := 35
abbrev cW : Nat := 36
abbrev aD : Nat := 37
abbrev bS : Nat := 38
abbrev cV : Nat := 39
abbrev bg : Nat := 40
abbrev bv : Nat := 41
abbrev bz : Nat := 42
abbrev bX : Nat := 43
abbrev bW : Nat := 44
abbrev b2 : Nat := 45
abbrev c4 : Nat := 46
abbrev bU : Nat := 47
abbrev b4 : Nat := 48
abbrev a5 : Nat := 49
abbrev aB : Nat := 50
abbrev cB : Nat := 51
abbrev b3 : Nat := 52
abbrev aM : Nat := 53
abbrev bL : Nat := 54
abbrev bN : Nat := 55
abbrev w : Nat := 56
abbrev bB : Nat := 57
abbrev bM : Nat := 58
abbrev c5 : Nat := 59
abbrev bC : Nat := 60
abbrev aq : Nat := 61
abbrev cG : Nat := 62
abbrev cH : Nat := 63
abbrev p : Nat := 64
abbrev bD : Nat := 65
abbrev ce : Nat := 66
abbrev cP : Nat := 67
abbrev cE : Nat := 68
abbrev cI : Nat := 69
abbrev k : Nat := 70
abbrev bc : Nat := 71
abbrev o : Nat := 72
abbrev bl : Nat := 73
abbrev bm : Nat := 74
abbrev b6 : Nat := 75
abbrev bs : Nat := 76
abbrev bq : Nat := 77
abbrev b : Nat := 78
abbrev bf : Nat := 79
abbrev al : Nat := 80
abbrev b0 : Nat := 81
abbrev b9 : Nat := 82
abbrev ba : Nat := 83
abbrev aT : Nat := 84
abbrev aU : Nat := 85
abbrev a4 : Nat := 86
abbrev a3 : Nat := 87
abbrev d0 : Nat := 88
abbrev ae : Nat := 89
abbrev aK : Nat := 90
abbrev bF : Nat := 91
abbrev bG : Nat := 92
abbrev n : Nat := 93
abbrev bA : Nat := 94
abbrev h : Nat := 95
abbrev aO : Nat := 96
abbrev aE : Nat := 97
abbrev cg : Nat := 98
abbrev bO : Nat := 99
abbrev bH : Nat := 100
abbrev a2 : Nat := 101
abbrev s : Nat := 102
abbrev e : Nat := 103
abbrev cN : Nat := 104
abbrev cF : Nat := 105
abbrev aa : Nat := 106
abbrev ag : Nat := 107
abbrev cc : Nat := 108
abbrev b5 : Nat := 109
abbrev y : Nat := 110
abbrev c8 : Nat := 111
abbrev c : Nat := 112
abbrev a1 : Nat := 113
abbrev bj : Nat := 114
abbrev am : Nat := 115
abbrev an : Nat := 116
abbrev aV : Nat := 117
abbrev a : Nat := 118
abbrev aF : Nat := 119
abbrev cj : Nat := 120
abbrev bb : Nat := 121
abbrev bE : Nat := 122
abbrev br : Nat := 123
abbrev bt : Nat := 124
abbrev bu : Nat := 125
abbrev aR : Nat := 126
abbrev be : Nat := 127
abbrev z : Nat := 128
abbrev aS : Nat := 129
abbrev cC : Nat := 130
abbrev bJ : Nat := 131
abbrev aL : Nat := 132
abbrev bT : Nat := 133
abbrev a8 : Nat := 134
abbrev r : Nat := 135
abbrev b1 : Nat := 136
abbrev bk : Nat := 137
abbrev ch : Nat := 138
abbrev cD : Nat := 139
abbrev aj : Nat := 140
abbrev d : Nat := 141
abbrev ai : Nat := 142
abbrev cr : Nat := 143
abbrev cs : Nat := 144
abbrev ab : Nat := 145
abbrev aP : Nat := 146
abbrev ct : Nat := 147
abbrev aC : Nat := 148
abbrev cu : Nat := 149
abbrev aw : Nat := 150
abbrev cv : Nat := 151
abbrev au : Nat := 152
abbrev bx : Nat := 153
abbrev bQ : Nat := 154
abbrev ao : Nat := 155
abbrev b7 : Nat := 156
abbrev ah : Nat := 157
abbrev af : Nat := 158
abbrev x : Nat := 159
abbrev j : Nat := 160
abbrev ci : Nat := 161
abbrev g : Nat := 162
abbrev cX : Nat := 163
abbrev cK : Nat := 164
abbrev aN : Nat := 165
abbrev v : Nat := 166
abbrev a9 : Nat := 167
abbrev aZ : Nat := 168
abbrev aJ : Nat := 169
abbrev d1 : Nat := 170
abbrev cq : Nat := 171
abbrev ap : Nat := 172
abbrev cY : Nat := 173
abbrev ad : Nat := 175
abbrev bI : Nat := 176
abbrev bw : Nat := 177
abbrev c6 : Nat := 178
abbrev co : Nat := 179
abbrev aQ : Nat := 180
abbrev ax : Nat := 181
abbrev ck : Nat := 182
abbrev cz : Nat := 183
abbrev f : Nat := 184
abbrev c9 : Nat := 185
abbrev c2 : Nat := 186
abbrev c0 : Nat := 187
abbrev bP : Nat := 188
abbrev bh : Nat := 189
abbrev av : Nat := 190
abbrev bi : Nat := 191
abbrev cO : Nat := 192
abbrev ar : Nat := 193
abbrev d2 : Nat := 197
abbrev aY : Nat := 198
abbrev az : Nat := 199
abbrev cf : Nat := 202
abbrev cL : Nat := 203
abbrev cd : Nat := 204
abbrev cp : Nat := 205
abbrev m : Nat := 206
abbrev c1 : Nat := 207
abbrev cl : Nat := 208
abbrev cU : Nat := 209
abbrev l : Nat := 210
abbrev bZ : Nat := 211
abbrev bo : Nat := 214
abbrev a7 : Nat := 218
abbrev cT : Nat := 219
abbrev cM : Nat := 220
abbrev cQ : Nat := 221
abbrev a6 : Nat := 222
abbrev bp : Nat := 225
abbrev bn : Nat := 226
abbrev d3 : Nat := 230
abbrev cy : Nat := 231
abbrev t : Nat := 232
abbrev cZ : Nat := 233
abbrev cJ : Nat := 235
abbrev bd : Nat := 236
abbrev ay : Nat := 237
abbrev bK : Nat := 238
abbrev cR : Nat := 239
abbrev bR : Nat := 240
abbrev bY : Nat := 241
abbrev cS : Nat := 242
end Go.Proofs.Y.F
namespace Go.Proofs.Y.T
abbrev x : Nat := 0
abbrev a5 : Nat := 2
abbrev f : Nat := 3
abbrev q : Nat := 4
abbrev a9 : Nat := 5
abbrev c : Nat := 9
abbrev aC : Nat := 12
abbrev aq : Nat := 21
abbrev a8 : Nat := 22
abbrev e : Nat := 24
abbrev ax : Nat := 25
abbrev a2 : Nat := 26
abbrev i : Nat := 27
abbrev g : Nat := 28
abbrev a : Nat := 30
abbrev a0 : Nat := 40
abbrev a1 : Nat := 42
abbrev a3 : Nat := 43
abbrev au : Nat := 46
abbrev ay : Nat := 51
abbrev m : Nat := 54
abbrev u : Nat := 57
abbrev ab : Nat := 62
abbrev l : Nat := 63
abbrev p : Nat := 65
abbrev o : Nat := 67
abbrev a6 : Nat := 68
abbrev y : Nat := 79
abbrev av : Nat := 95
abbrev s : Nat := 98
abbrev k : Nat := 99
abbrev n : Nat := 103
abbrev af : Nat := 112
abbrev a7 : Nat := 116
abbrev a4 : Nat := 118
abbrev h : Nat := 119
abbrev j : Nat := 120
abbrev b : Nat := 122
abbrev w : Nat := 129
abbrev r : Nat := 130
abbrev t : Nat := 131
abbrev d : Nat := 133
abbrev ac : Nat := 136
abbrev aa : Nat := 138
abbrev ar : Nat := 158
abbrev z : Nat := 165
abbrev ad : Nat := 167
abbrev ah : Nat := 168
abbrev ae : Nat := 182
abbrev al : Nat := 185
abbrev v : Nat := 189
abbrev ai : Nat := 201
abbrev aA : Nat := 207
abbrev an : Nat := 209
abbrev ao : Nat := 210
abbrev ak : Nat := 214
abbrev am : Nat := 217
abbrev az : Nat := 220
abbrev ap : Nat := 222
abbrev aE : Nat := 233
abbrev aB : Nat := 237
abbrev ag : Nat := 241
abbrev aj : Nat := 242
abbrev aw : Nat := 253
abbrev aD : Nat := 257
end Go.Proofs.Y.T
namespace Go.Proofs.Y.G
abbrev b : Nat := 0
abbrev e : Nat := 1
abbrev d : Nat := 2
abbrev a : Nat := 3
abbrev c : Nat := 4
end Go.Proofs.Y.G
namespace Go.Proofs.Y
open Go.Emb
set_option maxRecDepth 100000
def Y5 (T:World->World->Prop) (B:World->Prop) (A:World->(Value->World->Prop)->Prop) (R:(Value->World->Prop)->Prop):Prop:=Z7 T (fun φ=> ∀w,B w->A w (dk T φ w)) R
def X3 (T:World->World->Prop) (B:World->Prop) (f:Value->World->Prop) (A:Value->World->(Value->World->Prop)->Prop) (R:(Value->World->Prop)->Prop):Prop:=Z7 T (fun φ=> ∀x w,B w->f x w->A x w (dk T φ w)) R
def L1 (T:World->World->Prop) (B:World->Prop) (f g:Value->World->Prop) (A:Value->Value->World->(Value->World->Prop)->Prop) (R:(Value->World->Prop)->Prop):Prop:=Z7 T (fun φ=> ∀x y w,B w->f x w->g y w->A x y w (dk T φ w)) R
def Qi (T:World->World->Prop) (B:World->Prop) (f g h:Value->World->Prop) (A:Value->Value->Value->World->(Value->World->Prop)->Prop) (R:(Value->World->Prop)->Prop):Prop:=Z7 T (fun φ=> ∀x y z w,B w->f x w->g y w->h z w->A x y z w (dk T φ w)) R
def M9 (T:TypeId) (v:Value) (w:World) (K:Value->World->Prop):Prop:=T1 P T w fun t w=>J9 P T t v w fun _ w=>K t w
def D2 (t:Value) (w:World) (K:Value->Value->World->Prop):Prop:=ext P t 0 w fun a w=>ext P t 1 w fun b w=>K a b w
def Z3 (c:Value) (b:Bool) (w:World) (S T:TypeId) (a:Value) (i:Nat) (K:Value->World->Prop):Prop:=Q1 c b w (fieldAddr P S a i) fun e w=>Q1 c b w (Q6 P T e) K
def zhi (c:Value) (b:Bool) (w:World) (S T:TypeId) (a i:Value) (K:Value->World->Prop):Prop:=Q1 c b w (indexAddr P S a i) fun e w=>Q1 c b w (Q6 P T e) K
def Y1 (S T:TypeId) (a:Value) (i:Nat) (w:World) (K:Value->World->Prop):Prop:=fieldAddr P S a i w fun e w=>Q6 P T e w K
def V0 (S T:TypeId) (a i:Value) (w:World) (K:Value->World->Prop):Prop:=indexAddr P S a i w fun e w=>Q6 P T e w K
def V6 (n:Nat) (x:Value) (w:World) (A:Value->World->Prop):Prop:=Z2 P .add T.f (.tmp n) (.const (.int .i64 1)) x (.int .i64 1) w fun t w=>A t w
def X6 (c:Value) (b:Bool) (v:Value) (w:World) (K:Value->World->Prop):Prop:=Q1 c b w (fun w J=>J v w) K
def U6 (c:Value) (A:World->(Value->World->Prop)->Prop):World->(Value->World->Prop)->Prop:=fun w=>Q1 c true w A
def Vt (c:Value) (A:World->(Value->World->Prop)->Prop):World->(Value->World->Prop)->Prop:=fun w=>Q1 c false w A
def Y2 (S:TypeId) (v:Value):World->(Value->World->Prop)->Prop:=U7 P .len [S] T.f [false] [v]
def X4 (o:BinOp) (T:TypeId) (n:Nat) (v:Value) (z:Int):World->(Value->World->Prop)->Prop:=Z2 P o T (.tmp n) (.const (.int .i64 z)) v (.int .i64 z)
def V2 (o:BinOp) (T:TypeId) (n:Nat) (v:Value) (z:Array UInt8):World->(Value->World->Prop)->Prop:=Z2 P o T (.tmp n) (.const (.string ⟨z⟩)) v (.string ⟨z⟩)
def X5 (o:BinOp) (T:TypeId) (n m:Nat) (u v:Value):World->(Value->World->Prop)->Prop:=Z2 P o T (.tmp n) (.tmp m) u v
abbrev zV0:Type:=World->(Value->World->Prop)->Prop
abbrev D3:Type:=Value->zV0
abbrev L4:Type:=Value->D3
abbrev Yg:Type:=Value->L4
abbrev zV4:Type:=Value->Yg
abbrev zV5:Type:=Value->zV4
theorem zr {f:FuncId} {fn:Func} {a:List Value} {w:World} {K:Value->World->Prop} {g:Prop} (b:M0) (e:P.funcs[f]? =some fn) (h:g) (c:fn.body.isSome=true:=by rfl) (i:(fn.name== "runtime.NumGoroutine")=false:=by decide) (d:g=Mc P b b.slots 0 (fn.body.getD .skip) (Q8Q P fn K) (Ps fn a) w:=by kernel_rfl):Q0 P f a w K:=X63 b e c i d h
def Y3 (k:Nat):M0:=List.replicate k none
variable {w : World} {K : Value -> World -> Prop} {a0 a1 a2 a3 a4 a5 a6 a7 : Value}
def Q8m:M0:=[none,none,none,none,some ([1,10],[1,3,10,11,12,13,14,15,16,17,18])]++Y3 5
def Q2i:zV0:=fun w K=>B2 P T.b [(0,(.string ⟨#[79,98,106,101,99,116]⟩))] w fun i w=>B2 P T.n [(0,(.string ⟨#[119,104,97,116]⟩)),(1,(.string ⟨#[116,101,120,116]⟩))] w fun j w=>buildSlice P T.k 1 [(0,j)] w fun k w=>B2 P T.b [(0,(.string ⟨#[70,97,117,108,116]⟩)),(1,(.string ⟨#[79,98,106,101,99,116]⟩)),(6,k)] w fun l w=>buildSlice P T.i 2 [(0,i),(1,l)] w fun m w=>Q6 P T.ar (.pointer (some ⟨G.b,0,none⟩)) w fun n w=>lp (α:=Value×Value) (m,(.int .i64 0)) w fun a b o w=>X4 .lss T.f 10 b.2 6 w fun c w=>X1 c (K0 P T.ar n b.2 w fun d w=>B2 P T.b [(0,d),(1,(.string ⟨#[70,97,117,108,116]⟩)),(5,(.bool true))] w fun e w=>buildSlice P T.i 1 [(0,e)] w fun f w=>U7 P .append [T.i,T.i] T.i [false,false] [b.1,f] w fun g w=>X4 .add T.f 10 b.2 1 w fun h w=>a (g,h) w) (K b.1 w)
theorem Q8A (h:Q2i w K):Q0 P F.cP [] w K:=zr Q8m Tryz.func67 h
def Q8j:M0:=[none,none,none,some ([8],[2,4,8,9,10,11,12,13,14,15,16,17,18,19,20,21,22,23,24,25,26,27,28,29,30,31,32,33])]++Y3 7
def Q2e:D3:=fun L w K=>box P T.b L w fun a w=>Y1 T.b T.j a 7 w fun J w=>Y2 T.j J w fun M w=>lp (α:=Value) (.int .i64 0) w fun c H O w=>X5 .lss T.f 8 7 H M w fun N w=>X1 N (V0 T.j T.d J H w fun i w=>M9 T.d i w fun b w=>Y1 T.d T.h b 1 w fun j w=>Y2 T.h j w fun k w=>X4 .gtr T.f 14 k 32 w fun d w=>Z3 d false w T.d T.t b 6 fun l w=>Q1 d false w (Y2 T.t l) fun m w=>Q1 d false w (X4 .gtr T.f 19 m 32) fun n w=>pick P d (.bool true) n w fun e w=>Z3 e false w T.d T.r b 5 fun o w=>Q1 e false w (Y2 T.r o) fun p w=>Q1 e false w (X4 .gtr T.f 25 p 200) fun q w=>pick P e (.bool true) q w fun h w=>Z3 h false w T.d T.f b 4 fun r w=>Q1 h false w (X4 .gtr T.f 30 r 64) fun s w=>pick P h (.bool true) s w fun t w=>X1 t (K (.bool true) w) (V6 8 H w c)) (Y1 T.b T.h a 2 w fun u w=>Y2 T.h u w fun v w=>X4 .gtr T.f 36 v 32 w fun f w=>Z3 f false w T.b T.k a 6 fun y w=>Q1 f false w (Y2 T.k y) fun z w=>Q1 f false w (X4 .gtr T.f 41 z 32) fun A w=>pick P f (.bool true) A w fun g w=>Z3 g false w T.b T.j a 7 fun B w=>Q1 g false w (Y2 T.j B) fun C w=>Q1 g false w (X4 .gtr T.f 47 C 32) fun D w=>pick P g (.bool true) D w fun E w=>K E w)
theorem Q8w (h:Q2e a0 w K):Q0 P F.cN [a0] w K:=zr Q8j Tryz.func104 h
def Jd:M0:=[none,none,none,some ([8],[4,5,8,9,10,11,12,13,14,15,16,17,18])]++Y3 7
def P3:L4:=fun e f w K=>Y2 T.j e w fun g w=>lp (α:=Value) (.int .i64 0) w fun a b i w=>X5 .lss T.f 8 7 b g w fun h w=>X1 h (V0 T.j T.d e b w fun c w=>U2 P f [c] w fun d w=>X1 d (K b w) (V6 8 b w a)) (K (.int .i64 (-1)) w)
theorem Ji (h:P3 a0 a1 w K):Q0 P F.g [a0,a1] w K:=zr Jd Tryz.func162 h
def I6:L4:=fun a b w K=>Q0 P F.g [a,b] w fun c w=>X4 .geq T.f 7 c 0 w fun d w=>K d w
theorem Yw (h:I6 a0 a1 w K):Q0 P F.a [a0,a1] w K:=zr (Y3 2) Tryz.func118 h
def X1i:M0:=[none,none,none,some ([],[4,6,9,10,11,12,13,14,15])]++Y3 6
def Q52:L4:=fun g h w K=>rng P T.c g w fun i w=>lp (α:=Unit) () w fun a k j w=>W3 P i true T.x w fun f w=>ext P f 0 w fun b w=>X1 b (ext P f 2 w fun c w=>U2 P h [c] w fun d w=>V4 P .not d w fun e w=>X1 e (K (.bool false) w) (a () w)) (K (.bool true) w)
theorem X1v (h:Q52 a0 a1 w K):Q0 P F.cL [a0,a1] w K:=zr X1i Tryz.func203 h
def Q2o:D3:=fun b w K=>Z2 P .geq T.aq (.tmp 3) (.const (.int .i32 65)) b (.int .i32 65) w fun a w=>X6 a true b w fun c w=>Q1 a true w (Z2 P .leq T.aq (.tmp 6) (.const (.int .i32 90)) c (.int .i32 90)) fun d w=>pick P a d (.bool false) w fun e w=>K e w
theorem Q8G (h:Q2o a0 w K):Q0 P F.co [a0] w K:=zr (Y3 2) Tryz.func179 h
def Q2p:D3:=fun b w K=>Z2 P .geq T.aq (.tmp 3) (.const (.int .i32 97)) b (.int .i32 97) w fun a w=>X6 a true b w fun c w=>Q1 a true w (Z2 P .leq T.aq (.tmp 6) (.const (.int .i32 122)) c (.int .i32 122)) fun d w=>pick P a d (.bool false) w fun e w=>K e w
theorem Q8H (h:Q2p a0 w K):Q0 P F.cp [a0] w K:=zr (Y3 2) Tryz.func205 h
def Q1e:D3:=fun c w K=>Q0 P F.co [c] w fun j w=>X6 j false c w fun k w=>Q1 j false w (Q0 P F.cp [k]) fun l w=>pick P j (.bool true) l w fun b w=>X6 b false c w fun d w=>Q1 b false w (Z2 P .geq T.aq (.tmp 10) (.const (.int .i32 48)) d (.int .i32 48)) fun e w=>X6 b false e w fun a w=>X6 a true c w fun f w=>Q1 a true w (Z2 P .leq T.aq (.tmp 13) (.const (.int .i32 57)) f (.int .i32 57)) fun g w=>Q1 b false w (pick P a g (.bool false)) fun h w=>pick P b (.bool true) h w fun i w=>K i w
theorem Q7h (h:Q1e a0 w K):Q0 P F.cd [a0] w K:=zr (Y3 2) Tryz.func204 h
def Q47:D3:=fun c w K=>V2 .eql T.c 3 c #[] w fun d w=>X6 d false c w fun n w=>Q1 d false w (Y2 T.c n) fun o w=>Q1 d false w (X4 .gtr T.f 7 o 32) fun p w=>pick P d (.bool true) p w fun b w=>X6 b false c w fun e w=>Q1 b false w (K0 P T.c e (.int .i64 0)) fun f w=>Q1 b false w (Z2 P .geq T.a9 (.tmp 12) (.const (.int .u8 48)) f (.int .u8 48)) fun g w=>X6 b false g w fun a w=>X6 a true c w fun h w=>Q1 a true w (K0 P T.c h (.int .i64 0)) fun i w=>Q1 a true w (Z2 P .leq T.a9 (.tmp 16) (.const (.int .u8 57)) i (.int .u8 57)) fun j w=>Q1 b false w (pick P a j (.bool false)) fun k w=>pick P b (.bool true) k w fun l w=>X1 l (K (.bool false) w) (Q0 P F.cL [c,(.func (.func F.cd) #[] #[])] w fun m w=>K m w)
theorem Q9K (h:Q47 a0 w K):Q0 P F.c6 [a0] w K:=zr (Y3 5) Tryz.func178 h
def Q2k:D3:=fun c w K=>Q0 P F.c6 [c] w fun a w=>X6 a true c w fun d w=>Q1 a true w (K0 P T.c d (.int .i64 0)) fun e w=>Q1 a true w (conv P T.a9 T.aq e) fun f w=>Q1 a true w (Q0 P F.co [f]) fun g w=>pick P a g (.bool false) w fun b w=>K b w
theorem Q8C (h:Q2k a0 w K):Q0 P F.aj [a0] w K:=zr (Y3 2) Tryz.func140 h
def Ev:M0:=[none,none,none,some ([8],[4,5,8,9,10,11,12,13,14,15,16,17,18])]++Y3 7
def Yt:L4:=fun e f w K=>Y2 T.h e w fun g w=>lp (α:=Value) (.int .i64 0) w fun a b i w=>X5 .lss T.f 8 7 b g w fun h w=>X1 h (V0 T.h T.c e b w fun c w=>X5 .eql T.c 11 15 f c w fun d w=>X1 d (K b w) (V6 8 b w a)) (K (.int .i64 (-1)) w)
theorem Hb (h:Yt a0 a1 w K):Q0 P F.ax [a0,a1] w K:=zr Ev Tryz.func181 h
def Xp:L4:=fun a b w K=>Q0 P F.ax [a,b] w fun c w=>X4 .geq T.f 7 c 0 w fun d w=>K d w
theorem Nc (h:Xp a0 a1 w K):Q0 P F.ai [a0,a1] w K:=zr (Y3 2) Tryz.func142 h
def Kb:D3:=fun b w K=>box P T.d b w fun a w=>Y1 T.d T.q a 3 w fun c w=>K c w
theorem Q5g (h:Kb a0 w K):Q0 P F.cr [a0] w K:=zr (Y3 2) Tryz.func143 h
def Kc:D3:=fun b w K=>box P T.d b w fun a w=>Y1 T.d T.q a 3 w fun c w=>V4 P .not c w fun d w=>K d w
theorem Q5h (h:Kc a0 w K):Q0 P F.cs [a0] w K:=zr (Y3 2) Tryz.func144 h
def Me:M0:=[none,none,none,some ([8],[4,5,8,9,10,11,12,13,14,15,16,17,18])]++Y3 7
def Xg:L4:=fun e f w K=>Y2 T.h e w fun g w=>lp (α:=Value) (.int .i64 0) w fun a b i w=>X5 .lss T.f 8 7 b g w fun h w=>X1 h (V0 T.h T.c e b w fun c w=>U2 P f [c] w fun d w=>X1 d (K b w) (V6 8 b w a)) (K (.int .i64 (-1)) w)
theorem Mf (h:Xg a0 a1 w K):Q0 P F.x [a0,a1] w K:=zr Me Tryz.func159 h
def Qn:L4:=fun a b w K=>Q0 P F.x [a,b] w fun c w=>X4 .geq T.f 7 c 0 w fun d w=>K d w
theorem Vu (h:Qn a0 a1 w K):Q0 P F.c [a0,a1] w K:=zr (Y3 2) Tryz.func112 h
def Mu:L4:=fun a b w K=>Q6 P T.ab b w fun c w=>U2 P c [a] w fun d w=>V4 P .not d w fun e w=>K e w
theorem Pe (h:Mu a0 a1 w K):Q0 P F.ck [a0,a1] w K:=zr (Y3 2) Tryz.func182 h
def Dt:L4:=fun b c w K=>box P T.ab c w fun a w=>C1 P (.func F.ck) [] [a] w fun d w=>Q0 P F.c [b,d] w fun e w=>V4 P .not e w fun f w=>K f w
theorem Q0w (h:Dt a0 a1 w K):Q0 P F.ab [a0,a1] w K:=zr (Y3 2) Tryz.func145 h
def Oi:Yg:=fun k f l w K=>dr w fun b a=>Y5 b a (Q6 P T.af f) fun j=>X3 b a j (fun e=>U2 P e [k]) fun m=>Y5 b a (Q6 P T.af f) fun n=>Y5 b a (Q6 P T.c l) fun o=> ∀e g h i w,a w->j e w->m g w->n h w->o i w->U2 P h [i] w fun c w=>X5 .eql T.c 7 10 g c w fun d w=>K d w
theorem Tl (h:Oi a0 a1 a2 w K):Q0 P F.cz [a0,a1,a2] w K:=zr (Y3 2) Tryz.func183 h
def Q1l:M0:=[none,none,none,some ([9],[4,5,6,9,10,11,12,13,14,15,16,17,18,19])]++Y3 7
def Ht:L4:=fun e k w K=>box P T.af k w fun a w=>Y2 T.h e w fun l w=>lp (α:=Value) (.int .i64 0) w fun b d m w=>X5 .lss T.f 9 8 d l w fun f w=>X1 f (V0 T.h T.c e d w fun g w=>M9 T.c g w fun c w=>G5 P T.h e none (some d) none w fun h w=>C1 P (.func F.cz) [] [a,c] w fun i w=>Q0 P F.c [h,i] w fun j w=>X1 j (K (.bool false) w) (V6 9 d w b)) (K (.bool true) w)
theorem Q1C (h:Ht a0 a1 w K):Q0 P F.aP [a0,a1] w K:=zr Q1l Tryz.func146 h
def Q4X:D3:=fun a w K=>K a w
theorem Q5i (h:Q4X a0 w K):Q0 P F.ct [a0] w K:=zr (Y3 2) Tryz.func147 h
def Jx:M0:=[none,none,none,some ([8],[4,5,8,9,10,11,12,13,14,15,16,17,18])]++Y3 7
def T9:L4:=fun e f w K=>Y2 T.k e w fun g w=>lp (α:=Value) (.int .i64 0) w fun a b i w=>X5 .lss T.f 8 7 b g w fun h w=>X1 h (V0 T.k T.n e b w fun c w=>U2 P f [c] w fun d w=>X1 d (K b w) (V6 8 b w a)) (K (.int .i64 (-1)) w)
theorem Uf (h:T9 a0 a1 w K):Q0 P F.j [a0,a1] w K:=zr Jx Tryz.func160 h
def K8:L4:=fun a b w K=>Q0 P F.j [a,b] w fun c w=>X4 .geq T.f 7 c 0 w fun d w=>K d w
theorem Zl (h:K8 a0 a1 w K):Q0 P F.f [a0,a1] w K:=zr (Y3 2) Tryz.func184 h
def Wl:Yg:=fun n h o w K=>box P T.n n w fun a w=>dr w fun c b=>Y5 c b (Q6 P T.ae h) fun l=>Y5 c b (Q6 P T.n a) fun m=>L1 c b l m (fun f g=>U2 P f [g]) fun p=>Y5 c b (Q6 P T.ae h) fun q=>Y5 c b (Q6 P T.n o) fun r=> ∀f g i j k w,b w->l f w->m g w->p i w->q j w->r k w->U2 P j [k] w fun d w=>X5 .eql T.c 7 10 i d w fun e w=>K e w
theorem Gj (h:Wl a0 a1 a2 w K):Q0 P F.c9 [a0,a1,a2] w K:=zr (Y3 2) Tryz.func185 h
def Ky:M0:=[none,none,none,some ([9],[4,5,6,9,10,11,12,13,14,15,16,17,18,19])]++Y3 7
def Mv:L4:=fun e k w K=>box P T.ae k w fun a w=>Y2 T.k e w fun l w=>lp (α:=Value) (.int .i64 0) w fun b d m w=>X5 .lss T.f 9 8 d l w fun f w=>X1 f (V0 T.k T.n e d w fun g w=>M9 T.n g w fun c w=>G5 P T.k e none (some d) none w fun h w=>C1 P (.func F.c9) [] [a,c] w fun i w=>Q0 P F.f [h,i] w fun j w=>X1 j (K (.bool false) w) (V6 9 d w b)) (K (.bool true) w)
theorem Pf (h:Mv a0 a1 w K):Q0 P F.aC [a0,a1] w K:=zr Ky Tryz.func148 h
def Ke:D3:=fun b w K=>box P T.n b w fun a w=>Y1 T.n T.c a 0 w fun c w=>K c w
theorem Q5j (h:Ke a0 w K):Q0 P F.cu [a0] w K:=zr (Y3 2) Tryz.func149 h
def Vj:Yg:=fun n h o w K=>box P T.d n w fun a w=>dr w fun c b=>Y5 c b (Q6 P T.ad h) fun l=>Y5 c b (Q6 P T.d a) fun m=>L1 c b l m (fun f g=>U2 P f [g]) fun p=>Y5 c b (Q6 P T.ad h) fun q=>Y5 c b (Q6 P T.d o) fun r=> ∀f g i j k w,b w->l f w->m g w->p i w->q j w->r k w->U2 P j [k] w fun d w=>X5 .eql T.c 7 10 i d w fun e w=>K e w
theorem Bp (h:Vj a0 a1 a2 w K):Q0 P F.c2 [a0,a1,a2] w K:=zr (Y3 2) Tryz.func186 h
def Ia:M0:=[none,none,none,some ([9],[4,5,6,9,10,11,12,13,14,15,16,17,18,19])]++Y3 7
def Lv:L4:=fun e k w K=>box P T.ad k w fun a w=>Y2 T.j e w fun l w=>lp (α:=Value) (.int .i64 0) w fun b d m w=>X5 .lss T.f 9 8 d l w fun f w=>X1 f (V0 T.j T.d e d w fun g w=>M9 T.d g w fun c w=>G5 P T.j e none (some d) none w fun h w=>C1 P (.func F.c2) [] [a,c] w fun i w=>Q0 P F.a [h,i] w fun j w=>X1 j (K (.bool false) w) (V6 9 d w b)) (K (.bool true) w)
theorem Ih (h:Lv a0 a1 w K):Q0 P F.aw [a0,a1] w K:=zr Ia Tryz.func150 h
def Kf:D3:=fun b w K=>box P T.d b w fun a w=>Y1 T.d T.c a 0 w fun c w=>K c w
theorem Q5k (h:Kf a0 w K):Q0 P F.cv [a0] w K:=zr (Y3 2) Tryz.func151 h
def Vh:L4:=fun b c w K=>box P T.n b w fun a w=>Q6 P T.al c w fun d w=>Q6 P T.n a w fun e w=>U2 P d [e] w fun f w=>V4 P .not f w fun g w=>K g w
theorem Bn (h:Vh a0 a1 w K):Q0 P F.c0 [a0,a1] w K:=zr (Y3 2) Tryz.func187 h
def Lt:L4:=fun b c w K=>box P T.al c w fun a w=>C1 P (.func F.c0) [] [a] w fun d w=>Q0 P F.f [b,d] w fun e w=>V4 P .not e w fun f w=>K f w
theorem Ie (h:Lt a0 a1 w K):Q0 P F.au [a0,a1] w K:=zr (Y3 2) Tryz.func152 h
def Q2m:D3:=fun a w K=>V2 .eql T.c 3 a #[105,110,116] w fun e w=>X6 e false a w fun g w=>Q1 e false w (V2 .eql T.c 6 g #[98,111,111,108]) fun h w=>pick P e (.bool true) h w fun f w=>X6 f false a w fun b w=>Q1 f false w (V2 .eql T.c 10 b #[116,101,120,116]) fun c w=>pick P f (.bool true) c w fun d w=>K d w
theorem Q8E (h:Q2m a0 w K):Q0 P F.aL [a0] w K:=zr (Y3 2) Tryz.func132 h
def Lx:L4:=fun b c w K=>Y2 T.c b w fun n w=>Y2 T.c c w fun o w=>X5 .geq T.f 6 8 n o w fun a w=>X6 a true b w fun d w=>X6 a true b w fun e w=>Q1 a true w (Y2 T.c e) fun f w=>X6 a true c w fun g w=>Q1 a true w (Y2 T.c g) fun h w=>Q1 a true w (X5 .sub T.f 13 15 f h) fun i w=>Q1 a true w (G5 P T.c d (some i) none none) fun j w=>X6 a true c w fun k w=>Q1 a true w (X5 .eql T.c 17 18 j k) fun l w=>pick P a l (.bool false) w fun m w=>K m w
theorem Ij (h:Lx a0 a1 w K):Q0 P F.ad [a0,a1] w K:=zr (Y3 2) Tryz.func175 h
def Rj:L4:=fun a b w K=>Q0 P F.ad [a,b] w fun c w=>K c w
theorem Q1R (h:Rj a0 a1 w K):Q0 P F.bI [a0,a1] w K:=zr (Y3 2) Tryz.func176 h
def Wn:L4:=fun a f w K=>Q0 P F.ad [a,f] w fun g w=>X1 g (Y2 T.c a w fun b w=>Y2 T.c f w fun c w=>X5 .sub T.f 10 12 b c w fun d w=>G5 P T.c a none (some d) none w fun e w=>K e w) (K a w)
theorem Gl (h:Wn a0 a1 w K):Q0 P F.cf [a0,a1] w K:=zr (Y3 5) Tryz.func202 h
def Eo:L4:=fun a b w K=>Q0 P F.cf [a,b] w fun c w=>K c w
theorem Q0R (h:Eo a0 a1 w K):Q0 P F.bw [a0,a1] w K:=zr (Y3 2) Tryz.func177 h
def Q9y:M0:=[none,none,none,some ([0,4],[0,4,5,6,7,8,9,10]),none,none,none]
def Q48:D3:=fun d w K=>lp (α:=Value×Value) (d,(.int .i64 0)) w fun a b g w=>Q0 P F.bI [b.1,(.string ⟨#[91,93]⟩)] w fun e w=>X1 e (Q0 P F.bw [b.1,(.string ⟨#[91,93]⟩)] w fun f w=>X4 .add T.f 9 b.2 1 w fun c w=>a (f,c) w) (K (.tuple #[b.1,b.2]) w)
theorem Q9L (h:Q48 a0 w K):Q0 P F.cD [a0] w K:=zr Q9y Tryz.func139 h
def Q2n:D3:=fun j w K=>Q0 P F.cD [j] w fun k w=>D2 k w fun i l w=>X4 .leq T.f 10 l 3 w fun a w=>X6 a true i w fun c w=>Q1 a true w (Q0 P F.aL [c]) fun d w=>X6 a true d w fun b w=>X6 b false i w fun e w=>Q1 b false w (Q0 P F.aj [e]) fun f w=>Q1 a true w (pick P b (.bool true) f) fun g w=>pick P a g (.bool false) w fun h w=>K h w
theorem Q8F (h:Q2n a0 w K):Q0 P F.a2 [a0] w K:=zr (Y3 3) Tryz.func101 h
def Pu:D3:=fun b w K=>Q0 P F.c6 [b] w fun a w=>X6 a true b w fun c w=>Q1 a true w (Q0 P F.aj [c]) fun d w=>Q1 a true w (V4 P .not d) fun e w=>pick P a e (.bool false) w fun f w=>K f w
theorem Q68 (h:Pu a0 w K):Q0 P F.bQ [a0] w K:=zr (Y3 2) Tryz.func154 h
def Kg:D3:=fun d w K=>box P T.n d w fun a w=>Y1 T.n T.c a 0 w fun e w=>Q0 P F.bQ [e] w fun c w=>Z3 c true w T.n T.c a 1 fun f w=>Q1 c true w (Q0 P F.a2 [f]) fun g w=>pick P c g (.bool false) w fun b w=>K b w
theorem Q5l (h:Kg a0 w K):Q0 P F.bx [a0] w K:=zr (Y3 2) Tryz.func153 h
def Um:L4:=fun b c w K=>box P T.d b w fun a w=>Q6 P T.ah c w fun d w=>Q6 P T.d a w fun e w=>U2 P d [e] w fun f w=>V4 P .not f w fun g w=>K g w
theorem Ct (h:Um a0 a1 w K):Q0 P F.bP [a0,a1] w K:=zr (Y3 2) Tryz.func188 h
def Wk:L4:=fun b c w K=>box P T.ah c w fun a w=>C1 P (.func F.bP) [] [a] w fun d w=>Q0 P F.a [b,d] w fun e w=>V4 P .not e w fun f w=>K f w
theorem Gi (h:Wk a0 a1 w K):Q0 P F.ao [a0,a1] w K:=zr (Y3 2) Tryz.func155 h
def Fq:L4:=fun u t w K=>box P T.v u w fun a w=>Y1 T.v T.f a 0 w fun v w=>X4 .geq T.f 5 v 0 w fun f w=>Z3 f true w T.v T.f a 1 fun y w=>Z3 f true w T.v T.f a 0 fun g w=>Q1 f true w (X5 .gtr T.f 9 11 y g) fun h w=>pick P f h (.bool false) w fun b w=>Z3 b true w T.v T.f a 1 fun i w=>Q1 b true w (Q6 P T.f t) fun j w=>Q1 b true w (X5 .leq T.f 16 17 i j) fun k w=>pick P b k (.bool false) w fun d w=>Z3 d true w T.v T.f a 2 fun l w=>Q1 d true w (X4 .geq T.f 22 l 0) fun m w=>pick P d m (.bool false) w fun c w=>Z3 c true w T.v T.f a 2 fun n w=>Q1 c true w (Q6 P T.f t) fun o w=>Q1 c true w (X5 .lss T.f 27 28 n o) fun p w=>pick P c p (.bool false) w fun e w=>Z3 e true w T.v T.c a 3 fun q w=>Q1 e true w (Q0 P F.aj [q]) fun r w=>pick P e r (.bool false) w fun s w=>K s w
theorem Q4y (h:Fq a0 a1 w K):Q0 P F.bh [a0,a1] w K:=zr (Y3 2) Tryz.func189 h
def Jy:M0:=[none,none,none,some ([8],[4,5,8,9,10,11,12,13,14,15,16,17,18])]++Y3 7
def A0:L4:=fun e f w K=>Y2 T.r e w fun g w=>lp (α:=Value) (.int .i64 0) w fun a b i w=>X5 .lss T.f 8 7 b g w fun h w=>X1 h (V0 T.r T.w e b w fun c w=>U2 P f [c] w fun d w=>X1 d (K b w) (V6 8 b w a)) (K (.int .i64 (-1)) w)
theorem Ug (h:A0 a0 a1 w K):Q0 P F.a7 [a0,a1] w K:=zr Jy Tryz.func218 h
def K9:L4:=fun a b w K=>Q0 P F.a7 [a,b] w fun c w=>X4 .geq T.f 7 c 0 w fun d w=>K d w
theorem Zm (h:K9 a0 a1 w K):Q0 P F.m [a0,a1] w K:=zr (Y3 2) Tryz.func206 h
def Vi:L4:=fun b c w K=>box P T.w b w fun a w=>Q6 P T.am c w fun d w=>Q6 P T.w a w fun e w=>U2 P d [e] w fun f w=>V4 P .not f w fun g w=>K g w
theorem Bo (h:Vi a0 a1 w K):Q0 P F.c1 [a0,a1] w K:=zr (Y3 2) Tryz.func207 h
def Lu:L4:=fun b c w K=>box P T.am c w fun a w=>C1 P (.func F.c1) [] [a] w fun d w=>Q0 P F.m [b,d] w fun e w=>V4 P .not e w fun f w=>K f w
theorem Ig (h:Lu a0 a1 w K):Q0 P F.av [a0,a1] w K:=zr (Y3 2) Tryz.func190 h
def Wr:M0:=[none,none,none,some ([8],[4,5,8,9,10,11,12,13,14,15,16,17,18])]++Y3 7
def Qx:L4:=fun e f w K=>Y2 T.aw e w fun g w=>lp (α:=Value) (.int .i64 0) w fun a b i w=>X5 .lss T.f 8 7 b g w fun h w=>X1 h (V0 T.aw T.ag e b w fun c w=>U2 P f [c] w fun d w=>X1 d (K b w) (V6 8 b w a)) (K (.int .i64 (-1)) w)
theorem Wy (h:Qx a0 a1 w K):Q0 P F.t [a0,a1] w K:=zr Wr Tryz.func232 h
def Q15:L4:=fun b c w K=>box P T.ag b w fun a w=>Y1 T.ag T.c a 0 w fun d w=>Q6 P T.c c w fun e w=>X5 .eql T.c 5 6 d e w fun f w=>K f w
theorem Q78 (h:Q15 a0 a1 w K):Q0 P F.cZ [a0,a1] w K:=zr (Y3 2) Tryz.func233 h
def Q41:D3:=fun b w K=>box P T.c b w fun a w=>G5 P T.aj (.pointer (some ⟨G.a,0,none⟩)) none none none w fun c w=>C1 P (.func F.cZ) [] [a] w fun d w=>Q0 P F.t [c,d] w fun e w=>K e w
theorem Q9E (h:Q41 a0 w K):Q0 P F.cT [a0] w K:=zr (Y3 2) Tryz.func219 h
def Q2g:D3:=fun p w K=>Q0 P F.cT [p] w fun m w=>X4 .lss T.f 8 m 0 w fun q w=>X1 q (K (.tuple #[(.bool false),(.bool false),(.bool false)]) w) (dr w fun f a=>Y5 f a (indexAddr P T.aj (.pointer (some ⟨G.a,0,none⟩)) m) fun i=>X3 f a i (fun b=>fieldAddr P T.ag b 1) fun j=>Y5 f a (indexAddr P T.aj (.pointer (some ⟨G.a,0,none⟩)) m) fun k=>X3 f a k (fun d=>fieldAddr P T.ag d 2) fun l=>X3 f a j (fun c=>Q6 P T.q c) fun n=>X3 f a l (fun e=>Q6 P T.q e) fun o=> ∀b c d e g h w,a w->i b w->j c w->k d w->l e w->n g w->o h w->K (.tuple #[g,h,(.bool true)]) w)
theorem Q8y (h:Q2g a0 w K):Q0 P F.cl [a0] w K:=zr (Y3 6) Tryz.func208 h
def Q45:D3:=fun c w K=>Q0 P F.cD [c] w fun d w=>D2 d w fun f e w=>Q0 P F.a2 [c] w fun a w=>V4 P .not a w fun b w=>X1 b (K (.int .i64 0) w) (K e w)
theorem Q9I (h:Q45 a0 w K):Q0 P F.cC [a0] w K:=zr (Y3 6) Tryz.func130 h
def Ly:L4:=fun a b w K=>Q0 P F.bY [a,b] w fun c w=>K c w
theorem Ik (h:Ly a0 a1 w K):Q0 P F.ay [a0,a1] w K:=zr (Y3 2) Tryz.func237 h
def Q1u:M0:=Y3 17++[some ([8,10],[4,8,10,11,12,13,57,58,59,60,61,62,63,64,65,66,67,68,69,70,71,72,73,74,75,76,77,78,79,80,81,82,83,84,85,86,87,88,89,90,91,92,93,94,95,96,97,98,99,100,101,102,103,104,105,106,107,108,109,110,111,112,113,114,115,116,117,118,119,120,121,122,123,124,125,126,127,128,129,130,131,132,133,134,135,136,137,138,139,140,141,142]),none,none,some ([8],[4,8,11,60,61,62,63,64,65,66,67,68,69,70,71,72,73,74,75,76,77])]++Y3 23
def Rl:L4:=fun h k w K=>Y2 T.c k w fun d w=>X4 .eql T.f 17 d 0 w fun l w=>X6 l false k w fun Z w=>X6 l false h w fun aa w=>Q1 l false w (X5 .eql T.c 20 21 Z aa) fun ab w=>pick P l (.bool true) ab w fun ac w=>X1 ac (K (.int .i64 0) w) (X4 .eql T.f 25 d 1 w fun ad w=>X1 ad (K0 P T.c k (.int .i64 0) w fun ae w=>Q0 P F.ay [h,ae] w fun af w=>K af w) (Y2 T.c h w fun ag w=>X5 .geq T.f 32 34 d ag w fun ah w=>X1 ah (K (.int .i64 (-1)) w) (Q6 P T.f (.pointer (some ⟨G.c,0,none⟩)) w fun ai w=>X5 .leq T.f 37 38 d ai w fun m w=>X6 m true h w fun aj w=>Q1 m true w (Y2 T.c aj) fun ak w=>Q1 m true w (X4 .leq T.f 42 ak 64) fun al w=>pick P m al (.bool false) w fun am w=>X1 am (Q0 P F.cy [h,k] w fun an w=>K an w) (K0 P T.c k (.int .i64 0) w fun X w=>K0 P T.c k (.int .i64 1) w fun ao w=>Y2 T.c h w fun ap w=>X5 .sub T.f 53 54 ap d w fun aq w=>X4 .add T.f 55 aq 1 w fun p w=>lp (α:=Value×Value) ((.int .i64 0),(.int .i64 0)) w fun i g d_ w=>X5 .lss T.f 57 58 g.1 p w fun ar w=>X1 ar (jn (α:=Value) w (fun r w=>K0 P T.c h g.1 w fun av w=>X5 .neq T.a9 62 63 av X w fun aw w=>X1 aw (X4 .add T.f 66 g.1 1 w fun ax w=>G5 P T.c h (some ax) (some p) none w fun ay w=>Q0 P F.ay [ay,X] w fun Y w=>X4 .lss T.f 72 Y 0 w fun az w=>X1 az (K (.int .i64 (-1)) w) (X4 .add T.f 75 Y 1 w fun a2 w=>X5 .add T.f 74 76 g.1 a2 w fun a3 w=>r a3 w)) (r g.1 w)) fun j d_ w=>X4 .add T.f 79 j 1 w fun a4 w=>K0 P T.c h a4 w fun a5 w=>X5 .eql T.a9 81 82 a5 ao w fun b w=>X6 b true h w fun a6 w=>X6 b true j w fun a7 w=>X6 b true j w fun a8 w=>X6 b true d w fun a9 w=>Q1 b true w (X5 .add T.f 87 88 a8 a9) fun ba w=>Q1 b true w (G5 P T.c a6 (some a7) (some ba) none) fun bb w=>X6 b true k w fun bc w=>Q1 b true w (X5 .eql T.c 90 91 bb bc) fun bd w=>pick P b bd (.bool false) w fun be w=>X1 be (K j w) (X4 .add T.f 95 j 1 w fun e w=>X4 .add T.f 97 g.2 1 w fun q w=>Q6 P T.f (.pointer (some ⟨G.c,0,none⟩)) w fun s w=>X5 .leq T.f 99 100 d s w fun c w=>X6 c true q w fun t w=>X6 c true e w fun u w=>Q1 c true w (Q0 P F.d3 [u]) fun v w=>Q1 c true w (X5 .gtr T.f 103 105 t v) fun y w=>pick P c y (.bool false) w fun z w=>X1 z (G5 P T.c h (some e) none none w fun A w=>Q0 P F.cy [A,k] w fun n w=>X4 .geq T.f 113 n 0 w fun B w=>X1 B (X5 .add T.f 115 116 n e w fun C w=>K C w) (K (.int .i64 (-1)) w)) (Q6 P T.f (.pointer (some ⟨G.c,0,none⟩)) w fun D w=>X5 .gtr T.f 118 119 d D w fun a w=>X6 a true q w fun E w=>X6 a true e w fun H w=>Q1 a true w (Z2 P .shr T.f (.tmp 123) (.const (.int .u64 4)) H (.int .u64 4)) fun J w=>Q1 a true w (Z2 P .add T.f (.const (.int .i64 4)) (.tmp 124) (.int .i64 4) J) fun L w=>Q1 a true w (X5 .geq T.f 122 125 E L) fun M w=>pick P a M (.bool false) w fun f w=>X6 f true e w fun N w=>X6 f true p w fun O w=>Q1 f true w (X5 .lss T.f 129 130 N O) fun Q w=>pick P f Q (.bool false) w fun R w=>X1 R (G5 P T.c h (some e) none none w fun U w=>Q0 P F.cS [U,k] w fun o w=>X4 .lss T.f 138 o 0 w fun V w=>X1 V (K (.int .i64 (-1)) w) (X5 .add T.f 140 141 e o w fun W w=>K W w)) (i (e,q) w)))) (K (.int .i64 (-1)) w)))))
theorem Q1T (h:Rl a0 a1 w K):Q0 P F.bK [a0,a1] w K:=zr Q1u Tryz.func238 h
def Bc:L4:=fun j n w K=>Q0 P F.bK [j,n] w fun a w=>X4 .geq T.f 11 a 0 w fun k w=>X1 k (dr w fun i d=>Y5 i d (G5 P T.c j none (some a) none) fun l=>Y5 i d (Y2 T.c n) fun g=>X3 i d g (fun b=>X5 .add T.f 17 19 a b) fun h=>X3 i d h (fun c=>G5 P T.c j (some c) none none) fun m=> ∀e b c f w,d w->l e w->g b w->h c w->m f w->K (.tuple #[e,f,(.bool true)]) w) (K (.tuple #[j,(.string ⟨#[]⟩),(.bool false)]) w)
theorem Q3P (h:Bc a0 a1 w K):Q0 P F.cR [a0,a1] w K:=zr (Y3 6) Tryz.func239 h
def Q1f:L4:=fun e f w K=>Q0 P F.cR [e,f] w fun d w=>D2 d w fun a b w=>ext P d 2 w fun c w=>K (.tuple #[a,b,c]) w
theorem Q7i (h:Q1f a0 a1 w K):Q0 P F.cJ [a0,a1] w K:=zr (Y3 2) Tryz.func235 h
def Q2l:D3:=fun t w K=>Q0 P F.cJ [t,(.string ⟨#[46]⟩)] w fun e w=>D2 e w fun f d w=>ext P e 2 w fun g w=>V4 P .not g w fun b w=>X6 b false f w fun h w=>Q1 b false w (Q0 P F.aj [h]) fun i w=>Q1 b false w (V4 P .not i) fun j w=>pick P b (.bool true) j w fun c w=>X6 c false d w fun k w=>Q1 c false w (Q0 P F.c6 [k]) fun l w=>Q1 c false w (V4 P .not l) fun m w=>pick P c (.bool true) m w fun a w=>X6 a false d w fun n w=>Q1 a false w (K0 P T.c n (.int .i64 0)) fun o w=>Q1 a false w (conv P T.a9 T.aq o) fun p w=>Q1 a false w (Q0 P F.cp [p]) fun q w=>Q1 a false w (V4 P .not q) fun r w=>pick P a (.bool true) r w fun s w=>X1 s (K (.tuple #[(.string ⟨#[]⟩),(.string ⟨#[]⟩),(.int .i64 30)]) w) (K (.tuple #[f,d,(.int .i64 0)]) w)
theorem Q8D (h:Q2l a0 w K):Q0 P F.cQ [a0] w K:=zr (Y3 6) Tryz.func221 h
def Q9w:M0:=Y3 7++[some ([27],[27,28,29])]++Y3 6
def Q42:L4:=fun f a w K=>V2 .eql T.c 8 f #[119,111,114,100] w fun i w=>X1 i (Y2 T.c a w fun j w=>X4 .leq T.f 12 j 64 w fun e w=>X6 e true a w fun k w=>Q1 e true w (Q0 P F.b1 [k]) fun l w=>pick P e l (.bool false) w fun b w=>X6 b true a w fun m w=>Q1 b true w (Q0 P F.cM [m,(.string ⟨#[10]⟩)]) fun n w=>Q1 b true w (V4 P .not n) fun o w=>pick P b o (.bool false) w fun p w=>K p w) (V2 .eql T.c 8 f #[110,101,119] w fun q w=>X1 q (Q0 P F.aj [a] w fun r w=>K r w) (jn (α:=Value) w (fun J w=>V2 .eql T.c 8 f #[105,115] w fun g w=>X1 g (J g w) (V2 .eql T.c 8 f #[99,97,115,116] w fun s w=>J s w)) fun N O w=>X1 N (Q0 P F.a2 [a] w fun c w=>X6 c true a w fun t w=>Q1 c true w (Q0 P F.aL [t]) fun u w=>Q1 c true w (V4 P .not u) fun v w=>pick P c v (.bool false) w fun y w=>K y w) (V2 .eql T.c 8 f #[97,114,114,97,121] w fun z w=>X1 z (Q0 P F.a2 [a] w fun d w=>X6 d true a w fun A w=>Q1 d true w (Q0 P F.cC [A]) fun B w=>Q1 d true w (X4 .lss T.f 43 B 3) fun C w=>pick P d C (.bool false) w fun D w=>K D w) (Q0 P F.cQ [a] w fun h w=>D2 h w fun L M w=>ext P h 2 w fun E w=>X4 .eql T.u 52 E 0 w fun H w=>K H w))))
theorem Q9F (h:Q42 a0 a1 w K):Q0 P F.cU [a0,a1] w K:=zr Q9w Tryz.func209 h
def Q8k:M0:=Y3 5++[some ([16],[16,17,18,19,20,21,22,23,24,25,26,27,28,29,30,31,32,33,34,35,36,37,38,39]),none,none,none,none]
def Q2f:D3:=fun u w K=>box P T.w u w fun a w=>Y1 T.w T.c a 0 w fun v w=>Q0 P F.cl [v] w fun t w=>D2 t w fun h b w=>ext P t 2 w fun i w=>V4 P .not i w fun j w=>X1 j (K (.int .i64 40) w) (jn (α:=Value) w (fun g w=>V4 P .not h w fun c w=>Z3 c true w T.w T.a5 a 1 fun k w=>Q1 c true w (X4 .neq T.a5 21 k 0) fun l w=>pick P c l (.bool false) w fun e w=>X1 e (g e w) (V4 P .not b w fun d w=>Z3 d true w T.w T.c a 2 fun m w=>Q1 d true w (V2 .neq T.c 28 m #[]) fun n w=>pick P d n (.bool false) w fun f w=>X1 f (g f w) (Z3 b true w T.w T.c a 0 fun o w=>Z3 b true w T.w T.c a 2 fun p w=>Q1 b true w (Q0 P F.cU [o,p]) fun q w=>Q1 b true w (V4 P .not q) fun r w=>pick P b r (.bool false) w fun s w=>g s w))) fun y z w=>X1 y (K (.int .i64 41) w) (K (.int .i64 0) w))
theorem Q8x (h:Q2f a0 w K):Q0 P F.cO [a0] w K:=zr Q8k Tryz.func192 h
def Fs:D3:=fun b w K=>box P T.w b w fun a w=>Q6 P T.w a w fun c w=>Q0 P F.cO [c] w fun d w=>X4 .eql T.u 4 d 0 w fun e w=>K e w
theorem Q4z (h:Fs a0 w K):Q0 P F.bi [a0] w K:=zr (Y3 2) Tryz.func191 h
def Jv:M0:=[none,none,none,some ([8],[4,5,8,9,10,11,12,13,14,15,16,17,18])]++Y3 7
def T7:L4:=fun e f w K=>Y2 T.t e w fun g w=>lp (α:=Value) (.int .i64 0) w fun a b i w=>X5 .lss T.f 8 7 b g w fun h w=>X1 h (V0 T.t T.v e b w fun c w=>U2 P f [c] w fun d w=>X1 d (K b w) (V6 8 b w a)) (K (.int .i64 (-1)) w)
theorem Ud (h:T7 a0 a1 w K):Q0 P F.a6 [a0,a1] w K:=zr Jv Tryz.func222 h
def K7:L4:=fun a b w K=>Q0 P F.a6 [a,b] w fun c w=>X4 .geq T.f 7 c 0 w fun d w=>K d w
theorem Zk (h:K7 a0 a1 w K):Q0 P F.l [a0,a1] w K:=zr (Y3 2) Tryz.func210 h
def Vg:L4:=fun b c w K=>box P T.v b w fun a w=>Q6 P T.ak c w fun d w=>Q6 P T.v a w fun e w=>U2 P d [e] w fun f w=>V4 P .not f w fun g w=>K g w
theorem Bm (h:Vg a0 a1 w K):Q0 P F.bZ [a0,a1] w K:=zr (Y3 2) Tryz.func211 h
def Ls:L4:=fun b c w K=>box P T.ak c w fun a w=>C1 P (.func F.bZ) [] [a] w fun d w=>Q0 P F.l [b,d] w fun e w=>V4 P .not e w fun f w=>K f w
theorem Ic (h:Ls a0 a1 w K):Q0 P F.ar [a0,a1] w K:=zr (Y3 2) Tryz.func193 h
def Pv:D3:=fun a0 w K=>box P T.d a0 w fun a w=>Y1 T.d T.c a 0 w fun t6 w=>Q0 P F.bQ [t6] w fun t7 w=>V4 P .not t7 w fun i w=>Z3 i false w T.d T.h a 1 fun j w=>Q1 i false w (Q0 P F.ab [j,(.func (.func F.a2) #[] #[])]) fun k w=>Q1 i false w (V4 P .not k) fun l w=>pick P i (.bool true) l w fun b w=>Z3 b false w T.d T.c a 2 fun m w=>Q1 b false w (V2 .neq T.c 17 m #[]) fun n w=>X6 b false n w fun d w=>Z3 d true w T.d T.c a 2 fun o w=>Q1 d true w (Q0 P F.a2 [o]) fun p w=>Q1 d true w (V4 P .not p) fun q w=>Q1 b false w (pick P d q (.bool false)) fun r w=>pick P b (.bool true) r w fun s w=>X1 s (K (.bool false) w) (Y1 T.d T.q a 3 w fun t w=>X1 t (Y1 T.d T.f a 4 w fun u w=>X4 .eql T.f 29 u 0 w fun e w=>Z3 e true w T.d T.r a 5 fun v w=>Q1 e true w (Y2 T.r v) fun y w=>Q1 e true w (X4 .eql T.f 34 y 0) fun z w=>pick P e z (.bool false) w fun f w=>Z3 f true w T.d T.t a 6 fun A w=>Q1 f true w (Y2 T.t A) fun B w=>Q1 f true w (X4 .eql T.f 40 B 0) fun C w=>pick P f C (.bool false) w fun D w=>K D w) (Y1 T.d T.r a 5 w fun E w=>Y2 T.r E w fun H w=>M9 T.f H w fun Z w=>C1 P (.func F.bh) [] [Z] w fun J w=>Q6 P T.f Z w fun L w=>X4 .gtr T.f 47 L 0 w fun c w=>Z3 c true w T.d T.f a 4 fun M w=>Z3 c true w T.d T.h a 1 fun N w=>Q1 c true w (Y2 T.h N) fun O w=>Q1 c true w (X5 .gtr T.f 51 54 M O) fun Q w=>pick P c Q (.bool false) w fun h w=>Z3 h true w T.d T.r a 5 fun R w=>Q1 h true w (Q0 P F.av [R,(.func (.func F.bi) #[] #[])]) fun U w=>pick P h U (.bool false) w fun g w=>Z3 g true w T.d T.t a 6 fun V w=>X6 g true J w fun W w=>Q1 g true w (Q0 P F.ar [V,W]) fun X w=>pick P g X (.bool false) w fun Y w=>K Y w))
theorem Q69 (h:Pv a0 w K):Q0 P F.b7 [a0] w K:=zr (Y3 10) Tryz.func156 h
def Q14:D3:=fun a0 w K=>box P T.b a0 w fun b w=>Y1 T.b T.c b 0 w fun t8 w=>Y1 T.b T.c b 1 w fun t w=>buildSlice P T.h 2 [(0,t8),(1,t)] w fun u w=>Y1 T.b T.h b 2 w fun v w=>U7 P .append [T.h,T.h] T.h [false,false] [u,v] w fun k w=>dr w fun s r=>Y5 s r (G5 P T.h k (some (.int .i64 1)) none none) fun av=>Y5 s r (fieldAddr P T.b b 0) fun q=>X3 s r q (fun g=>Q6 P T.c g) fun aw=> ∀l g m w,r w->av l w->q g w->aw m w->Q0 P F.ai [l,m] w fun y w=>Y1 T.b T.j b 7 w fun z w=>Q0 P F.a [z,(.func (.func F.cr) #[] #[])] w fun A w=>Y1 T.b T.j b 7 w fun B w=>Q0 P F.a [B,(.func (.func F.cs) #[] #[])] w fun C w=>Q0 P F.ab [k,(.func (.func F.aj) #[] #[])] w fun D w=>V4 P .not D w fun n w=>X6 n false y w fun E w=>pick P n (.bool true) E w fun c w=>Z3 c false w T.b T.h b 2 fun H w=>Q1 c false w (Q0 P F.aP [H,(.func (.func F.ct) #[] #[])]) fun J w=>Q1 c false w (V4 P .not J) fun L w=>pick P c (.bool true) L w fun M w=>X1 M (K (.bool false) w) (Y1 T.b T.q b 3 w fun a w=>Z3 a true w T.b T.q b 4 fun N w=>Q1 a true w (V4 P .not N) fun O w=>X6 a true O w fun h w=>Z3 h false w T.b T.c b 1 fun Q w=>Q1 h false w (V2 .neq T.c 48 Q #[79,98,106,101,99,116]) fun R w=>Q1 a true w (pick P h (.bool true) R) fun U w=>X6 a true U w fun d w=>Z3 d false w T.b T.k b 6 fun V w=>Q1 d false w (Y2 T.k V) fun W w=>Q1 d false w (X4 .gtr T.f 54 W 0) fun X w=>Q1 a true w (pick P d (.bool true) X) fun Y w=>X6 a true Y w fun o w=>X6 o false C w fun Z w=>Q1 a true w (pick P o (.bool true) Z) fun aa w=>pick P a aa (.bool false) w fun ab w=>X1 ab (K (.bool false) w) (Y1 T.b T.q b 4 w fun p w=>Z3 p true w T.b T.q b 5 fun ac w=>pick P p ac (.bool false) w fun e w=>X6 e false A w fun ad w=>X6 e false ad w fun i w=>Z3 i true w T.b T.q b 4 fun ae w=>Q1 i true w (V4 P .not ae) fun af w=>Q1 e false w (pick P i af (.bool false)) fun ag w=>pick P e (.bool true) ag w fun ah w=>X1 ah (K (.bool false) w) (Y1 T.b T.k b 6 w fun ai w=>Q0 P F.aC [ai,(.func (.func F.cu) #[] #[])] w fun aj w=>V4 P .not aj w fun f w=>Z3 f false w T.b T.j b 7 fun ak w=>Q1 f false w (Q0 P F.aw [ak,(.func (.func F.cv) #[] #[])]) fun al w=>Q1 f false w (V4 P .not al) fun am w=>pick P f (.bool true) am w fun an w=>X1 an (K (.bool false) w) (Y1 T.b T.k b 6 w fun ao w=>Q0 P F.au [ao,(.func (.func F.bx) #[] #[])] w fun j w=>Z3 j true w T.b T.j b 7 fun ap w=>Q1 j true w (Q0 P F.ao [ap,(.func (.func F.b7) #[] #[])]) fun aq w=>pick P j aq (.bool false) w fun ar w=>K ar w))))
theorem Q77 (h:Q14 a0 w K):Q0 P F.cF [a0] w K:=zr (Y3 15) Tryz.func105 h
def Q13:D3:=fun b w K=>box P T.b b w fun a w=>Q6 P T.b a w fun c w=>Q0 P F.cN [c] w fun d w=>X1 d (K (.int .i64 51) w) (Q6 P T.b a w fun e w=>Q0 P F.cF [e] w fun f w=>V4 P .not f w fun g w=>X1 g (K (.int .i64 50) w) (K (.int .i64 0) w))
theorem Q76 (h:Q13 a0 w K):Q0 P F.cE [a0] w K:=zr (Y3 7) Tryz.func68 h
def Ys:D3:=fun a w K=>Z2 P .eql T.h (.tmp 3) (.const (.slice none 0 0)) a (.slice none 0 0) w fun b w=>X1 b (K (.slice none 0 0) w) (buildSlice P T.h 0 [] w fun c w=>U7 P .append [T.h,T.h] T.h [false,false] [c,a] w fun d w=>K d w)
theorem Ha (h:Ys a0 w K):Q0 P F.aa [a0] w K:=zr (Y3 5) Tryz.func106 h
def Qu:D3:=fun a w K=>Z2 P .eql T.k (.tmp 3) (.const (.slice none 0 0)) a (.slice none 0 0) w fun b w=>X1 b (K (.slice none 0 0) w) (buildSlice P T.k 0 [] w fun c w=>U7 P .append [T.k,T.k] T.k [false,false] [c,a] w fun d w=>K d w)
theorem Ww (h:Qu a0 w K):Q0 P F.ag [a0] w K:=zr (Y3 5) Tryz.func107 h
def Qv:D3:=fun a w K=>Z2 P .eql T.r (.tmp 3) (.const (.slice none 0 0)) a (.slice none 0 0) w fun b w=>X1 b (K (.slice none 0 0) w) (buildSlice P T.r 0 [] w fun c w=>U7 P .append [T.r,T.r] T.r [false,false] [c,a] w fun d w=>K d w)
theorem Wx (h:Qv a0 w K):Q0 P F.ah [a0] w K:=zr (Y3 5) Tryz.func157 h
def Qt:D3:=fun a w K=>Z2 P .eql T.t (.tmp 3) (.const (.slice none 0 0)) a (.slice none 0 0) w fun b w=>X1 b (K (.slice none 0 0) w) (buildSlice P T.t 0 [] w fun c w=>U7 P .append [T.t,T.t] T.t [false,false] [c,a] w fun d w=>K d w)
theorem Wv (h:Qt a0 w K):Q0 P F.af [a0] w K:=zr (Y3 5) Tryz.func158 h
def Q1d:D3:=fun B w K=>box P T.d B w fun a w=>T1 P T.d w fun r w=>dr w fun c b=>Y5 c b (fieldAddr P T.d a 1) fun u=>Y5 c b (fieldAddr P T.d a 5) fun y=>Y5 c b (fieldAddr P T.d a 6) fun A=>X3 c b u (fun k=>Q6 P T.h k) fun v=>X3 c b v (fun l=>Q0 P F.aa [l]) fun D=>X3 c b y (fun m=>Q6 P T.r m) fun z=>X3 c b z (fun n=>Q0 P F.ah [n]) fun E=>X3 c b A (fun o=>Q6 P T.t o) fun g=>Y5 c b (fieldAddr P T.d a 1) fun q=>X3 c b g (fun d=>Q0 P F.af [d]) fun p=> ∀k m o l s n t d f e w,b w->u k w->y m w->A o w->v l w->D s w->z n w->E t w->g d w->q f w->p e w->J9 P T.h f s w fun _u w=>fieldAddr P T.d a 5 w fun h w=>J9 P T.r h t w fun _u w=>fieldAddr P T.d a 6 w fun i w=>J9 P T.t i e w fun _u w=>Q6 P T.d a w fun j w=>J9 P T.d r j w fun _u w=>Z8 P T.d r w fun C=>K C w
theorem Q7g (h:Q1d a0 w K):Q0 P F.cc [a0] w K:=zr (Y3 3) Tryz.func108 h
def Q75:M0:=Y3 5++[some ([3,17],[3,5,17,18,19,20,21,22,23,24,25,26])]++Y3 6
def Q1c:D3:=fun M w K=>box P T.b M w fun a w=>T1 P T.b w fun D w=>dr w fun d c=>Y5 d c (fieldAddr P T.b a 2) fun H=>Y5 d c (fieldAddr P T.b a 6) fun L=>X3 d c H (fun y=>Q6 P T.h y) fun J=>X3 d c J (fun z=>Q0 P F.aa [z]) fun O=>X3 d c L (fun A=>Q6 P T.k A) fun k=>Y5 d c (fieldAddr P T.b a 2) fun C=>X3 d c k (fun e=>Q0 P F.ag [e]) fun B=> ∀y A z E e h g w,c w->H y w->L A w->J z w->O E w->k e w->C h w->B g w->J9 P T.h h E w fun _u w=>fieldAddr P T.b a 6 w fun l w=>J9 P T.k l g w fun _u w=>Y1 T.b T.j a 7 w fun i w=>Y2 T.j i w fun m w=>lp (α:=Value×Value) ((.slice none 0 0),(.int .i64 0)) w fun b j Q w=>X5 .lss T.f 17 16 j.2 m w fun n w=>X1 n (V0 T.j T.d i j.2 w fun o w=>M9 T.d o w fun f w=>Q6 P T.d f w fun p w=>Q0 P F.cc [p] w fun q w=>buildSlice P T.j 1 [(0,q)] w fun r w=>U7 P .append [T.j,T.j] T.j [false,false] [j.1,r] w fun s w=>X4 .add T.f 17 j.2 1 w fun t w=>b (s,t) w) (fieldAddr P T.b a 7 w fun u w=>J9 P T.j u j.1 w fun _u w=>Q6 P T.b a w fun v w=>J9 P T.b D v w fun _u w=>Z8 P T.b D w fun N=>K N w)
theorem Q7f (h:Q1c a0 w K):Q0 P F.cI [a0] w K:=zr Q75 Tryz.func69 h
def We:L4:=fun d e w K=>nilCheck P d w fun g w=>Y1 T.a4 T.a7 g 1 w fun a w=>lookup P T.a7 a e true w fun b w=>D2 b w fun f c w=>K c w
theorem Cj (h:We a0 a1 w K):Q0 P F.k [a0,a1] w K:=zr (Y3 3) Tryz.func70 h
def Dq:L4:=fun n s w K=>T1 P T.b w fun o w=>dr w fun b a=>Y5 b a (nilCheck P n) fun q=>X3 b a q (fun k=>fieldAddr P T.a4 k 0) fun r=>Y5 b a (nilCheck P n) fun g=>X3 b a g (fun c=>fieldAddr P T.a4 c 1) fun h=>X3 b a r (fun l=>Q6 P T.i l) fun u=>X3 b a h (fun d=>Q6 P T.a7 d) fun i=>X3 b a i (fun e=>lookup P T.a7 e s false) fun m=> ∀k l c d p e f w,a w->q k w->r l w->g c w->h d w->u p w->i e w->m f w->V0 T.i T.b p f w fun j w=>J9 P T.b o j w fun _u w=>Z8 P T.b o w fun t=>K t w
theorem Q0t (h:Dq a0 a1 w K):Q0 P F.h [a0,a1] w K:=zr (Y3 2) Tryz.func95 h
def Tb:M0:=Y3 6++[some ([29],[4,6,29,30,31,32,33,34,35,36,37,38,39,40,41,42,43,44])]++Y3 7
def Oh:L4:=fun f E w K=>box P T.b E w fun a w=>Y1 T.b T.c a 1 w fun H w=>Q0 P F.k [f,H] w fun i w=>V4 P .not i w fun c w=>X6 c false f w fun j w=>Z3 c false w T.b T.c a 1 fun k w=>Q1 c false w (Q0 P F.h [j,k]) fun l w=>Q1 c false w (Qs P T.b l 3) fun m w=>pick P c (.bool true) m w fun d w=>X6 d false f w fun n w=>Z3 d false w T.b T.c a 1 fun o w=>Q1 d false w (Q0 P F.h [n,o]) fun p w=>Q1 d false w (Qs P T.b p 5) fun q w=>pick P d (.bool true) q w fun r w=>X1 r (K (.int .i64 61) w) (Y1 T.b T.h a 2 w fun g w=>Y2 T.h g w fun s w=>lp (α:=Value) (.int .i64 0) w fun e D J w=>X5 .lss T.f 29 28 D s w fun t w=>X1 t (V0 T.h T.c g D w fun h w=>Q0 P F.k [f,h] w fun u w=>V4 P .not u w fun b w=>X6 b false f w fun v w=>X6 b false h w fun y w=>Q1 b false w (Q0 P F.h [v,y]) fun z w=>Q1 b false w (Qs P T.b z 3) fun A w=>Q1 b false w (V4 P .not A) fun B w=>pick P b (.bool true) B w fun C w=>X1 C (K (.int .i64 62) w) (V6 29 D w e)) (K (.int .i64 0) w))
theorem Tk (h:Oh a0 a1 w K):Q0 P F.bc [a0,a1] w K:=zr Tb Tryz.func71 h
def Jw:M0:=[none,none,none,some ([8],[4,5,8,9,10,11,12,13,14,15,16,17,18])]++Y3 7
def T8:L4:=fun e f w K=>Y2 T.i e w fun g w=>lp (α:=Value) (.int .i64 0) w fun a b i w=>X5 .lss T.f 8 7 b g w fun h w=>X1 h (V0 T.i T.b e b w fun c w=>U2 P f [c] w fun d w=>X1 d (K b w) (V6 8 b w a)) (K (.int .i64 (-1)) w)
theorem Ue (h:T8 a0 a1 w K):Q0 P F.o [a0,a1] w K:=zr Jw Tryz.func72 h
def Q03:M0:=[none,none,none,some ([7],[6,7,9,10,11,12,16,17,18,19,20,21,22,23,24,25,26,27,28,29,30,31,32,33,34,35,36,37,38,39,40,41,42,43,44,45,46,47,48,49,50,51,52])]++Y3 13
def Dp:Yg:=fun O Q R w K=>buildSlice P T.h 1 [(0,Q)] w fun s w=>Nn P T.a7 none w fun k w=>lp (α:=Value) s w fun b L V w=>Y2 T.h L w fun t w=>X4 .gtr T.f 17 t 0 w fun u w=>X1 u (V0 T.h T.c L (.int .i64 0) w fun d w=>G5 P T.h L (some (.int .i64 1)) none none w fun l w=>lookup P T.a7 k d true w fun v w=>D2 v w fun U c w=>X6 c false O w fun y w=>X6 c false d w fun z w=>Q1 c false w (Q0 P F.k [y,z]) fun A w=>Q1 c false w (V4 P .not A) fun B w=>pick P c (.bool true) B w fun C w=>X1 C (b l w) (mapUpdate P T.a7 k d (.int .i64 1) w fun _u w=>Q0 P F.h [O,d] w fun D w=>M9 T.b D w fun a w=>Q6 P T.b a w fun E w=>U2 P R [E] w fun H w=>X1 H (K (.bool true) w) (dr w fun j e=>Y5 j e (fieldAddr P T.b a 1) fun o=>Y5 j e (fieldAddr P T.b a 2) fun r=>X3 j e o (fun f=>Q6 P T.c f) fun p=>X3 j e p (fun g=>buildSlice P T.h 1 [(0,g)]) fun q=>X3 j e q (fun h=>U7 P .append [T.h,T.h] T.h [false,false] [l,h]) fun M=>X3 j e r (fun i=>Q6 P T.h i) fun N=> ∀f i g h m n w,e w->o f w->r i w->p g w->q h w->M m w->N n w->U7 P .append [T.h,T.h] T.h [false,false] [m,n] w fun J w=>b J w))) (K (.bool false) w)
theorem Q0s (h:Dp a0 a1 a2 w K):Q0 P F.y [a0,a1,a2] w K:=zr Q03 Tryz.func110 h
def Wg:L4:=fun b c w K=>box P T.b b w fun a w=>Y1 T.b T.c a 0 w fun d w=>Y1 T.b T.c c 0 w fun e w=>X5 .eql T.c 5 7 d e w fun f w=>K f w
theorem Ge (h:Wg a0 a1 w K):Q0 P F.c8 [a0,a1] w K:=zr (Y3 2) Tryz.func111 h
def Ms:Yg:=fun a b c w K=>Q6 P T.y b w fun d w=>C1 P (.func F.c8) [] [c] w fun e w=>Q0 P F.y [d,a,e] w fun f w=>K f w
theorem Pc (h:Ms a0 a1 a2 w K):Q0 P F.b5 [a0,a1,a2] w K:=zr (Y3 2) Tryz.func109 h
def Dr:L4:=fun i j w K=>box P T.y i w fun c w=>box P T.b j w fun a w=>C1 P (.func F.b5) [] [c,a] w fun h w=>Y1 T.b T.c a 1 w fun k w=>U2 P h [k] w fun b w=>Z3 b false w T.b T.h a 2 fun d w=>X6 b false h w fun e w=>Q1 b false w (Q0 P F.c [d,e]) fun f w=>pick P b (.bool true) f w fun g w=>K g w
theorem Q0u (h:Dr a0 a1 w K):Q0 P F.bl [a0,a1] w K:=zr (Y3 3) Tryz.func73 h
def Fw:M0:=[none,none,none,some ([8],[4,5,8,9,10,11,12,13,14,15,16,17,18])]++Y3 7
def Xx:L4:=fun e f w K=>Y2 T.a0 e w fun g w=>lp (α:=Value) (.int .i64 0) w fun a b i w=>X5 .lss T.f 8 7 b g w fun h w=>X1 h (V0 T.a0 T.f e b w fun c w=>X5 .eql T.f 11 15 f c w fun d w=>X1 d (K b w) (V6 8 b w a)) (K (.int .i64 (-1)) w)
theorem Wz (h:Xx a0 a1 w K):Q0 P F.ce [a0,a1] w K:=zr Fw Tryz.func66 h
def Qw:L4:=fun a b w K=>Q0 P F.ce [a,b] w fun c w=>X4 .geq T.f 7 c 0 w fun d w=>K d w
theorem Jn (h:Qw a0 a1 w K):Q0 P F.a0 [a0,a1] w K:=zr (Y3 2) Tryz.func35 h
def Kx:M0:=[none,none,none,none,some ([35],[7,35,36,37,38,39,40,41,42,43,44,45,46,47]),none,none,none,none]
def Zb:zV5:=fun v a1 a2 a3 a4 w K=>Q6 P T.f a1 w fun t9 w=>X5 .lss T.f 8 9 v t9 w fun d w=>Q1 d false w (Q6 P T.a0 a2) fun ad w=>X6 d false v w fun ae w=>Q1 d false w (Q0 P F.a0 [ad,ae]) fun af w=>pick P d (.bool true) af w fun ag w=>X1 ag (K (.tuple #[]) w) (dr w fun b a=>Y5 b a (Q6 P T.y a3) fun D=>X3 b a D (fun e=>nilCheck P e) fun E=>X3 b a E (fun f=>fieldAddr P T.a4 f 0) fun H=>X3 b a H (fun g=>Q6 P T.i g) fun J=>X3 b a J (fun h=>indexAddr P T.i h v) fun L=>X3 b a L (fun i=>fieldAddr P T.b i 1) fun M=>X3 b a M (fun j=>Q6 P T.c j) fun N=>X3 b a N (fun k=>buildSlice P T.h 1 [(0,k)]) fun ao=>Y5 b a (Q6 P T.y a3) fun O=>X3 b a O (fun l=>nilCheck P l) fun Q=>X3 b a Q (fun m=>fieldAddr P T.a4 m 0) fun R=>X3 b a R (fun n=>Q6 P T.i n) fun U=>X3 b a U (fun o=>indexAddr P T.i o v) fun V=>X3 b a V (fun p=>fieldAddr P T.b p 2) fun W=>X3 b a W (fun q=>Q6 P T.h q) fun ap=> ∀e f g h i j k y l m n o p q z w,a w->D e w->E f w->H g w->J h w->L i w->M j w->N k w->ao y w->O l w->Q m w->R n w->U o w->V p w->W q w->ap z w->U7 P .append [T.h,T.h] T.h [false,false] [y,z] w fun A w=>Y2 T.h A w fun ah w=>lp (α:=Value) (.int .i64 0) w fun c x4 d_ w=>X5 .lss T.f 35 34 x4 ah w fun ai w=>X1 ai (V0 T.h T.c A x4 w fun aj w=>dr w fun b a=>Y5 b a (Q6 P T.av a4) fun aq=>Y5 b a (Q6 P T.y a3) fun X=>X3 b a X (fun r=>nilCheck P r) fun Y=>X3 b a Y (fun s=>fieldAddr P T.a4 s 1) fun Z=>X3 b a Z (fun t=>Q6 P T.a7 t) fun aa=>X3 b a aa (fun u=>lookup P T.a7 u aj false) fun ar=> ∀B r s t u C w,a w->aq B w->X r w->Y s w->Z t w->aa u w->ar C w->U2 P B [C] w fun ax w=>V6 35 x4 w c) (Q6 P T.a0 a2 w fun ak w=>buildSlice P T.a0 1 [(0,v)] w fun al w=>U7 P .append [T.a0,T.a0] T.a0 [false,false] [ak,al] w fun am w=>J9 P T.a0 a2 am w fun _u w=>K (.tuple #[]) w))
theorem Na (h:Zb a0 a1 a2 a3 a4 w K):Q0 P F.a1 [a0,a1,a2,a3,a4] w K:=zr Kx Tryz.func113 h
def Q04:M0:=Y3 6++[some ([7],[7,10,11,12,13,14,15,16,17,18,19,20,21]),none,none,none,none]
def Ds:L4:=fun n o w K=>box P T.y n w fun d w=>box P T.f o w fun b w=>T1 P T.a0 w fun c w=>T1 P T.av w fun a w=>C1 P (.func F.a1) [] [b,c,d,a] w fun q w=>J9 P T.av a q w fun _u w=>Q6 P T.f b w fun r w=>lp (α:=Value) r w fun e m s w=>Q6 P T.y d w fun f w=>nilCheck P f w fun g w=>Y1 T.a4 T.i g 0 w fun h w=>Y2 T.i h w fun i w=>X5 .lss T.f 10 15 m i w fun j w=>X1 j (Q6 P T.av a w fun k w=>U2 P k [m] w fun p w=>V6 17 m w e) (Q6 P T.a0 c w fun l w=>K l w)
theorem Q0v (h:Ds a0 a1 w K):Q0 P F.bm [a0,a1] w K:=zr Q04 Tryz.func74 h
def Uz:M0:=[none,some ([2,3],[2,3,7,8,9,10,11,12,13,14,15,16,17,18,19,20,21,22,23,24,25,26,27]),none,none,none]
def Qh:D3:=fun f w K=>Y2 T.i f w fun r w=>X4 .sub T.f 5 r 1 w fun s w=>lp (α:=Value×Value) ((.int .i64 0),s) w fun a b u w=>X5 .lss T.f 7 8 b.1 b.2 w fun t w=>X1 t (dr w fun k e=>Y5 k e (indexAddr P T.i f b.2) fun i=>Y5 k e (indexAddr P T.i f b.1) fun j=>X3 k e i (fun c=>Q6 P T.b c) fun p=>X3 k e j (fun d=>Q6 P T.b d) fun q=> ∀c d g h w,e w->i c w->j d w->p g w->q h w->indexAddr P T.i f b.1 w fun n w=>J9 P T.b n g w fun _u w=>indexAddr P T.i f b.2 w fun o w=>J9 P T.b o h w fun _u w=>X4 .add T.f 10 b.1 1 w fun l w=>X4 .sub T.f 12 b.2 1 w fun m w=>a (l,m) w) (K (.tuple #[]) w)
theorem Va (h:Qh a0 w K):Q0 P F.r [a0] w K:=zr Uz Tryz.func135 h
def Q1k:M0:=[none,none,none,none,some ([5,6],[5,6,8,9,10,11,12,13,14,15,16,17,18,19,20])]++Y3 5
def Hs:L4:=fun c j w K=>lp (α:=Value×Value) ((.slice none 0 0),j) w fun a b l w=>Q0 P F.k [c,b.2] w fun d w=>X1 d (Q0 P F.h [c,b.2] w fun g w=>buildSlice P T.i 1 [(0,g)] w fun h w=>U7 P .append [T.i,T.i] T.i [false,false] [b.1,h] w fun i w=>Q0 P F.h [c,b.2] w fun e w=>Qs P T.b e 1 w fun f w=>a (i,f) w) (Q0 P F.r [b.1] w fun k w=>K b.1 w)
theorem Q1B (h:Hs a0 a1 w K):Q0 P F.aO [a0,a1] w K:=zr Q1k Tryz.func96 h
def Pz:M0:=[none,none,none,none,some ([5,12],[5,7,12,13,14,15,16,17,18,19,20])]++Y3 5
def Of:L4:=fun k l w K=>Q0 P F.aO [k,l] w fun c w=>Y2 T.i c w fun e w=>lp (α:=Value×Value) ((.slice none 0 0),(.int .i64 0)) w fun a d m w=>X5 .lss T.f 12 11 d.2 e w fun f w=>X1 f (V0 T.i T.b c d.2 w fun g w=>M9 T.b g w fun b w=>Y1 T.b T.k b 6 w fun h w=>U7 P .append [T.k,T.k] T.k [false,false] [d.1,h] w fun i w=>X4 .add T.f 12 d.2 1 w fun j w=>a (i,j) w) (K d.1 w)
theorem Ti (h:Of a0 a1 w K):Q0 P F.a5 [a0,a1] w K:=zr Pz Tryz.func49 h
def Mq:L4:=fun b c w K=>box P T.n b w fun a w=>Y1 T.n T.c a 0 w fun d w=>Q6 P T.c c w fun e w=>X5 .eql T.c 5 6 d e w fun f w=>K f w
theorem Pb (h:Mq a0 a1 w K):Q0 P F.ci [a0,a1] w K:=zr (Y3 2) Tryz.func161 h
def Dm:Yg:=fun d e f w K=>box P T.c f w fun a w=>Q0 P F.a5 [d,e] w fun g w=>C1 P (.func F.ci) [] [a] w fun b w=>Q0 P F.j [g,b] w fun c w=>K c w
theorem Q0q (h:Dm a0 a1 a2 w K):Q0 P F.bj [a0,a1,a2] w K:=zr (Y3 2) Tryz.func114 h
def Zi:L4:=fun a b w K=>nilCheck P a w fun c w=>V0 T.ai T.q c b w fun d w=>K d w
theorem Hi (h:Zi a0 a1 w K):Q0 P F.az [a0,a1] w K:=zr (Y3 2) Tryz.func199 h
def Fx:M0:=[none,some ([0],[0,5,6,7,8,9,10,11,12,13,14,15,16,17,18,19,20]),some ([0],[0,5,6,7,8,9,10,11,12,13,14,15,16,17,18,19,20])]++Y3 5
def Wm:L4:=fun l m w K=>jn (α:=Value) w (fun k w=>lp (α:=Value) l w fun a b n w=>Y2 T.c b w fun o w=>X4 .gtr T.f 6 o 0 w fun p w=>X1 p (Y2 T.c b w fun c w=>X4 .sub T.f 11 c 1 w fun d w=>K0 P T.c b d w fun e w=>Q0 P F.az [m,e] w fun f w=>V4 P .not f w fun g w=>X1 g (k b w) (Y2 T.c b w fun h w=>X4 .sub T.f 18 h 1 w fun i w=>G5 P T.c b none (some i) none w fun j w=>a j w)) (k b w)) fun q n w=>K q w
theorem Gk (h:Wm a0 a1 w K):Q0 P F.ap [a0,a1] w K:=zr Fx Tryz.func172 h
def Rk:L4:=fun d c w K=>V2 .eql T.c 7 d #[] w fun t w=>X6 t false c w fun e w=>Q1 t false w (V2 .eql T.c 10 e #[]) fun f w=>pick P t (.bool true) f w fun g w=>X1 g (K d w) (Y2 T.c c w fun h w=>X4 .eql T.f 15 h 1 w fun a w=>X6 a true c w fun i w=>Q1 a true w (K0 P T.c i (.int .i64 0)) fun j w=>Q1 a true w (Z2 P .lss T.a9 (.tmp 19) (.const (.int .u8 128)) j (.int .u8 128)) fun k w=>pick P a k (.bool false) w fun l w=>X1 l (K0 P T.c c (.int .i64 0) w fun m w=>Q0 P F.d1 [d,m] w fun n w=>K n w) (Q0 P F.cq [c] w fun o w=>D2 o w fun p q w=>M9 T.ai p w fun b w=>X1 q (Q0 P F.ap [d,b] w fun r w=>K r w) (Q0 P F.cY [d,c] w fun s w=>K s w)))
theorem Q1S (h:Rk a0 a1 w K):Q0 P F.bJ [a0,a1] w K:=zr (Y3 12) Tryz.func131 h
def Hq:L4:=fun l c w K=>V2 .eql T.c 6 c #[110,117,108,108] w fun m w=>X1 m (K (.bool true) w) (Q0 P F.bJ [c,(.string ⟨#[91,93]⟩)] w fun k w=>Q0 P F.a2 [c] w fun a w=>X6 a true k w fun d w=>Q1 a true w (Q0 P F.aL [d]) fun e w=>X6 a true e w fun b w=>X6 b false l w fun f w=>X6 b false k w fun g w=>Q1 b false w (Q0 P F.k [f,g]) fun h w=>Q1 a true w (pick P b (.bool true) h) fun i w=>pick P a i (.bool false) w fun j w=>K j w)
theorem Q1z (h:Hq a0 a1 w K):Q0 P F.ae [a0,a1] w K:=zr (Y3 6) Tryz.func89 h
def Wh:L4:=fun c d w K=>V2 .neq T.c 4 c #[110,117,108,108] w fun a w=>Q1 a true w (Q6 P T.y d) fun e w=>X6 a true c w fun f w=>Q1 a true w (Q0 P F.ae [e,f]) fun g w=>pick P a g (.bool false) w fun b w=>K b w
theorem Gf (h:Wh a0 a1 w K):Q0 P F.am [a0,a1] w K:=zr (Y3 2) Tryz.func115 h
def Wi:L4:=fun a b w K=>Q6 P T.ab b w fun c w=>U2 P c [a] w fun d w=>V4 P .not d w fun e w=>K e w
theorem Gg (h:Wi a0 a1 w K):Q0 P F.an [a0,a1] w K:=zr (Y3 2) Tryz.func116 h
def Q2d:D3:=fun q w K=>box P T.d q w fun a w=>dr w fun c b=>Y5 c b (fieldAddr P T.d a 1) fun l=>Y5 c b (fieldAddr P T.d a 2) fun p=>X3 c b l (fun e=>Q6 P T.h e) fun m=>X3 c b m (fun f=>Q0 P F.cX [f,(.string ⟨#[44]⟩)]) fun n=>X3 c b n (fun g=>Z2 P .add T.c (.const (.string ⟨#[40]⟩)) (.tmp 5) (.string ⟨#[40]⟩) g) fun o=>X3 c b o (fun h=>V2 .add T.c 6 h #[41]) fun r=>X3 c b p (fun i=>Q6 P T.c i) fun s=> ∀e i f g h j k w,b w->l e w->p i w->m f w->n g w->o h w->r j w->s k w->X5 .add T.c 7 9 j k w fun d w=>K d w
theorem Q8v (h:Q2d a0 w K):Q0 P F.cj [a0] w K:=zr (Y3 2) Tryz.func120 h
def Ul:zV4:=fun W V X Y w K=>box P T.d W w fun a w=>Q6 P T.z V w fun Z w=>Y1 T.d T.c a 0 w fun C w=>lookup P T.z Z C true w fun D w=>D2 D w fun E d w=>dr w fun c b=>Y5 c b (fieldAddr P T.d a 0) fun r=>Y5 c b (fieldAddr P T.d a 0) fun t=>Y5 c b (fieldAddr P T.b X 0) fun y=>Y5 c b (Q6 P T.z V) fun n=>X3 c b r (fun f=>Q6 P T.c f) fun s=>Y5 c b (Q6 P T.z Y) fun Q=>X3 c b t (fun h=>Q6 P T.c h) fun R=>Y5 c b (Q6 P T.d a) fun u=>X3 c b u (fun i=>Q0 P F.cj [i]) fun v=>X3 c b y (fun k=>Q6 P T.c k) fun U=>L1 c b n s (fun e g=>mapEntry P T.z e g) fun z=>X3 c b z (fun l=>ext P l 1) fun A=>Qi c b n A v (fun e m j=>entryStore P T.z e m j) fun B=> ∀f h k e g o p i j q l m O w,b w->r f w->t h w->y k w->n e w->s g w->Q o w->R p w->u i w->v j w->U q w->z l w->A m w->B O w->mapUpdate P T.z o p q w fun _u w=>X6 d true E w fun H w=>Q1 d true w (Q6 P T.d a) fun J w=>Q1 d true w (Q0 P F.cj [J]) fun L w=>Q1 d true w (X5 .neq T.c 29 31 H L) fun M w=>pick P d M (.bool false) w fun N w=>K N w
theorem Cs (h:Ul a0 a1 a2 a3 w K):Q0 P F.aF [a0,a1,a2,a3] w K:=zr (Y3 4) Tryz.func119 h
def Wj:Yg:=fun b c d w K=>box P T.b b w fun a w=>Y1 T.b T.j a 7 w fun e w=>C1 P (.func F.aF) [] [c,a,d] w fun f w=>Q0 P F.a [e,f] w fun g w=>K g w
theorem Gh (h:Wj a0 a1 a2 w K):Q0 P F.aV [a0,a1,a2] w K:=zr (Y3 2) Tryz.func117 h
def Q2j:L4:=fun b c w K=>box P T.d b w fun a w=>Y1 T.d T.c a 0 w fun d w=>Q6 P T.c c w fun e w=>X5 .eql T.c 5 6 d e w fun f w=>K f w
theorem Q8B (h:Q2j a0 a1 w K):Q0 P F.d2 [a0,a1] w K:=zr (Y3 2) Tryz.func197 h
def Q51:L4:=fun k l w K=>box P T.b k w fun b w=>box P T.c l w fun a w=>T1 P T.d w fun d w=>Y1 T.b T.j b 7 w fun m w=>C1 P (.func F.d2) [] [a] w fun n w=>Q0 P F.g [m,n] w fun c w=>X4 .lss T.f 11 c 0 w fun f w=>X1 f (B2 P T.d [] w fun g w=>J9 P T.d d g w fun _u w=>Z8 P T.d d w fun e=>K (.tuple #[e,(.bool false)]) w) (Y1 T.b T.j b 7 w fun h w=>V0 T.j T.d h c w fun i w=>Q0 P F.cc [i] w fun j w=>J9 P T.d d j w fun _u w=>Z8 P T.d d w fun e=>K (.tuple #[e,(.bool true)]) w)
theorem X1u (h:Q51 a0 a1 w K):Q0 P F.cK [a0,a1] w K:=zr (Y3 6) Tryz.func164 h
def Q1j:M0:=[none,none,none,some ([19],[6,8,10,11,12,13,14,15,19,20,21,22,23,24,25,26,27,28,29,30,31,32,33,34,35,36,37,38,39,40,41,42,43,44,45,46,47])]++Y3 12
def Hr:Yg:=fun n H E w K=>box P T.b H w fun e w=>T1 P T.d w fun f w=>Y1 T.b T.h e 2 w fun i w=>Y2 T.h i w fun o w=>lp (α:=Value) (.int .i64 0) w fun a B J w=>X5 .lss T.f 19 18 B o w fun p w=>X1 p (V0 T.h T.c i B w fun d w=>Q0 P F.h [n,d] w fun q w=>Q0 P F.cK [q,E] w fun r w=>D2 r w fun s t w=>M9 T.d s w fun b w=>X1 t (dr w fun m g=>Y5 m g (Q6 P T.d b) fun C=> ∀j w,g w->C j w->J9 P T.d f j w fun _u w=>Z8 P T.d f w fun h=>K (.tuple #[d,h,(.bool true)]) w) (Q0 P F.h [n,d] w fun u w=>Q0 P F.aN [n,u,E] w fun k w=>D2 k w fun v y w=>ext P k 2 w fun z w=>M9 T.d y w fun c w=>X1 z (dr w fun m g=>Y5 m g (Q6 P T.d c) fun D=> ∀l w,g w->D l w->J9 P T.d f l w fun _u w=>Z8 P T.d f w fun h=>K (.tuple #[v,h,(.bool true)]) w) (V6 19 B w a))) (B2 P T.d [] w fun A w=>J9 P T.d f A w fun _u w=>Z8 P T.d f w fun h=>K (.tuple #[(.string ⟨#[]⟩),h,(.bool false)]) w)
theorem Q1A (h:Hr a0 a1 a2 w K):Q0 P F.aN [a0,a1,a2] w K:=zr Q1j Tryz.func165 h
def Ta:M0:=Y3 5++[some ([26],[6,8,11,12,13,26,27,28,29,30,31,32,33,34,35,36,37,38,39,40])]++Y3 9++[some ([43],[6,8,15,16,17,18,43,44,45,46,47,48,49,50,51,52,53,54,55,56,57,58])]++Y3 8
def Og:Yg:=fun U W V w K=>T1 P T.d w fun k w=>Q0 P F.aO [U,W] w fun c w=>Q0 P F.r [c] w fun Y w=>Y2 T.i c w fun s w=>lp (α:=Value) (.int .i64 0) w fun d N X w=>X5 .lss T.f 26 25 N s w fun t w=>X1 t (V0 T.i T.b c N w fun u w=>M9 T.b u w fun a w=>Q6 P T.b a w fun v w=>Q0 P F.cK [v,V] w fun y w=>D2 y w fun z A w=>M9 T.d z w fun f w=>X1 A (dr w fun l h=>Y5 l h (fieldAddr P T.b a 0) fun r=>X3 l h r (fun i=>Q6 P T.c i) fun O=>Y5 l h (Q6 P T.d f) fun Q=> ∀i n o w,h w->r i w->O n w->Q o w->J9 P T.d k o w fun _u w=>Z8 P T.d k w fun m=>K (.tuple #[n,m,(.bool true)]) w) (V6 26 N w d)) (Y2 T.i c w fun B w=>lp (α:=Value) (.int .i64 0) w fun b j X w=>X5 .lss T.f 43 42 j B w fun C w=>X1 C (V0 T.i T.b c j w fun D w=>M9 T.b D w fun e w=>Q6 P T.b e w fun E w=>Q0 P F.aN [U,E,V] w fun p w=>D2 p w fun H J w=>ext P p 2 w fun L w=>M9 T.d J w fun g w=>X1 L (dr w fun l h=>Y5 l h (Q6 P T.d g) fun R=> ∀q w,h w->R q w->J9 P T.d k q w fun _u w=>Z8 P T.d k w fun m=>K (.tuple #[H,m,(.bool true)]) w) (V6 43 j w b)) (B2 P T.d [] w fun M w=>J9 P T.d k M w fun _u w=>Z8 P T.d k w fun m=>K (.tuple #[(.string ⟨#[]⟩),m,(.bool false)]) w))
theorem Tj (h:Og a0 a1 a2 w K):Q0 P F.bb [a0,a1,a2] w K:=zr Ta Tryz.func121 h
def Kw:M0:=[none,none,none,some ([21],[4,6,21,22,23,24,25,26,27,28,29,30,31,32])]++Y3 9++[some ([37],[4,9,37,38,39,40,41,42,43,44,45,46])]++Y3 8++[some ([50],[4,11,50,51,52,53,54,55,56,57,58,59,60,61,62,63,64,65,66,67,68,69,70])]++Y3 15++[some ([],[4,14,15,16,17,82,83,84,85,86,87,88,89,90,91,92,93,94,95,96,97,98,99,100])]++Y3 7
def Mt:L4:=fun a0 a1 w K=>box P T.y a0 w fun t w=>box P T.b a1 w fun h w=>Y1 T.b T.k h 6 w fun n w=>Y2 T.k n w fun y w=>lp (α:=Value) (.int .i64 0) w fun d x3 u w=>X5 .lss T.f 21 20 x3 y w fun z w=>X1 z (V0 T.k T.n n x3 w fun A w=>M9 T.n A w fun t6 w=>Q6 P T.y t w fun B w=>Y1 T.b T.c h 1 w fun C w=>Y1 T.n T.c t6 0 w fun D w=>Q0 P F.bj [B,C,D] w fun E w=>X4 .geq T.f 30 E 0 w fun H w=>X1 H (K (.int .i64 64) w) (V6 21 x3 w d)) (C1 P (.func F.am) [] [t] w fun J w=>M9 T.ab J w fun t7 w=>Y1 T.b T.k h 6 w fun o w=>Y2 T.k o w fun L w=>lp (α:=Value) (.int .i64 0) w fun a j u w=>X5 .lss T.f 37 36 j L w fun M w=>X1 M (V0 T.k T.n o j w fun N w=>M9 T.n N w fun t9 w=>Q6 P T.ab t7 w fun O w=>Y1 T.n T.c t9 1 w fun Q w=>U2 P O [Q] w fun R w=>V4 P .not R w fun U w=>X1 U (K (.int .i64 65) w) (V6 37 j w a)) (Y1 T.b T.j h 7 w fun p w=>Y2 T.j p w fun V w=>lp (α:=Value) (.int .i64 0) w fun b k u w=>X5 .lss T.f 50 49 k V w fun W w=>X1 W (V0 T.j T.d p k w fun X w=>M9 T.d X w fun f w=>Q6 P T.ab t7 w fun Y w=>Y1 T.d T.c f 2 w fun Z w=>U2 P Y [Z] w fun aa w=>V4 P .not aa w fun i w=>Z3 i true w T.d T.c f 2 fun ab w=>Q1 i true w (V2 .neq T.c 61 ab #[]) fun ac w=>pick P i ac (.bool false) w fun e w=>Z3 e false w T.d T.h f 1 fun ad w=>Q1 e false w (C1 P (.func F.an) [] [t7]) fun ae w=>Q1 e false w (Q0 P F.c [ad,ae]) fun af w=>pick P e (.bool true) af w fun ag w=>X1 ag (K (.int .i64 65) w) (V6 50 k w b)) (Nn P T.z none w fun ai w=>Nn P T.z none w fun aj w=>T1 P T.z w fun m w=>T1 P T.z w fun g w=>J9 P T.z m ai w fun _u w=>J9 P T.z g aj w fun _u w=>Q6 P T.y t w fun ak w=>Y1 T.b T.c h 0 w fun al w=>C1 P (.func F.aV) [] [m,g] w fun am w=>Q0 P F.y [ak,al,am] w fun an w=>X1 an (K (.int .i64 66) w) (Y1 T.b T.q h 4 w fun ao w=>X1 ao (K (.int .i64 0) w) (Q6 P T.z g w fun ap w=>rng P T.z ap w fun q w=>lp (α:=Unit) () w fun c ba u w=>W3 P q false T.x w fun aq w=>ext P aq 0 w fun ar w=>X1 ar (X11 P q w fun av w=>ext P av 0 w fun aw w=>Q6 P T.y t w fun ax w=>Y1 T.b T.c h 0 w fun ay w=>Q0 P F.bb [ax,ay,aw] w fun r w=>D2 r w fun a9 az w=>ext P r 2 w fun a2 w=>M9 T.d az w fun v w=>V4 P .not a2 w fun s w=>Z3 s false w T.d T.q v 3 fun a3 w=>pick P s (.bool true) a3 w fun l w=>X1 l (K (.int .i64 67) w) (c () w)) (K (.int .i64 0) w))))))
theorem Pd (h:Mt a0 a1 w K):Q0 P F.b6 [a0,a1] w K:=zr Kw Tryz.func75 h
def X1h:M0:=Y3 5++[some ([30],[2,3,4,7,8,9,30,31,32,33,34,35,36,37,38,39,40,41,42,43,44,45,46,47,48,49,50,51,52])]++Y3 10++[some ([58],[2,3,4,10,11,58,59,60,61,62,63,64,65,66,67,68,69,70,71,72,73,74,75,76,77])]++Y3 9++[some ([85],[2,3,4,12,13,14,85,86,87,88,89,90,91,92,93,94,95,96,97])]++Y3 13++[some ([114],[2,3,4,17,18,114,115,116,117,118,119,120,121,122,123,124,125,126,127,128,129,130,131,132,133])]++Y3 8
def Q50:D3:=fun a0 w K=>Q0 P F.cP [] w fun aj w=>Nn P T.a7 none w fun ak w=>B2 P T.a4 [(0,aj),(1,ak)] w fun al w=>box P T.a4 al w fun a w=>nilCheck P a w fun am w=>Y1 T.a4 T.i am 0 w fun an w=>Y2 T.i an w fun g w=>Y2 T.i a0 w fun ao w=>lp (α:=Value) (.int .i64 0) w fun i x5 d_ w=>X5 .lss T.f 30 29 x5 ao w fun ap w=>X1 ap (V0 T.i T.b a0 x5 w fun aq w=>M9 T.b aq w fun t8 w=>Q6 P T.b t8 w fun ar w=>Q0 P F.cE [ar] w fun O w=>X4 .neq T.u 37 O 0 w fun av w=>X1 av (K (.tuple #[(.pointer none),x5,O]) w) (dr w fun c b=>Y5 c b (nilCheck P a) fun Z=>X3 c b Z (fun o=>fieldAddr P T.a4 o 0) fun aa=>X3 c b aa (fun p=>Q6 P T.i p) fun bf=>Y5 c b (Q6 P T.b t8) fun ab=>X3 c b ab (fun q=>Q0 P F.cI [q]) fun ac=>X3 c b ac (fun r=>buildSlice P T.i 1 [(0,r)]) fun bg=> ∀o p Q q r R w,b w->Z o w->aa p w->bf Q w->ab q w->ac r w->bg R w->U7 P .append [T.i,T.i] T.i [false,false] [Q,R] w fun aw w=>nilCheck P a w fun ax w=>fieldAddr P T.a4 ax 0 w fun ay w=>J9 P T.i ay aw w fun _u w=>V6 30 x5 w i)) (nilCheck P a w fun az w=>Y1 T.a4 T.i az 0 w fun U w=>Y2 T.i U w fun a1 w=>lp (α:=Value) (.int .i64 0) w fun d h d_ w=>X5 .lss T.f 58 57 h a1 w fun a2 w=>X1 a2 (V0 T.i T.b U h w fun a3 w=>M9 T.b a3 w fun C w=>Y1 T.b T.c C 0 w fun a4 w=>Q0 P F.k [a,a4] w fun a5 w=>X1 a5 (X5 .sub T.f 67 68 h g w fun a6 w=>K (.tuple #[(.pointer none),a6,(.int .i64 60)]) w) (dr w fun c b=>Y5 c b (nilCheck P a) fun ad=>X3 c b ad (fun s=>fieldAddr P T.a4 s 1) fun ae=>Y5 c b (fieldAddr P T.b C 0) fun af=>X3 c b ae (fun t=>Q6 P T.a7 t) fun bh=>X3 c b af (fun u=>Q6 P T.c u) fun bi=> ∀s t u V W w,b w->ad s w->ae t w->af u w->bh V w->bi W w->mapUpdate P T.a7 V W h w fun _u w=>V6 58 h w d)) (nilCheck P a w fun a7 w=>Y1 T.a4 T.i a7 0 w fun a8 w=>G5 P T.i a8 (some g) none none w fun X w=>Y2 T.i X w fun a9 w=>lp (α:=Value) (.int .i64 0) w fun e j d_ w=>X5 .lss T.f 85 84 j a9 w fun ba w=>X1 ba (V0 T.i T.b X j w fun bb w=>M9 T.b bb w fun ai w=>Q6 P T.b ai w fun bc w=>Q0 P F.bc [a,bc] w fun Y w=>X4 .neq T.u 93 Y 0 w fun bd w=>X1 bd (K (.tuple #[(.pointer none),j,Y]) w) (V6 85 j w e)) (nilCheck P a w fun be w=>Y1 T.a4 T.i be 0 w fun y w=>G5 P T.i y (some g) none none w fun z w=>C1 P (.func F.bl) [a] [] w fun A w=>Q0 P F.o [z,A] w fun k w=>X4 .geq T.f 107 k 0 w fun B w=>X1 B (K (.tuple #[(.pointer none),k,(.int .i64 63)]) w) (Q0 P F.bm [a,g] w fun l w=>Y2 T.a0 l w fun D w=>lp (α:=Value) (.int .i64 0) w fun f v d_ w=>X5 .lss T.f 114 113 v D w fun E w=>X1 E (V0 T.a0 T.f l v w fun m w=>nilCheck P a w fun H w=>Y1 T.a4 T.i H 0 w fun J w=>V0 T.i T.b J m w fun L w=>Q0 P F.b6 [a,L] w fun n w=>X4 .neq T.u 127 n 0 w fun M w=>X1 M (X5 .sub T.f 129 130 m g w fun N w=>K (.tuple #[(.pointer none),N,n]) w) (V6 114 v w f)) (K (.tuple #[a,(.int .i64 0),(.int .i64 0)]) w)))))
theorem X1t (h:Q50 a0 w K):Q0 P F.cW [a0] w K:=zr X1h Tryz.func36 h
def Mw:zV0:=fun w K=>B2 P T.w [(0,(.string ⟨#[105,110,116]⟩)),(1,(.int .i64 1))] w fun n w=>B2 P T.w [(0,(.string ⟨#[114,101,116,117,114,110]⟩))] w fun o w=>buildSlice P T.r 2 [(0,n),(1,o)] w fun p w=>B2 P T.n [(0,(.string ⟨#[120]⟩)),(1,(.string ⟨#[105,110,116]⟩))] w fun q w=>B2 P T.n [(0,(.string ⟨#[110,101,120,116]⟩)),(1,(.string ⟨#[65]⟩))] w fun r w=>buildSlice P T.k 2 [(0,q),(1,r)] w fun s w=>buildSlice P T.h 2 [(0,(.string ⟨#[105,110,116]⟩)),(1,(.string ⟨#[65]⟩))] w fun t w=>B2 P T.d [(0,(.string ⟨#[102]⟩)),(1,t),(2,(.string ⟨#[105,110,116]⟩)),(4,(.int .i64 3)),(5,p)] w fun a w=>B2 P T.w [(0,(.string ⟨#[114,101,116,117,114,110]⟩))] w fun b w=>buildSlice P T.r 1 [(0,b)] w fun c w=>B2 P T.d [(0,(.string ⟨#[103]⟩)),(4,(.int .i64 1)),(5,c)] w fun d w=>buildSlice P T.j 2 [(0,a),(1,d)] w fun e w=>B2 P T.b [(0,(.string ⟨#[65]⟩)),(1,(.string ⟨#[79,98,106,101,99,116]⟩)),(6,s),(7,e)] w fun f w=>buildSlice P T.h 1 [(0,(.string ⟨#[73]⟩))] w fun g w=>B2 P T.n [(0,(.string ⟨#[108]⟩)),(1,(.string ⟨#[65,91,93]⟩))] w fun h w=>buildSlice P T.k 1 [(0,h)] w fun i w=>B2 P T.b [(0,(.string ⟨#[66]⟩)),(1,(.string ⟨#[65]⟩)),(2,g),(6,i)] w fun j w=>B2 P T.b [(0,(.string ⟨#[73]⟩)),(1,(.string ⟨#[79,98,106,101,99,116]⟩)),(3,(.bool true)),(4,(.bool true))] w fun k w=>B2 P T.b [(0,(.string ⟨#[68]⟩)),(1,(.string ⟨#[79,98,106,101,99,116]⟩)),(4,(.bool true))] w fun l w=>buildSlice P T.i 4 [(0,f),(1,j),(2,k),(3,l)] w fun m w=>K m w
theorem Pg (h:Mw w K):Q0 P F.aD [] w K:=zr (Y3 3) Tryz.func37 h
def Q0d:M0:=Y3 5++[some ([1,3],[1,3,10,11,12,13,14,15,16,17,18,19,20,21,22,23]),none,none,none,none]
def Ei:zV0:=fun w K=>B2 P T.b [(0,(.string ⟨#[79,98,106,101,99,116]⟩))] w fun k w=>B2 P T.n [(0,(.string ⟨#[119,104,97,116]⟩)),(1,(.string ⟨#[116,101,120,116]⟩))] w fun l w=>buildSlice P T.k 1 [(0,l)] w fun m w=>B2 P T.b [(0,(.string ⟨#[70,97,117,108,116]⟩)),(1,(.string ⟨#[79,98,106,101,99,116]⟩)),(6,m)] w fun n w=>buildSlice P T.i 2 [(0,k),(1,n)] w fun o w=>buildSlice P T.h 6 [(0,(.string ⟨#[78,117,108,108,70,97,117,108,116]⟩)),(1,(.string ⟨#[73,110,100,101,120,70,97,117,108,116]⟩)),(2,(.string ⟨#[67,97,115,116,70,97,117,108,116]⟩)),(3,(.string ⟨#[90,101,114,111,70,97,117,108,116]⟩)),(4,(.string ⟨#[82,111,111,109,70,97,117,108,116]⟩)),(5,(.string ⟨#[67,97,108,108,70,97,117,108,116]⟩))] w fun j w=>lp (α:=Value×Value) (o,(.int .i64 0)) w fun a b p w=>Y2 T.h j w fun c w=>X5 .lss T.f 10 12 b.2 c w fun d w=>X1 d (V0 T.h T.c j b.2 w fun f w=>B2 P T.b [(0,f),(1,(.string ⟨#[70,97,117,108,116]⟩)),(5,(.bool true))] w fun g w=>buildSlice P T.i 1 [(0,g)] w fun h w=>U7 P .append [T.i,T.i] T.i [false,false] [b.1,h] w fun i w=>X4 .add T.f 14 b.2 1 w fun e w=>a (i,e) w) (K b.1 w)
theorem Q0L (h:Ei w K):Q0 P F.bs [] w K:=zr Q0d Tryz.func76 h
def Q1q:M0:=[none,none,none,some ([3],[2,3,4,5,6,7,8,9,10,11,12,13,14,15,16,17,18,19,20,21,22,23,24,25,26,27,28,29,30,31,32,33,34,35,36,37])]++Y3 7
def Hz:D3:=fun L w K=>box P T.b L w fun a w=>lp (α:=Value) (.int .i64 0) w fun c J Q w=>Y1 T.b T.j a 7 w fun M w=>Y2 T.j M w fun N w=>X5 .lss T.f 5 8 J N w fun O w=>X1 O (Y1 T.b T.j a 7 w fun i w=>V0 T.j T.d i J w fun j w=>M9 T.d j w fun b w=>Y1 T.d T.h b 1 w fun k w=>Y2 T.h k w fun l w=>X4 .gtr T.f 19 l 32 w fun d w=>Z3 d false w T.d T.t b 6 fun m w=>Q1 d false w (Y2 T.t m) fun n w=>Q1 d false w (X4 .gtr T.f 24 n 32) fun o w=>pick P d (.bool true) o w fun e w=>Z3 e false w T.d T.r b 5 fun p w=>Q1 e false w (Y2 T.r p) fun q w=>Q1 e false w (X4 .gtr T.f 30 q 200) fun r w=>pick P e (.bool true) r w fun h w=>Z3 h false w T.d T.f b 4 fun s w=>Q1 h false w (X4 .gtr T.f 35 s 64) fun t w=>pick P h (.bool true) t w fun u w=>X1 u (K (.bool true) w) (V6 10 J w c)) (Y1 T.b T.h a 2 w fun v w=>Y2 T.h v w fun y w=>X4 .gtr T.f 40 y 32 w fun f w=>Z3 f false w T.b T.k a 6 fun z w=>Q1 f false w (Y2 T.k z) fun A w=>Q1 f false w (X4 .gtr T.f 45 A 32) fun B w=>pick P f (.bool true) B w fun g w=>Z3 g false w T.b T.j a 7 fun C w=>Q1 g false w (Y2 T.j C) fun D w=>Q1 g false w (X4 .gtr T.f 51 D 32) fun E w=>pick P g (.bool true) E w fun H w=>K H w)
theorem Q1I (h:Hz a0 w K):Q0 P F.bE [a0] w K:=zr Q1q Tryz.func122 h
def Q1n:M0:=[none,none,none,some ([0,3],[0,3,4,5,6,7,8,9,10,11,12,13,14,15,16,17,18,19,20,21]),none,none,none,none]
def Hv:D3:=fun m w K=>lp (α:=Value×Value) (m,(.int .i64 0)) w fun a c q w=>Y2 T.c c.1 w fun n w=>X4 .geq T.f 5 n 2 w fun b w=>X6 b true c.1 w fun o w=>X6 b true c.1 w fun p w=>Q1 b true w (Y2 T.c p) fun d w=>Q1 b true w (X4 .sub T.f 10 d 2) fun e w=>Q1 b true w (G5 P T.c o (some e) none none) fun f w=>Q1 b true w (V2 .eql T.c 12 f #[91,93]) fun g w=>pick P b g (.bool false) w fun h w=>X1 h (X4 .add T.f 15 c.2 1 w fun i w=>Y2 T.c c.1 w fun j w=>X4 .sub T.f 19 j 2 w fun k w=>G5 P T.c c.1 none (some k) none w fun l w=>a (l,i) w) (K c.2 w)
theorem Q1E (h:Hv a0 w K):Q0 P F.a3 [a0] w K:=zr Q1n Tryz.func87 h
def Q08:M0:=[none,none,none,some ([4],[4,5,6,7]),none,none,none,none]
def Eb:D3:=fun b w K=>jn (α:=Value) w (fun a w=>V2 .eql T.c 3 b #[105,110,116] w fun c w=>X1 c (a c w) (V2 .eql T.c 3 b #[98,111,111,108] w fun d w=>X1 d (a d w) (V2 .eql T.c 3 b #[116,101,120,116] w fun e w=>a e w))) fun f g w=>X1 f (K (.bool true) w) (K (.bool false) w)
theorem Q0E (h:Eb a0 w K):Q0 P F.z [a0] w K:=zr Q08 Tryz.func128 h
def Q1o:M0:=[none,none,none,some ([3],[2,3,4,5,6,7,8,9,10,11,12,13,14,15,16,17,18,19,20,21,22,23,24,25,26,27,28,29,30,31,32,33,34,35,36,37,38,39,40,41,42,43,44,45,46,47,48,49,50])]++Y3 7
def Hx:D3:=fun g w K=>lp (α:=Value) (.int .i64 0) w fun h j d_ w=>Y2 T.c g w fun t7 w=>X5 .lss T.f 5 7 j t7 w fun t8 w=>X1 t8 (K0 P T.c g j w fun k w=>Z2 P .geq T.a9 (.tmp 13) (.const (.int .u8 97)) k (.int .u8 97) w fun c w=>X6 c true g w fun l w=>X6 c true j w fun m w=>Q1 c true w (K0 P T.c l m) fun n w=>Q1 c true w (Z2 P .leq T.a9 (.tmp 18) (.const (.int .u8 122)) n (.int .u8 122)) fun o w=>pick P c o (.bool false) w fun a w=>X6 a false g w fun p w=>X6 a false j w fun q w=>Q1 a false w (K0 P T.c p q) fun r w=>Q1 a false w (Z2 P .geq T.a9 (.tmp 24) (.const (.int .u8 65)) r (.int .u8 65)) fun s w=>X6 a false s w fun d w=>X6 d true g w fun t w=>X6 d true j w fun u w=>Q1 d true w (K0 P T.c t u) fun v w=>Q1 d true w (Z2 P .leq T.a9 (.tmp 29) (.const (.int .u8 90)) v (.int .u8 90)) fun y w=>Q1 a false w (pick P d y (.bool false)) fun z w=>pick P a (.bool true) z w fun A w=>V4 P .not A w fun b w=>X6 b true j w fun B w=>Q1 b true w (X4 .eql T.f 36 B 0) fun C w=>X6 b true C w fun e w=>X6 e false g w fun D w=>X6 e false j w fun E w=>Q1 e false w (K0 P T.c D E) fun H w=>Q1 e false w (Z2 P .lss T.a9 (.tmp 41) (.const (.int .u8 48)) H (.int .u8 48)) fun J w=>Q1 b true w (pick P e (.bool true) J) fun L w=>X6 b true L w fun f w=>X6 f false g w fun M w=>X6 f false j w fun N w=>Q1 f false w (K0 P T.c M N) fun O w=>Q1 f false w (Z2 P .gtr T.a9 (.tmp 47) (.const (.int .u8 57)) O (.int .u8 57)) fun Q w=>Q1 b true w (pick P f (.bool true) Q) fun R w=>pick P b R (.bool false) w fun U w=>X1 U (K (.bool false) w) (V6 9 j w h)) (Y2 T.c g w fun V w=>X4 .geq T.f 52 V 1 w fun i w=>X6 i true g w fun W w=>Q1 i true w (Y2 T.c W) fun X w=>Q1 i true w (X4 .leq T.f 56 X 32) fun Y w=>pick P i Y (.bool false) w fun Z w=>K Z w)
theorem Q1G (h:Hx a0 w K):Q0 P F.aQ [a0] w K:=zr Q1o Tryz.func180 h
def Dz:D3:=fun b w K=>Q0 P F.aQ [b] w fun a w=>X6 a true b w fun c w=>Q1 a true w (K0 P T.c c (.int .i64 0)) fun d w=>Q1 a true w (Z2 P .leq T.a9 (.tmp 7) (.const (.int .u8 90)) d (.int .u8 90)) fun e w=>pick P a e (.bool false) w fun f w=>K f w
theorem Q0C (h:Dz a0 w K):Q0 P F.d [a0] w K:=zr (Y3 2) Tryz.func141 h
def Ec:D3:=fun d w K=>Q0 P F.a3 [d] w fun m w=>Y2 T.c d w fun n w=>Z2 P .mul T.f (.const (.int .i64 2)) (.tmp 10) (.int .i64 2) m w fun e w=>X5 .sub T.f 9 11 n e w fun f w=>G5 P T.c d none (some f) none w fun c w=>X4 .leq T.f 14 m 3 w fun a w=>X6 a true c w fun g w=>Q1 a true w (Q0 P F.z [g]) fun h w=>X6 a true h w fun b w=>X6 b false c w fun i w=>Q1 b false w (Q0 P F.d [i]) fun j w=>Q1 a true w (pick P b (.bool true) j) fun k w=>pick P a k (.bool false) w fun l w=>K l w
theorem Q0F (h:Ec a0 w K):Q0 P F.e [a0] w K:=zr (Y3 4) Tryz.func103 h
def Oj:D3:=fun b w K=>Q0 P F.aQ [b] w fun a w=>X6 a true b w fun c w=>Q1 a true w (K0 P T.c c (.int .i64 0)) fun d w=>Q1 a true w (Z2 P .geq T.a9 (.tmp 7) (.const (.int .u8 97)) d (.int .u8 97)) fun e w=>pick P a e (.bool false) w fun f w=>K f w
theorem Tm (h:Oj a0 w K):Q0 P F.v [a0] w K:=zr (Y3 2) Tryz.func166 h
def Dy:L4:=fun c d w K=>Y2 T.c c w fun n w=>X5 .lss T.f 5 7 d n w fun b w=>X6 b true c w fun e w=>X6 b true d w fun f w=>Q1 b true w (K0 P T.c e f) fun g w=>Q1 b true w (Z2 P .geq T.a9 (.tmp 12) (.const (.int .u8 128)) g (.int .u8 128)) fun h w=>pick P b h (.bool false) w fun a w=>X6 a true c w fun i w=>X6 a true d w fun j w=>Q1 a true w (K0 P T.c i j) fun k w=>Q1 a true w (Z2 P .lss T.a9 (.tmp 18) (.const (.int .u8 192)) k (.int .u8 192)) fun l w=>pick P a l (.bool false) w fun m w=>K m w
theorem Q0B (h:Dy a0 a1 w K):Q0 P F.s [a0,a1] w K:=zr (Y3 2) Tryz.func102 h
def Q1m:M0:=[none,none,some ([],[2,4,5,9,10,11,12,13,14,15,16,17,18,19,20,21,22,23,24,25,26,27,28,29,30,31,32,33,34,35,36,37,38,39,40,41,42,43,44,45,46,47,48,49,50,51,52,53,54,55,56,57,58,59,60,61,62,63,64,65,66,67,68,69,70,71,72,73,74,75,76,77,78,79,80,81,82,83,84,85,86,87,88,89,90,91,92,93,94,95,96,97,98,99,100,101,102,103,104,105,106])]++Y3 13
def Hu:D3:=fun c w K=>K0 P T.c c (.int .i64 0) w fun t7 w=>conv P T.a9 T.f t7 w fun f w=>jn (α:=Unit) w (fun J2 w=>X4 .lss T.f 10 f 128 w fun a3 w=>X1 a3 (K (.int .i64 1) w) (X4 .geq T.f 13 f 194 w fun h w=>X6 h true f w fun a4 w=>Q1 h true w (X4 .lss T.f 16 a4 224) fun a5 w=>pick P h a5 (.bool false) w fun i w=>X6 i true c w fun a6 w=>Q1 i true w (Q0 P F.s [a6,(.int .i64 1)]) fun a7 w=>pick P i a7 (.bool false) w fun a8 w=>X1 a8 (K (.int .i64 2) w) (X4 .geq T.f 24 f 224 w fun j w=>X6 j true f w fun a9 w=>Q1 j true w (X4 .lss T.f 27 a9 240) fun ba w=>pick P j ba (.bool false) w fun k w=>X6 k true c w fun bb w=>Q1 k true w (Q0 P F.s [bb,(.int .i64 1)]) fun bc w=>pick P k bc (.bool false) w fun l w=>X6 l true c w fun bd w=>Q1 l true w (Q0 P F.s [bd,(.int .i64 2)]) fun be w=>pick P l be (.bool false) w fun bf w=>X1 bf (dr w fun b a=>Y5 b a (X4 .rem T.f 38 f 16) fun ad=>X3 b a ad (fun m=>X4 .mul T.f 39 m 4096) fun ae=>Y5 b a (K0 P T.c c (.int .i64 1)) fun af=>X3 b a af (fun o=>Z2 P .rem T.a9 (.tmp 42) (.const (.int .u8 64)) o (.int .u8 64)) fun ag=>Y5 b a (K0 P T.c c (.int .i64 2)) fun aj=>X3 b a aj (fun s=>Z2 P .rem T.a9 (.tmp 48) (.const (.int .u8 64)) s (.int .u8 64)) fun ak=>X3 b a ag (fun p=>conv P T.a9 T.f p) fun ah=>X3 b a ah (fun q=>X4 .mul T.f 44 q 64) fun ai=>L1 b a ae ai (fun n r=>X5 .add T.f 40 45 n r) fun bw=>X3 b a ak (fun t=>conv P T.a9 T.f t) fun bx=> ∀m n o p s t q r Z aa w,a w->ad m w->ae n w->af o w->ag p w->aj s w->ak t w->ah q w->ai r w->bw Z w->bx aa w->X5 .add T.f 46 50 Z aa w fun u w=>X4 .geq T.f 52 u 2048 w fun e w=>X6 e true u w fun bg w=>Q1 e true w (X4 .lss T.f 55 bg 55296) fun bh w=>X6 e true bh w fun v w=>X6 v false u w fun bi w=>Q1 v false w (X4 .gtr T.f 58 bi 57343) fun bj w=>Q1 e true w (pick P v (.bool true) bj) fun bk w=>pick P e bk (.bool false) w fun bl w=>X1 bl (K (.int .i64 3) w) (J2 () w)) (X4 .geq T.f 63 f 240 w fun y w=>X6 y true f w fun bm w=>Q1 y true w (X4 .lss T.f 66 bm 245) fun bn w=>pick P y bn (.bool false) w fun z w=>X6 z true c w fun bo w=>Q1 z true w (Q0 P F.s [bo,(.int .i64 1)]) fun bp w=>pick P z bp (.bool false) w fun A w=>X6 A true c w fun bq w=>Q1 A true w (Q0 P F.s [bq,(.int .i64 2)]) fun br w=>pick P A br (.bool false) w fun B w=>X6 B true c w fun bs w=>Q1 B true w (Q0 P F.s [bs,(.int .i64 3)]) fun bu w=>pick P B bu (.bool false) w fun bv w=>X1 bv (dr w fun b a=>Y5 b a (X4 .rem T.f 81 f 8) fun al=>X3 b a al (fun C=>X4 .mul T.f 82 C 262144) fun am=>Y5 b a (K0 P T.c c (.int .i64 1)) fun an=>X3 b a an (fun E=>Z2 P .rem T.a9 (.tmp 85) (.const (.int .u8 64)) E (.int .u8 64)) fun ao=>Y5 b a (K0 P T.c c (.int .i64 2)) fun av=>X3 b a av (fun N=>Z2 P .rem T.a9 (.tmp 91) (.const (.int .u8 64)) N (.int .u8 64)) fun aw=>Y5 b a (K0 P T.c c (.int .i64 3)) fun az=>X3 b a az (fun U=>Z2 P .rem T.a9 (.tmp 97) (.const (.int .u8 64)) U (.int .u8 64)) fun a1=>X3 b a ao (fun H=>conv P T.a9 T.f H) fun ap=>X3 b a ap (fun J=>X4 .mul T.f 87 J 4096) fun aq=>L1 b a am aq (fun D L=>X5 .add T.f 83 88 D L) fun ar=>X3 b a aw (fun O=>conv P T.a9 T.f O) fun ax=>X3 b a ax (fun Q=>X4 .mul T.f 93 Q 64) fun ay=>L1 b a ar ay (fun M R=>X5 .add T.f 89 94 M R) fun bz=>X3 b a a1 (fun V=>conv P T.a9 T.f V) fun b0=> ∀C D E H N O U V J L M Q R ab ac w,a w->al C w->am D w->an E w->ao H w->av N w->aw O w->az U w->a1 V w->ap J w->aq L w->ar M w->ax Q w->ay R w->bz ab w->b0 ac w->X5 .add T.f 95 99 ab ac w fun g w=>X4 .geq T.f 101 g 65536 w fun d w=>X6 d true g w fun W w=>Q1 d true w (X4 .leq T.f 104 W 1114111) fun X w=>pick P d X (.bool false) w fun Y w=>X1 Y (K (.int .i64 4) w) (J2 () w)) (J2 () w))))) fun z2 d_ w=>K (.int .i64 0) w
theorem Q1D (h:Hu a0 w K):Q0 P F.bC [a0] w K:=zr Q1m Tryz.func60 h
def Q06:M0:=[none,none,some ([0],[0,2,3,4,5,6,7,8,9,10,11,12])]++Y3 7
def Dx:D3:=fun e w K=>lp (α:=Value) e w fun a c h w=>V2 .neq T.c 4 c #[] w fun f w=>X1 f (Q0 P F.bC [c] w fun d w=>X4 .eql T.f 8 d 0 w fun g w=>X1 g (K (.bool false) w) (G5 P T.c c (some d) none none w fun b w=>a b w)) (K (.bool true) w)
theorem Q0A (h:Dx a0 w K):Q0 P F.aI [a0] w K:=zr Q06 Tryz.func24 h
def Sx:zV0:=fun w K=>buildSlice P T.h 42 [(0,(.string ⟨#[105,110,116]⟩)),(1,(.string ⟨#[116,114,117,101]⟩)),(2,(.string ⟨#[102,97,108,115,101]⟩)),(3,(.string ⟨#[119,111,114,100]⟩)),(4,(.string ⟨#[110,117,108,108]⟩)),(5,(.string ⟨#[108,111,97,100]⟩)),(6,(.string ⟨#[115,116,111,114,101]⟩)),(7,(.string ⟨#[112,111,112]⟩)),(8,(.string ⟨#[100,117,112]⟩)),(9,(.string ⟨#[115,119,97,112]⟩)),(10,(.string ⟨#[97,100,100]⟩)),(11,(.string ⟨#[115,117,98]⟩)),(12,(.string ⟨#[109,117,108]⟩)),(13,(.string ⟨#[100,105,118]⟩)),(14,(.string ⟨#[114,101,109]⟩)),(15,(.string ⟨#[110,101,103]⟩)),(16,(.string ⟨#[108,101,115,115]⟩)),(17,(.string ⟨#[115,97,109,101]⟩)),(18,(.string ⟨#[110,111,116]⟩)),(19,(.string ⟨#[98,111,116,104]⟩)),(20,(.string ⟨#[106,111,105,110]⟩)),(21,(.string ⟨#[115,105,122,101]⟩)),(22,(.string ⟨#[106,117,109,112]⟩)),(23,(.string ⟨#[98,114,97,110,99,104]⟩)),(24,(.string ⟨#[110,101,119]⟩)),(25,(.string ⟨#[103,101,116]⟩)),(26,(.string ⟨#[112,117,116]⟩)),(27,(.string ⟨#[99,97,108,108]⟩)),(28,(.string ⟨#[97,114,114,97,121]⟩)),(29,(.string ⟨#[97,116]⟩)),(30,(.string ⟨#[115,101,116]⟩)),(31,(.string ⟨#[105,115]⟩)),(32,(.string ⟨#[99,97,115,116]⟩)),(33,(.string ⟨#[114,101,116,117,114,110]⟩)),(34,(.string ⟨#[116,104,114,111,119]⟩)),(35,(.string ⟨#[111,117,116]⟩)),(36,(.string ⟨#[101,113,117,97,108]⟩)),(37,(.string ⟨#[97,110,100]⟩)),(38,(.string ⟨#[111,114]⟩)),(39,(.string ⟨#[120,111,114]⟩)),(40,(.string ⟨#[115,104,108]⟩)),(41,(.string ⟨#[115,104,114]⟩))] w fun a w=>K a w
theorem Q2O (h:Sx w K):Q0 P F.bR [] w K:=zr (Y3 2) Tryz.func240 h
def Tc:M0:=[none,none,none,none,some ([4],[2,4,6,7,8,9,10,11,12,13,14,15,16,17,18])]++Y3 6
def Ol:D3:=fun f w K=>Q0 P F.bR [] w fun e w=>lp (α:=Value) (.int .i64 0) w fun a b i w=>Y2 T.h e w fun g w=>X5 .lss T.f 6 8 b g w fun h w=>X1 h (V0 T.h T.c e b w fun c w=>X5 .eql T.c 15 16 c f w fun d w=>X1 d (K b w) (V6 10 b w a)) (K (.int .i64 (-1)) w)
theorem Tn (h:Ol a0 w K):Q0 P F.bd [a0] w K:=zr Tc Tryz.func236 h
def Q0a:M0:=[none,none,none,some ([4],[4,5,6,7,8,9])]++Y3 5++[some ([10],[10,11,12,13,14,15,16,17,18])]++Y3 12
def Ee:D3:=fun a w K=>jn (α:=Value) w (fun c w=>V2 .eql T.c 3 a #[105,110,116] w fun n w=>X1 n (c n w) (V2 .eql T.c 3 a #[108,111,97,100] w fun o w=>X1 o (c o w) (V2 .eql T.c 3 a #[115,116,111,114,101] w fun p w=>X1 p (c p w) (V2 .eql T.c 3 a #[106,117,109,112] w fun q w=>X1 q (c q w) (V2 .eql T.c 3 a #[98,114,97,110,99,104] w fun s w=>c s w))))) fun t r w=>X1 t (K (.int .i64 1) w) (jn (α:=Value) w (fun b w=>V2 .eql T.c 3 a #[119,111,114,100] w fun d w=>X1 d (b d w) (V2 .eql T.c 3 a #[110,101,119] w fun e w=>X1 e (b e w) (V2 .eql T.c 3 a #[103,101,116] w fun f w=>X1 f (b f w) (V2 .eql T.c 3 a #[112,117,116] w fun g w=>X1 g (b g w) (V2 .eql T.c 3 a #[99,97,108,108] w fun h w=>X1 h (b h w) (V2 .eql T.c 3 a #[97,114,114,97,121] w fun i w=>X1 i (b i w) (V2 .eql T.c 3 a #[105,115] w fun j w=>X1 j (b j w) (V2 .eql T.c 3 a #[99,97,115,116] w fun k w=>b k w)))))))) fun u r w=>X1 u (K (.int .i64 2) w) (Q0 P F.bd [a] w fun l w=>X4 .lss T.f 20 l 0 w fun m w=>X1 m (K (.int .i64 (-1)) w) (K (.int .i64 0) w)))
theorem Q0H (h:Ee a0 w K):Q0 P F.bp [a0] w K:=zr Q0a Tryz.func225 h
def Q07:M0:=[none,none,none,some ([5],[2,3,4,5,6,7,8,9,10,11,12,13,14,15,16,17,18,19,20,21,22,23,24,25,26,27,28,29,30,31,32,33])]++Y3 6
def Ea:D3:=fun n w K=>lp (α:=Value) (.int .i64 0) w fun e m M w=>Y2 T.c n w fun H w=>X5 .lss T.f 6 8 m H w fun L w=>X1 L (K0 P T.c n m w fun A w=>Z2 P .eql T.a9 (.tmp 14) (.const (.int .u8 46)) A (.int .u8 46) w fun B w=>X1 B (dr w fun d c=>Y5 d c (G5 P T.c n none (some m) none) fun C=>Y5 d c (X4 .add T.f 20 m 1) fun r=>X3 d c r (fun f=>G5 P T.c n (some f) none none) fun D=>Y5 d c (G5 P T.c n none (some m) none) fun s=>X3 d c s (fun g=>Q0 P F.d [g]) fun b=>X3 d c b (fun a=>U6 a (fun w J=>J n w)) fun t=>X3 d c b (fun a=>U6 a (fun w J=>J m w)) fun u=>L1 d c b u (fun a i=>U6 a (X4 .add T.f 29 i 1)) fun v=>Qi d c b t v (fun a h j=>U6 a (G5 P T.c h (some j) none none)) fun y=>L1 d c b y (fun a k=>U6 a (Q0 P F.v [k])) fun z=>L1 d c b z (fun a l=>pick P a l (.bool false)) fun E=> ∀o f p g a h i j k l q w,c w->C o w->r f w->D p w->s g w->b a w->t h w->u i w->v j w->y k w->z l w->E q w->K (.tuple #[o,p,q]) w) (V6 10 m w e)) (K (.tuple #[(.string ⟨#[]⟩),(.string ⟨#[]⟩),(.bool false)]) w)
theorem Q0D (h:Ea a0 w K):Q0 P F.bn [a0] w K:=zr Q07 Tryz.func226 h
def Q09:M0:=Y3 6++[some ([4],[4,5,6,7,8,30,31,32,33,34,35,36,37,38,39,40,41,42,43,44,45,46,47,48,49,50,51,52,53,54,55,56,57,58,59,60,61,62,63,64,65,66,67,68,69,70,71,72,73,74,75,76,77,78,79,80,81,82,83,84,85,86,87,88,89,90,91,92,93,94,95,96,97,98,99,100,101,102,103,104,105,106,107,108,109,110])]++Y3 5++[some ([4,5],[4,5,59,60,61,62,63,64,65,66,67,68,69,70,71,72,73]),none,none,none,none,some ([82],[82,83,84])]++Y3 7
def Ed:D3:=fun a0 w K=>box P T.w a0 w fun c w=>Y1 T.w T.c c 0 w fun z w=>Q0 P F.bp [z] w fun h w=>X4 .lss T.f 12 h 0 w fun A w=>X1 A (K (.int .i64 40) w) (X4 .eql T.f 14 h 1 w fun j w=>Z3 j false w T.w T.a5 c 1 fun B w=>Q1 j false w (X4 .eql T.a5 18 B 0) fun C w=>pick P j (.bool true) C w fun f w=>X6 f true h w fun D w=>Q1 f true w (X4 .eql T.f 22 D 2) fun E w=>X6 f true E w fun k w=>Z3 k false w T.w T.c c 2 fun H w=>Q1 k false w (V2 .eql T.c 26 H #[]) fun J w=>Q1 f true w (pick P k (.bool true) J) fun L w=>pick P f L (.bool false) w fun a w=>jn (α:=Value) w (fun m w=>X4 .eql T.f 30 h 2 w fun M w=>X1 M (Y1 T.w T.c c 0 w fun g w=>V2 .eql T.c 33 g #[119,111,114,100] w fun U w=>X1 U (Z3 a true w T.w T.c c 2 fun V w=>Q1 a true w (Y2 T.c V) fun W w=>Q1 a true w (X4 .leq T.f 51 W 64) fun X w=>pick P a X (.bool false) w fun l w=>Z3 l true w T.w T.c c 2 fun Y w=>Q1 l true w (Q0 P F.aI [Y]) fun Z w=>pick P l Z (.bool false) w fun aa w=>lp (α:=Value×Value) (aa,(.int .i64 0)) w fun e b d_ w=>Y1 T.w T.c c 2 w fun ab w=>Y2 T.c ab w fun ac w=>X5 .lss T.f 59 62 b.2 ac w fun ad w=>X1 ad (Z3 b.1 true w T.w T.c c 2 fun af w=>X6 b.1 true b.2 w fun ag w=>Q1 b.1 true w (K0 P T.c af ag) fun ah w=>Q1 b.1 true w (Z2 P .neq T.a9 (.tmp 71) (.const (.int .u8 10)) ah (.int .u8 10)) fun ai w=>pick P b.1 ai (.bool false) w fun aj w=>X4 .add T.f 64 b.2 1 w fun ae w=>e (aj,ae) w) (m b.1 w)) (V2 .eql T.c 33 g #[110,101,119] w fun ak w=>X1 ak (Z3 a true w T.w T.c c 2 fun al w=>Q1 a true w (Q0 P F.d [al]) fun am w=>pick P a am (.bool false) w fun an w=>m an w) (jn (α:=Value) w (fun n w=>V2 .eql T.c 33 g #[105,115] w fun y w=>X1 y (n y w) (V2 .eql T.c 33 g #[99,97,115,116] w fun ao w=>n ao w)) fun az d_ w=>X1 az (Z3 a true w T.w T.c c 2 fun ap w=>Q1 a true w (Q0 P F.e [ap]) fun aq w=>pick P a aq (.bool false) w fun i w=>Z3 i true w T.w T.c c 2 fun ar w=>Q1 i true w (Q0 P F.z [ar]) fun av w=>Q1 i true w (V4 P .not av) fun aw w=>pick P i aw (.bool false) w fun ax w=>m ax w) (V2 .eql T.c 33 g #[97,114,114,97,121] w fun ay w=>X1 ay (Z3 a true w T.w T.c c 2 fun o w=>Q1 a true w (Q0 P F.e [o]) fun p w=>pick P a p (.bool false) w fun d w=>Z3 d true w T.w T.c c 2 fun q w=>Q1 d true w (Q0 P F.a3 [q]) fun r w=>Q1 d true w (X4 .lss T.f 108 r 3) fun s w=>pick P d s (.bool false) w fun t w=>m t w) (Y1 T.w T.c c 2 w fun N w=>Q0 P F.bn [N] w fun v w=>D2 v w fun a3 a4 w=>ext P v 2 w fun O w=>X6 a true O w fun Q w=>pick P a Q (.bool false) w fun R w=>m R w))))) (m a w)) fun z6 d_ w=>V4 P .not z6 w fun u w=>X1 u (K (.int .i64 41) w) (K (.int .i64 0) w))
theorem Q0G (h:Ed a0 w K):Q0 P F.bo [a0] w K:=zr Q09 Tryz.func214 h
def Q2y:M0:=[none,none,none,some ([3],[2,3,4,5,6,7,8,9,10,11,12,13,14,15,16,17,18])]++Y3 7
def Sw:D3:=fun f w K=>lp (α:=Value) (.int .i64 0) w fun a e i w=>Y2 T.r f w fun g w=>X5 .lss T.f 5 7 e g w fun h w=>X1 h (V0 T.r T.w f e w fun c w=>Q0 P F.bo [c] w fun b w=>X4 .neq T.u 16 b 0 w fun d w=>X1 d (K b w) (V6 9 e w a)) (K (.int .i64 0) w)
theorem Q2N (h:Sw a0 w K):Q0 P F.aY [a0] w K:=zr Q2y Tryz.func198 h
def Td:M0:=[none,none,none,none,some ([3,4],[3,4,21,22,23,24,25,26,27,28,29,30,31,32,33,34,35,36])]++Y3 9++[some ([3,6],[3,6,7,60,61,62,63,64,65,66,67,68,69,70,71,72,73,74,75,76,77,78,79,80,81,82,83,84,85,86,87,88,89,90,91,92,93,94,95,96,97,98,99,100,101,102,103,104,105,106])]++Y3 5
def Om:D3:=fun a0 w K=>box P T.d a0 w fun c w=>Y1 T.d T.c c 0 w fun t9 w=>Q0 P F.v [t9] w fun g w=>Z3 g true w T.d T.c c 2 fun M w=>Q1 g true w (V2 .eql T.c 13 M #[]) fun N w=>X6 g true N w fun o w=>Z3 o false w T.d T.c c 2 fun O w=>Q1 o false w (Q0 P F.e [O]) fun Q w=>Q1 g true w (pick P o (.bool true) Q) fun R w=>pick P g R (.bool false) w fun U w=>lp (α:=Value×Value) (U,(.int .i64 0)) w fun i e d_ w=>Y1 T.d T.h c 1 w fun V w=>Y2 T.h V w fun W w=>X5 .lss T.f 21 24 e.2 W w fun X w=>X1 X (Z3 e.1 true w T.d T.h c 1 fun Z w=>X6 e.1 true e.2 w fun aa w=>zhi e.1 true w T.h T.c Z aa fun ab w=>Q1 e.1 true w (Q0 P F.e [ab]) fun ac w=>pick P e.1 ac (.bool false) w fun ad w=>X4 .add T.f 26 e.2 1 w fun Y w=>i (ad,Y) w) (Y1 T.d T.q c 3 w fun ae w=>X1 ae (Z3 e.1 true w T.d T.f c 4 fun af w=>Q1 e.1 true w (X4 .eql T.f 42 af 0) fun ag w=>pick P e.1 ag (.bool false) w fun j w=>Z3 j true w T.d T.r c 5 fun ah w=>Q1 j true w (Y2 T.r ah) fun ai w=>Q1 j true w (X4 .eql T.f 48 ai 0) fun aj w=>pick P j aj (.bool false) w fun k w=>Z3 k true w T.d T.t c 6 fun ak w=>Q1 k true w (Y2 T.t ak) fun al w=>Q1 k true w (X4 .eql T.f 54 al 0) fun am w=>pick P k am (.bool false) w fun an w=>K an w) (Y1 T.d T.r c 5 w fun ao w=>Y2 T.r ao w fun p w=>lp (α:=Value×Value) (e.1,(.int .i64 0)) w fun f a d_ w=>Y1 T.d T.t c 6 w fun ap w=>Y2 T.t ap w fun aq w=>X5 .lss T.f 60 63 a.2 aq w fun ar w=>X1 ar (Y1 T.d T.t c 6 w fun aw w=>V0 T.t T.v aw a.2 w fun ax w=>M9 T.v ax w fun q w=>Z3 a.1 true w T.v T.f q 0 fun ay w=>Q1 a.1 true w (X4 .geq T.f 75 ay 0) fun az w=>pick P a.1 az (.bool false) w fun l w=>Z3 l true w T.v T.f q 0 fun a1 w=>Z3 l true w T.v T.f q 1 fun a2 w=>Q1 l true w (X5 .lss T.f 80 82 a1 a2) fun a3 w=>pick P l a3 (.bool false) w fun m w=>Z3 m true w T.v T.f q 1 fun a4 w=>X6 m true p w fun a5 w=>Q1 m true w (X5 .leq T.f 87 88 a4 a5) fun a6 w=>pick P m a6 (.bool false) w fun r w=>Z3 r true w T.v T.f q 2 fun a7 w=>Q1 r true w (X4 .geq T.f 93 a7 0) fun a8 w=>pick P r a8 (.bool false) w fun n w=>Z3 n true w T.v T.f q 2 fun a9 w=>X6 n true p w fun ba w=>Q1 n true w (X5 .lss T.f 98 99 a9 ba) fun s w=>pick P n s (.bool false) w fun h w=>Z3 h true w T.v T.c q 3 fun t w=>Q1 h true w (Q0 P F.d [t]) fun u w=>pick P h u (.bool false) w fun v w=>X4 .add T.f 65 a.2 1 w fun av w=>f (v,av) w) (X6 a.1 true p w fun y w=>Q1 a.1 true w (X4 .gtr T.f 109 y 0) fun z w=>pick P a.1 z (.bool false) w fun b w=>Z3 b true w T.d T.f c 4 fun A w=>Z3 b true w T.d T.h c 1 fun B w=>Q1 b true w (Y2 T.h B) fun C w=>Q1 b true w (X5 .gtr T.f 114 117 A C) fun D w=>pick P b D (.bool false) w fun d w=>Z3 d true w T.d T.r c 5 fun E w=>Q1 d true w (Q0 P F.aY [E]) fun H w=>Q1 d true w (X4 .eql T.u 123 H 0) fun J w=>pick P d J (.bool false) w fun L w=>K L w)))
theorem To (h:Om a0 w K):Q0 P F.a9 [a0] w K:=zr Td Tryz.func167 h
def Q0b:M0:=[none,none,none,none,some ([3,4],[3,4,5,26,27,28,29,30,31,32,33,34,35,36,37,38,39,40,41,42,43,44,45,46,47,48,49,50,51,52,53,54,55,56,57,58,59,60,61,62,63,64,65,66,67,68,69,70])]++Y3 5++[some ([3,5],[3,5,52,53,54,55,56,57,58,59,60,61,62,63,64,65,66,67,68,69,70])]++Y3 5++[some ([3,6],[3,6,7,71,72,73,74,75,76,77,78,79,80,81,82,83,84,85,86,87,88,89,90,91,92,93,94,95,96,97,98,99,100,101,102,103,104,105,106,107,108,109,110,111,112,113,114,115,116,117,118,119,120,121,122])]++Y3 5++[some ([3,7],[3,7,102,103,104,105,106,107,108,109,110,111,112,113,114,115,116,117,118,119,120,121,122])]++Y3 5++[some ([3,8],[3,8,9,10,123,124,125,126,127,128,129,130,131,132,133,134,135,136,137,138,139,140,141,142,143,144,145,146,147,148,149,150,151,152,153,154,155,156,157,158,159,160,161,162,163,164,165,166,167,168,169,170,171,172,173,174])]++Y3 6++[some ([3,10],[3,10,158,159,160,161,162,163,164,165,166,167,168,169,170,171,172,173,174]),none,none,none,none]
def Eg:D3:=fun a0 w K=>box P T.b a0 w fun h w=>Y1 T.b T.c h 0 w fun di w=>Q0 P F.d [di] w fun ay w=>Z3 ay true w T.b T.c h 1 fun dj w=>Q1 ay true w (Q0 P F.d [dj]) fun dl w=>pick P ay dl (.bool false) w fun X w=>Z3 X true w T.b T.c h 0 fun dm w=>Z3 X true w T.b T.c h 1 fun dn w=>Q1 X true w (X5 .neq T.c 21 23 dm dn) fun dp w=>pick P X dp (.bool false) w fun dq w=>lp (α:=Value×Value) (dq,(.int .i64 0)) w fun W o d_ w=>Y1 T.b T.h h 2 w fun ds w=>Y2 T.h ds w fun dt w=>X5 .lss T.f 26 29 o.2 dt w fun du w=>X1 du (dr w fun b a=>Y5 b a (U6 o.1 (fieldAddr P T.b h 2)) fun cy=>Y5 b a (U6 o.1 (fun w J=>J o.2 w)) fun c0=>X3 b a cy (fun az=>U6 o.1 (Q6 P T.h az)) fun cz=>L1 b a cz c0 (fun a1 a2=>U6 o.1 (indexAddr P T.h a1 a2)) fun c1=>X3 b a c1 (fun a3=>U6 o.1 (Q6 P T.c a3)) fun c2=>X3 b a c2 (fun a4=>U6 o.1 (Q0 P F.d [a4])) fun c3=>X3 b a c3 (fun a5=>pick P o.1 a5 (.bool false)) fun m=>X3 b a m (fun d=>U6 d (fieldAddr P T.b h 2)) fun c4=>X3 b a m (fun d=>U6 d (fun w J=>J o.2 w)) fun c6=>X3 b a m (fun d=>U6 d (fieldAddr P T.b h 0)) fun c8=>L1 b a m c4 (fun d a6=>U6 d (Q6 P T.h a6)) fun c5=>Qi b a m c5 c6 (fun d a7 a8=>U6 d (indexAddr P T.h a7 a8)) fun c7=>L1 b a m c7 (fun d a9=>U6 d (Q6 P T.c a9)) fun eh=>L1 b a m c8 (fun d ba=>U6 d (Q6 P T.c ba)) fun ei=> ∀az a2 a1 a3 a4 a5 d a6 a8 ba a7 a9 cq cr w,a w->cy az w->c0 a2 w->cz a1 w->c1 a3 w->c2 a4 w->c3 a5 w->m d w->c4 a6 w->c6 a8 w->c8 ba w->c5 a7 w->c7 a9 w->eh cq w->ei cr w->Q1 d true w (X5 .neq T.c 47 49 cq cr) fun dw w=>pick P d dw (.bool false) w fun dx w=>lp (α:=Value×Value) (dx,(.int .i64 0)) w fun q e d_ w=>X5 .lss T.f 52 53 e.2 o.2 w fun dy w=>X1 dy (dr w fun b a=>Y5 b a (U6 e.1 (fieldAddr P T.b h 2)) fun c9=>Y5 b a (U6 e.1 (fun w J=>J e.2 w)) fun db=>Y5 b a (U6 e.1 (fieldAddr P T.b h 2)) fun dd=>Y5 b a (U6 e.1 (fun w J=>J o.2 w)) fun df=>X3 b a c9 (fun bb=>U6 e.1 (Q6 P T.h bb)) fun da=>L1 b a da db (fun bc bd=>U6 e.1 (indexAddr P T.h bc bd)) fun dc=>X3 b a dc (fun be=>U6 e.1 (Q6 P T.c be)) fun ej=>X3 b a dd (fun bf=>U6 e.1 (Q6 P T.h bf)) fun de=>L1 b a de df (fun bg bh=>U6 e.1 (indexAddr P T.h bg bh)) fun dg=>X3 b a dg (fun bi=>U6 e.1 (Q6 P T.c bi)) fun ek=> ∀bb bd bf bh bc be cs bg bi ct w,a w->c9 bb w->db bd w->dd bf w->df bh w->da bc w->dc be w->ej cs w->de bg w->dg bi w->ek ct w->Q1 e.1 true w (X5 .neq T.c 63 68 cs ct) fun d0 w=>pick P e.1 d0 (.bool false) w fun d1 w=>X4 .add T.f 55 e.2 1 w fun dz w=>q (d1,dz) w) (X4 .add T.f 31 o.2 1 w fun dv w=>W (e.1,dv) w)) (lp (α:=Value×Value) (o.1,(.int .i64 0)) w fun r g d_ w=>Y1 T.b T.k h 6 w fun d2 w=>Y2 T.k d2 w fun d3 w=>X5 .lss T.f 71 74 g.2 d3 w fun d4 w=>X1 d4 (Z3 g.1 true w T.b T.k h 6 fun d6 w=>X6 g.1 true g.2 w fun d7 w=>Q1 g.1 true w (indexAddr P T.k d6 d7) fun d8 w=>Z3 g.1 true w T.n T.c d8 0 fun d9 w=>Q1 g.1 true w (Q0 P F.v [d9]) fun ea w=>pick P g.1 ea (.bool false) w fun p w=>Z3 p true w T.b T.k h 6 fun eb w=>X6 p true g.2 w fun ec w=>Q1 p true w (indexAddr P T.k eb ec) fun ed w=>Z3 p true w T.n T.c ed 1 fun ee w=>Q1 p true w (Q0 P F.e [ee]) fun ef w=>pick P p ef (.bool false) w fun bj w=>Z3 bj true w T.b T.q h 3 fun eg w=>Q1 bj true w (V4 P .not eg) fun bl w=>pick P bj bl (.bool false) w fun bm w=>lp (α:=Value×Value) (bm,(.int .i64 0)) w fun s c d_ w=>X5 .lss T.f 102 103 c.2 g.2 w fun bn w=>X1 bn (dr w fun b a=>Y5 b a (U6 c.1 (fieldAddr P T.b h 6)) fun af=>Y5 b a (U6 c.1 (fun w J=>J c.2 w)) fun ah=>Y5 b a (U6 c.1 (fieldAddr P T.b h 6)) fun ak=>Y5 b a (U6 c.1 (fun w J=>J g.2 w)) fun am=>X3 b a af (fun v=>U6 c.1 (Q6 P T.k v)) fun ag=>L1 b a ag ah (fun y z=>U6 c.1 (indexAddr P T.k y z)) fun ai=>X3 b a ai (fun A=>U6 c.1 (fieldAddr P T.n A 0)) fun aj=>X3 b a aj (fun B=>U6 c.1 (Q6 P T.c B)) fun cu=>X3 b a ak (fun C=>U6 c.1 (Q6 P T.k C)) fun al=>L1 b a al am (fun D E=>U6 c.1 (indexAddr P T.k D E)) fun an=>X3 b a an (fun H=>U6 c.1 (fieldAddr P T.n H 0)) fun ao=>X3 b a ao (fun L=>U6 c.1 (Q6 P T.c L)) fun cv=> ∀v z C E y A B Y D H L Z w,a w->af v w->ah z w->ak C w->am E w->ag y w->ai A w->aj B w->cu Y w->al D w->an H w->ao L w->cv Z w->Q1 c.1 true w (X5 .neq T.c 114 120 Y Z) fun bp w=>pick P c.1 bp (.bool false) w fun bq w=>X4 .add T.f 105 c.2 1 w fun bo w=>s (bq,bo) w) (X4 .add T.f 76 g.2 1 w fun d5 w=>r (c.1,d5) w)) (lp (α:=Value×Value) (g.1,(.int .i64 0)) w fun t i d_ w=>Y1 T.b T.j h 7 w fun br w=>Y2 T.j br w fun bs w=>X5 .lss T.f 123 126 i.2 bs w fun bu w=>X1 bu (Y1 T.b T.j h 7 w fun bw w=>V0 T.j T.d bw i.2 w fun bx w=>M9 T.d bx w fun t9 w=>Q1 i.1 true w (Q6 P T.d t9) fun bz w=>Q1 i.1 true w (Q0 P F.a9 [bz]) fun b0 w=>pick P i.1 b0 (.bool false) w fun j w=>Z3 j true w T.d T.q t9 3 fun b1 w=>Q1 j true w (V4 P .not b1) fun b2 w=>X6 j true b2 w fun aa w=>Z3 aa false w T.b T.q h 4 fun b3 w=>Q1 j true w (pick P aa (.bool true) b3) fun b4 w=>pick P j b4 (.bool false) w fun k w=>Z3 k true w T.b T.q h 3 fun b5 w=>Q1 k true w (V4 P .not b5) fun b6 w=>X6 k true b6 w fun ab w=>Z3 ab false w T.d T.q t9 3 fun b7 w=>Q1 k true w (pick P ab (.bool true) b7) fun b8 w=>pick P k b8 (.bool false) w fun b9 w=>lp (α:=Value×Value) (b9,(.int .i64 0)) w fun u f d_ w=>X5 .lss T.f 158 159 f.2 i.2 w fun ca w=>X1 ca (dr w fun b a=>Y5 b a (U6 f.1 (fieldAddr P T.b h 7)) fun ap=>Y5 b a (U6 f.1 (fun w J=>J f.2 w)) fun ar=>Y5 b a (U6 f.1 (fieldAddr P T.d t9 0)) fun ax=>X3 b a ap (fun M=>U6 f.1 (Q6 P T.j M)) fun aq=>L1 b a aq ar (fun N O=>U6 f.1 (indexAddr P T.j N O)) fun av=>X3 b a av (fun Q=>U6 f.1 (fieldAddr P T.d Q 0)) fun aw=>X3 b a aw (fun R=>U6 f.1 (Q6 P T.c R)) fun cw=>X3 b a ax (fun U=>U6 f.1 (Q6 P T.c U)) fun cx=> ∀M O U N Q R ac ad w,a w->ap M w->ar O w->ax U w->aq N w->av Q w->aw R w->cw ac w->cx ad w->Q1 f.1 true w (X5 .neq T.c 170 172 ac ad) fun cc w=>pick P f.1 cc (.bool false) w fun cd w=>X4 .add T.f 161 f.2 1 w fun cb w=>u (cd,cb) w) (X4 .add T.f 128 i.2 1 w fun bv w=>t (f.1,bv) w)) (Z3 i.1 true w T.b T.q h 3 fun ce w=>Q1 i.1 true w (V4 P .not ce) fun cf w=>X6 i.1 true cf w fun n w=>Z3 n false w T.b T.q h 4 fun cg w=>X6 n false cg w fun V w=>Z3 V true w T.b T.c h 1 fun ch w=>Q1 V true w (V2 .eql T.c 185 ch #[79,98,106,101,99,116]) fun ci w=>Q1 n false w (pick P V ci (.bool false)) fun cj w=>Q1 i.1 true w (pick P n (.bool true) cj) fun ck w=>pick P i.1 ck (.bool false) w fun l w=>Z3 l true w T.b T.q h 4 fun cl w=>X6 l true cl w fun ae w=>Z3 ae true w T.b T.q h 5 fun cm w=>Q1 l true w (pick P ae cm (.bool false)) fun cn w=>Q1 l true w (V4 P .not cn) fun co w=>pick P l co (.bool false) w fun cp w=>K cp w)))
theorem Q0J (h:Eg a0 w K):Q0 P F.br [a0] w K:=zr Q0b Tryz.func123 h
def Ef:D3:=fun b w K=>box P T.b b w fun a w=>Q6 P T.b a w fun c w=>Q0 P F.bE [c] w fun d w=>X1 d (K (.int .i64 51) w) (Q6 P T.b a w fun e w=>Q0 P F.br [e] w fun f w=>V4 P .not f w fun g w=>X1 g (K (.int .i64 50) w) (K (.int .i64 0) w))
theorem Q0I (h:Ef a0 w K):Q0 P F.bq [a0] w K:=zr (Y3 8) Tryz.func77 h
def Q1r:M0:=[none,none,none,some ([5],[4,5,6,7,8,9,10,11,12,13,14,15,16,17,18,19])]++Y3 6
def Ra:L4:=fun f g w K=>lp (α:=Value) (.int .i64 0) w fun a b j w=>Y2 T.i f w fun h w=>X5 .lss T.f 6 8 b h w fun i w=>X1 i (indexAddr P T.i f b w fun c w=>Y1 T.b T.c c 0 w fun d w=>X5 .eql T.c 16 17 d g w fun e w=>X1 e (K b w) (V6 10 b w a)) (K (.int .i64 (-1)) w)
theorem Q1J (h:Ra a0 a1 w K):Q0 P F.b [a0,a1] w K:=zr Q1r Tryz.func78 h
def Tf:M0:=Y3 7++[some ([6],[4,6,7,28,29,30,31,32,33,34,35,36,37,38,39,40,41,42,43,44,45,46,47,48,49,50,51])]++Y3 7
def Oo:L4:=fun g J w K=>box P T.b J w fun a w=>Y1 T.b T.c a 1 w fun i w=>Q0 P F.b [g,i] w fun f w=>X4 .lss T.f 12 f 0 w fun c w=>X6 c false g w fun j w=>X6 c false f w fun k w=>Q1 c false w (indexAddr P T.i j k) fun l w=>Z3 c false w T.b T.q l 3 fun m w=>pick P c (.bool true) m w fun d w=>X6 d false g w fun n w=>X6 d false f w fun o w=>Q1 d false w (indexAddr P T.i n o) fun p w=>Z3 d false w T.b T.q p 5 fun q w=>pick P d (.bool true) q w fun r w=>X1 r (K (.int .i64 61) w) (lp (α:=Value) (.int .i64 0) w fun e H L w=>Y1 T.b T.h a 2 w fun s w=>Y2 T.h s w fun t w=>X5 .lss T.f 28 31 H t w fun u w=>X1 u (Y1 T.b T.h a 2 w fun v w=>V0 T.h T.c v H w fun y w=>Q0 P F.b [g,y] w fun h w=>X4 .lss T.f 42 h 0 w fun b w=>X6 b false g w fun z w=>X6 b false h w fun A w=>Q1 b false w (indexAddr P T.i z A) fun B w=>Z3 b false w T.b T.q B 3 fun C w=>Q1 b false w (V4 P .not C) fun D w=>pick P b (.bool true) D w fun E w=>X1 E (K (.int .i64 62) w) (V6 33 H w e)) (K (.int .i64 0) w))
theorem Tq (h:Oo a0 a1 w K):Q0 P F.bf [a0,a1] w K:=zr Tf Tryz.func79 h
def Q0c:M0:=[none,none,none,none,some ([3,4],[3,4,5,6,7,8,13,14,15,16,17,18,19,20,21,22,23,24,25,26,27,28,29,30,31,32,33,34,35,36,37,38,39,40,41,42,43,44,45,46,47,48,49,50,51,52,53,54])]++Y3 7++[some ([7],[7,8,34,35,36,37,38,39,40,41,42,43,44,45,46,47,48,49,50]),none,none,some ([],[8,40,41,42,43,44,45,46,47,48,49,50]),none,none,none,none,some ([9],[9,10,11,55,56,57,58,59,60,61,62,63,64,65,66,67,68,69,70,71,72,73,74,75,76,77,78,79,80,81,82,83,84,85,86,87,88,89,90,91,92,93,94,95,96,97,98,99,100,101,102,103]),none,none,none,none,some ([10],[10,11,61,62,63,64,65,66,67,68,69,70,71,72,73,74,75,76,77,78,79,80,81,82,83,84,85,86,87,88,89,90,91,92,93,94,95,96,97,98,99,100,101,102,103]),none,none,none,none,some ([11],[11,67,68,69,70,71,72,73,74,75,76,77,78,79,80,81,82,83,84,85,86,87,88,89,90,91,92,93,94,95,96,97,98,99,100,101,102,103]),none,none,none,none]
def Eh:D3:=fun r w K=>buildSlice P T.ac 0 [] w fun bd w=>lp (α:=Value×Value) (bd,(.int .i64 0)) w fun p o d_ w=>Y2 T.i r w fun be w=>X5 .lss T.f 13 15 o.2 be w fun bf w=>X1 bf (Y2 T.i r w fun af w=>Rv P T.aa af af w fun ag w=>dr w fun d c=>Y5 d c (indexAddr P T.i r o.2) fun an=>X3 d c an (fun v=>fieldAddr P T.b v 1) fun ao=>Y5 d c (indexAddr P T.i r o.2) fun aq=>X3 d c aq (fun A=>fieldAddr P T.b A 2) fun ar=>X3 d c ao (fun y=>Q6 P T.c y) fun ap=>X3 d c ap (fun z=>buildSlice P T.h 1 [(0,z)]) fun bv=>X3 d c ar (fun B=>Q6 P T.h B) fun bw=> ∀v y A B z ah ai w,c w->an v w->ao y w->aq A w->ar B w->ap z w->bv ah w->bw ai w->U7 P .append [T.h,T.h] T.h [false,false] [ah,ai] w fun aj w=>lp (α:=Value) (.int .i64 0) w fun g ab d_ w=>Y2 T.h aj w fun bh w=>X5 .lss T.f 34 36 ab bh w fun bi w=>X1 bi (jn (α:=Unit) w (fun ac w=>V0 T.h T.c aj ab w fun bj w=>Q0 P F.b [r,bj] w fun ak w=>X4 .geq T.f 46 ak 0 w fun bk w=>X1 bk (indexAddr P T.aa ag ak w fun bl w=>J9 P T.q bl (.bool true) w fun _u w=>ac () w) (ac () w)) fun bz d_ w=>V6 38 ab w g) (buildSlice P T.ac 1 [(0,ag)] w fun bm w=>U7 P .append [T.ac,T.ac] T.ac [false,false] [o.1,bm] w fun bn w=>X4 .add T.f 17 o.2 1 w fun bg w=>p (bn,bg) w)) (lp (α:=Value) (.int .i64 0) w fun h q d_ w=>Y2 T.i r w fun bo w=>X5 .lss T.f 55 57 q bo w fun bp w=>X1 bp (lp (α:=Value) (.int .i64 0) w fun i m d_ w=>Y2 T.i r w fun bq w=>X5 .lss T.f 61 63 m bq w fun br w=>X1 br (lp (α:=Value) (.int .i64 0) w fun j n d_ w=>Y2 T.i r w fun bs w=>X5 .lss T.f 67 69 n bs w fun bu w=>X1 bu (dr w fun d c=>Y5 d c (indexAddr P T.ac o.1 m) fun av=>Y5 d c (indexAddr P T.ac o.1 m) fun aw=>X3 d c av (fun C=>Q6 P T.aa C) fun bx=>X3 d c aw (fun D=>Q6 P T.aa D) fun ax=>X3 d c ax (fun E=>indexAddr P T.aa E n) fun ay=>X3 d c ay (fun H=>Q6 P T.q H) fun e=>X3 d c e (fun a=>Vt a (fun w J=>J o.1 w)) fun az=>X3 d c e (fun a=>Vt a (fun w J=>J m w)) fun a1=>Qi d c e az a1 (fun a L M=>Vt a (indexAddr P T.ac L M)) fun a2=>X3 d c e (fun a=>Vt a (fun w J=>J q w)) fun a4=>L1 d c e a2 (fun a N=>Vt a (Q6 P T.aa N)) fun a3=>Qi d c e a3 a4 (fun a O Q=>Vt a (indexAddr P T.aa O Q)) fun a5=>L1 d c e a5 (fun a R=>Vt a (Q6 P T.q R)) fun a6=>L1 d c e a6 (fun a U=>Vt a (fun w J=>J U w)) fun f=>X3 d c f (fun b=>U6 b (fun w J=>J o.1 w)) fun a7=>X3 d c f (fun b=>U6 b (fun w J=>J q w)) fun a8=>Qi d c f a7 a8 (fun b V W=>U6 b (indexAddr P T.ac V W)) fun a9=>X3 d c f (fun b=>U6 b (fun w J=>J n w)) fun bb=>L1 d c f a9 (fun b X=>U6 b (Q6 P T.aa X)) fun ba=>Qi d c f ba bb (fun b Y Z=>U6 b (indexAddr P T.aa Y Z)) fun bc=>L1 d c f bc (fun b aa=>U6 b (Q6 P T.q aa)) fun t=>Qi d c e f t (fun a b k=>Vt a (pick P b k (.bool false))) fun u=>L1 d c e u (fun a l=>pick P a (.bool true) l) fun am=> ∀C D al E H a L M N Q O R U b V W X Z Y aa k l s w,c w->av C w->aw D w->bx al w->ax E w->ay H w->e a w->az L w->a1 M w->a2 N w->a4 Q w->a3 O w->a5 R w->a6 U w->f b w->a7 V w->a8 W w->a9 X w->bb Z w->ba Y w->bc aa w->t k w->u l w->am s w->indexAddr P T.aa al n w fun ae w=>J9 P T.q ae s w fun _u w=>V6 71 n w j) (V6 65 m w i)) (V6 59 q w h)) (K o.1 w))
theorem Q0K (h:Eh a0 w K):Q0 P F.al [a0] w K:=zr Q0c Tryz.func80 h
def Q2B:M0:=Y3 6++[some ([9],[8,9,16,17,18,19,20,21,22,23,24,25,26,27,28])]++Y3 8++[some ([1,11],[1,11,41,42,43,44,45,46,47,48,49,50,51,52,53,54,55,56]),none,none,none,none]
def Cb:zV4:=fun u k U l w K=>X5 .lss T.f 12 13 l U w fun v w=>X1 v (K k w) (lp (α:=Value) (.int .i64 0) w fun c O V w=>Y2 T.a0 k w fun y w=>X5 .lss T.f 16 18 O y w fun z w=>X1 z (V0 T.a0 T.f k O w fun A w=>X5 .eql T.f 25 26 A l w fun B w=>X1 B (K k w) (V6 20 O w c)) (dr w fun e d=>Y5 e d (indexAddr P T.i u l) fun p=>X3 e d p (fun f=>fieldAddr P T.b f 1) fun q=>Y5 e d (indexAddr P T.i u l) fun s=>X3 e d s (fun i=>fieldAddr P T.b i 2) fun t=>X3 e d q (fun g=>Q6 P T.c g) fun r=>X3 e d r (fun h=>buildSlice P T.h 1 [(0,h)]) fun Q=>X3 e d t (fun j=>Q6 P T.h j) fun R=> ∀f g i j h m n w,d w->p f w->q g w->s i w->t j w->r h w->Q m w->R n w->U7 P .append [T.h,T.h] T.h [false,false] [m,n] w fun o w=>lp (α:=Value×Value) (k,(.int .i64 0)) w fun a b V w=>Y2 T.h o w fun C w=>X5 .lss T.f 41 43 b.2 C w fun D w=>X1 D (V0 T.h T.c o b.2 w fun H w=>Q0 P F.b [u,H] w fun J w=>Q0 P F.b0 [u,b.1,U,J] w fun L w=>X4 .add T.f 45 b.2 1 w fun E w=>a (L,E) w) (buildSlice P T.a0 1 [(0,l)] w fun M w=>U7 P .append [T.a0,T.a0] T.a0 [false,false] [b.1,M] w fun N w=>K N w)))
theorem Q2S (h:Cb a0 a1 a2 a3 w K):Q0 P F.b0 [a0,a1,a2,a3] w K:=zr Q2B Tryz.func81 h
def Ja:L4:=fun s A w K=>Q0 P F.b [s,A] w fun v w=>X4 .lss T.f 9 v 0 w fun t w=>X1 t (K (.slice none 0 0) w) (dr w fun b a=>Y5 b a (indexAddr P T.i s v) fun m=>X3 b a m (fun d=>fieldAddr P T.b d 1) fun n=>Y5 b a (indexAddr P T.i s v) fun q=>X3 b a q (fun h=>fieldAddr P T.b h 6) fun r=>Y5 b a (buildSlice P T.k 0 []) fun l=>X3 b a n (fun e=>Q6 P T.c e) fun o=>X3 b a o (fun f=>Q0 P F.p [s,f]) fun p=>L1 b a l p (fun c g=>U7 P .append [T.k,T.k] T.k [false,false] [c,g]) fun y=>X3 b a r (fun i=>Q6 P T.k i) fun z=> ∀d e h i c f g j k w,a w->m d w->n e w->q h w->r i w->l c w->o f w->p g w->y j w->z k w->U7 P .append [T.k,T.k] T.k [false,false] [j,k] w fun u w=>K u w)
theorem Ox (h:Ja a0 a1 w K):Q0 P F.p [a0,a1] w K:=zr (Y3 6) Tryz.func64 h
end Go.Proofs.Y
