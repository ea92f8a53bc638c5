/- Parts of a proof about the given program: its functions as texts of their own, what each computes, plain laws of that. The conditions of each stand in its statement. -/
import Derived.WalkKit
import Derived.KernelRfl
import Derived.Test.YtlfdfcejjgidpaaGreatDoorProg
set_option linter.unnecessarySimpa false
set_option linter.defProp false
set_option linter.unusedSectionVars false
set_option linter.unusedVariables false
set_option linter.unusedSimpArgs false
namespace Go.Emb
theorem Q8 {p:Prop} (h:p:=by assumption):p:=h
theorem Q5 {p:Prop} (h:p:=by omega):p:=h
theorem L7 {p:Prop} (h:p:=by decide):p:=h
theorem V5 {p:Prop} (h:p:=by simp):p:=h
theorem X7 {p:Prop} (h:p:=by kernel_rfl):p:=h
def Yp (P:Program) (s:Sem Next) (w:World) (K:Value->World->Prop):Prop:=
 match s.run P w with
 | .ok (.value v) w'=>K v w'
 | .ok .skip w'=>K undef w'
 | .ok (.enter f a) w'=>Calls P f a w' fun e b=>match e with | .returned v=>K v b | _=>False
 | .ok (.row row a) w'=>Rows P row a w' K
 | _=>False
theorem X7O: ∃f:Program->Sem Next->World->(Value->World->Prop)->Prop,f=Yp:=⟨_,rfl⟩
noncomputable def op:Program->Sem Next->World->(Value->World->Prop)->Prop:=Classical.choose X7O
theorem Zf:op=Yp:=Classical.choose_spec X7O
theorem Y0U {P:Program} {o:Oper} {a:Act} {w:World} {next:Act->World->Prop} {Q:Exit->Act->World->Prop}
 (h:op P (execOp a.eval o) w (fun v w=>next (a.put o.dst v) w)):o.wp P a w next Q:=by
 unfold Oper.wp;rw[Zf] at h;unfold Yp at h;cases c:(execOp a.eval o).run P w with
 | halt x w'=>rw[c] at h;exact h.elim
 | ok n w'=>
  rw[c] at h;cases n<;>simp only at h<;>try exact h.elim
  .exact h
  .exact h
  .refine Calls.mono h fun e d b=>?_
   cases e<;>first | exact b | exact b.elim
  .exact h
theorem Cz {P:Program} {s:Sem Next} {K b:Value->World->Prop} {w:World} (a: ∀v w,K v w->b v w) (h:op P s w K):op P s w b:=by
 rw[Zf] at*;unfold Yp at*;cases d:s.run P w with
 | halt x w'=>rw[d] at h;exact h.elim
 | ok n w'=>
  rw[d] at h;cases n<;>simp only at h⊢ <;>try exact h.elim
  .exact a _ _ h
  .exact a _ _ h
  .refine Calls.mono h fun e f c=>?_
   cases e<;>first | exact a _ _ c | exact c.elim
  .exact h.mono a
def sv (s:Sem Value):Sem Next:=do Pure.pure (.value (<-s))
def su (s:Sem Unit):Sem Next:=do s;Pure.pure .skip
variable (P : Program)
noncomputable def pick (c a b:Value) (w:World) (K:Value->World->Prop):Prop:=op P (do Pure.pure (.value (if<-asBool c then a else b))) w K
noncomputable def Qa (e:TypeId) (w:World) (K:Value->World->Prop):Prop:=op P (sv (Instr.alloc e true (.tuple #[]))) w K
noncomputable def box (e:TypeId) (x:Value) (w:World) (K:Value->World->Prop):Prop:=op P (sv (Instr.box e x)) w K
noncomputable def B6 (t:TypeId) (a:List (Nat×Value)) (w:World) (K:Value->World->Prop):Prop:=op P (sv (Instr.build t a.toArray)) w K
noncomputable def buildSlice (t:TypeId) (n:Nat) (a:List (Nat×Value)) (w:World) (K:Value->World->Prop):Prop:=op P (sv (Instr.buildSlice t n a.toArray)) w K
noncomputable def Q7 (t:TypeId) (a:Value) (w:World) (K:Value->World->Prop):Prop:=op P (sv (Instr.loadAt t a)) w K
noncomputable def U8 (t:TypeId) (a x:Value) (w:World) (K:Value->World->Prop):Prop:=op P (su (Instr.storeAt t a x)) w K
noncomputable def nilCheck (x:Value) (w:World) (K:Value->World->Prop):Prop:=op P (execOp (fun _=>x) {dst:=none,op:= .nilCheck (.const x),type:=0,pos:= "",after:= #[],guard:=none}) w K
noncomputable def Z2 (o:BinOp) (t:TypeId) (a b:Operand) (x y:Value) (w:World) (K:Value->World->Prop):Prop:=op P (sv (do eqGuard o t a b x y;Go.binOp o t x y)) w K
noncomputable def W2 (o:UnOp) (x:Value) (w:World) (K:Value->World->Prop):Prop:=op P (sv (Op.unary o x)) w K
noncomputable def conv (s d:TypeId) (x:Value) (w:World) (K:Value->World->Prop):Prop:=op P (sv (Go.convert s d x)) w K
noncomputable def X8L (t:TypeId) (x:Value) (w:World) (K:Value->World->Prop):Prop:=op P (sv (Instr.makeInterface t x)) w K
noncomputable def S1 (f:Fn) (first caps:List Value) (w:World) (K:Value->World->Prop):Prop:=op P (sv (Instr.makeFunc f first.toArray caps.toArray)) w K
noncomputable def Rr (t:TypeId) (r:Option Value) (w:World) (K:Value->World->Prop):Prop:=op P (sv (Instr.makeMap t r)) w K
noncomputable def Cx (t:TypeId) (n c:Value) (w:World) (K:Value->World->Prop):Prop:=op P (sv (Instr.makeSlice t n c)) w K
noncomputable def I7 (t:TypeId) (x:Value) (b a c:Option Value) (w:World) (K:Value->World->Prop):Prop:=op P (sv (Instr.sliceAt t x b a c)) w K
noncomputable def fieldAddr (t:TypeId) (x:Value) (f:Nat) (w:World) (K:Value->World->Prop):Prop:=op P (sv (Instr.fieldAt t x f)) w K
noncomputable def Xv (t:TypeId) (x:Value) (f:Nat) (w:World) (K:Value->World->Prop):Prop:=op P (sv (Instr.field t x f)) w K
noncomputable def indexAddr (t:TypeId) (x i:Value) (w:World) (K:Value->World->Prop):Prop:=op P (sv (Instr.indexAt t x i)) w K
noncomputable def P7 (t:TypeId) (x i:Value) (w:World) (K:Value->World->Prop):Prop:=op P (sv (Instr.index t x i)) w K
noncomputable def lookup (t:TypeId) (x i:Value) (ok:Bool) (w:World) (K:Value->World->Prop):Prop:=op P (sv (Instr.lookup t x i ok)) w K
noncomputable def mapUpdate (t:TypeId) (m k x:Value) (w:World) (K:Value->World->Prop):Prop:=op P (su (Instr.mapUpdate t m k x)) w K
noncomputable def mapEntry (t:TypeId) (m k:Value) (w:World) (K:Value->World->Prop):Prop:=op P (sv (Instr.mapEntry t m k)) w K
noncomputable def entryStore (t:TypeId) (m s x:Value) (w:World) (K:Value->World->Prop):Prop:=op P (su (Instr.entryStore t m s x)) w K
noncomputable def rng (t:TypeId) (x:Value) (w:World) (K:Value->World->Prop):Prop:=op P (sv (Instr.range t x)) w K
noncomputable def L8 (b:Value) (a:Bool) (t:TypeId) (w:World) (K:Value->World->Prop):Prop:=op P (sv (Instr.next b a t)) w K
noncomputable def X3O (a:Value) (w:World) (K:Value->World->Prop):Prop:=op P (sv (Instr.entry a)) w K
noncomputable def pnc (x:Value) (w:World) (K:Value->World->Prop):Prop:=op P (sv (Instr.panic x)) w K
noncomputable def ext (x:Value) (i:Nat) (w:World) (K:Value->World->Prop):Prop:=op P (sv (Instr.extract x i)) w K
noncomputable def U4 (b:Builtin) (a:List TypeId) (t:TypeId) (cs:List Bool) (xs:List Value) (w:World) (K:Value->World->Prop):Prop:=op P (Go.builtin b a.toArray t cs.toArray xs.toArray) w K
noncomputable def Q0 (f:FuncId) (xs:List Value) (w:World) (K:Value->World->Prop):Prop:=op P (callFunc f xs.toArray) w K
noncomputable def J6 (f:Value) (xs:List Value) (w:World) (K:Value->World->Prop):Prop:=op P (do let d<-Deferred.ofValue f xs.toArray;invoke d.target d.args) w K
def get (l:List Value) (t:Nat):Value:=l.getD t undef
def ev (l:List Value):Operand->Value
 | .tmp t=>get l t
 | .const v=>v
 | .global g=> .pointer (some ⟨g,0,none⟩)
 | .func f=> .func (.func f) #[] #[]
def put (l:List Value) (d:Option Tmp) (v:Value):List Value:=
 match d with
 | some d=>l.set d v
 | none=>l
def evs (l:List Value) (xs:Array Operand):List Value:=xs.toList.map (ev l)
def evp (l:List Value) (xs:Array (Nat×Operand)):List (Nat×Value):=xs.toList.map fun p=>(p.1,ev l p.2)
def evo (l:List Value) (x:Option Operand):Option Value:=match x with | some x=>some (ev l x) | none=>none
def isC:Operand->Bool | .const _=>true | _=>false
noncomputable def Cq (P:Program) (l:List Value) (o:Oper) (c:Call) (w:World) (K:Value->World->Prop):Prop:=
 match c.callee with
 | .builtin b=>U4 P b c.argTypes.toList o.type (c.args.toList.map isC) (evs l c.args) w K
 | .value (.func f)=>Q0 P f (evs l c.args) w K
 | .value f=>J6 P (ev l f) (evs l c.args) w K
 | _=>op P (execOp (ev l) o) w K
noncomputable def D2 (P:Program) (l:List Value) (o:Oper) (w:World) (K:Value->World->Prop):Prop:=
 match o.op with
 | .move x=>K (ev l x) w
 | .assign x=>K (ev l x) w
 | .pick c a b=>pick P (ev l c) (ev l a) (ev l b) w K
 | .alloc e=>Qa P e w K
 | .box e x=>box P e (ev l x) w K
 | .build t h=>B6 P t (evp l h) w K
 | .buildSlice t n h=>buildSlice P t n (evp l h) w K
 | .load t a=>Q7 P t (ev l a) w K
 | .store t a x=>U8 P t (ev l a) (ev l x) w K
 | .nilCheck x=>nilCheck P (ev l x) w K
 | .binOp op t x y _=>Z2 P op t x y (ev l x) (ev l y) w K
 | .unOp op _ x=>W2 P op (ev l x) w K
 | .convert s d x=>conv P s d (ev l x) w K
 | .makeInterface t x=>X8L P t (ev l x) w K
 | .makeFunc f first caps=>S1 P f (evs l first) (evs l caps) w K
 | .makeMap t r=>Rr P t (evo l r) w K
 | .makeSlice t n c=>Cx P t (ev l n) (ev l c) w K
 | .slice t x q p u=>I7 P t (ev l x) (evo l q) (evo l p) (evo l u) w K
 | .fieldAddr t x f=>fieldAddr P t (ev l x) f w K
 | .field t x f=>Xv P t (ev l x) f w K
 | .indexAddr t x i=>indexAddr P t (ev l x) (ev l i) w K
 | .index t x i=>P7 P t (ev l x) (ev l i) w K
 | .lookup t x i ok=>lookup P t (ev l x) (ev l i) ok w K
 | .mapUpdate t m k x=>mapUpdate P t (ev l m) (ev l k) (ev l x) w K
 | .insert t m k x=>mapUpdate P t (ev l m) (ev l k) (ev l x) w K
 | .mapEntry t m k=>mapEntry P t (ev l m) (ev l k) w K
 | .entryStore t m s x=>entryStore P t (ev l m) (ev l s) (ev l x) w K
 | .range t x=>rng P t (ev l x) w K
 | .next g j=>L8 P (ev l g) j o.type w K
 | .extract x i=>ext P (ev l x) i w K
 | .entry g=>X3O P (ev l g) w K
 | .panic x=>pnc P (ev l x) w K
 | .call c=>Cq P l o c w K
 | _=>op P (execOp (ev l) o) w K
theorem X3w {α β:Type} (f:α->β) (a:Array α):a.map f=(a.toList.map f).toArray:=by rw[<-Array.toList_map,Array.toArray_toList]
theorem X8t (l:List Value) (x:Option Operand):x.map (ev l)=evo l x:=by cases x<;>rfl
theorem X0p {P:Program} {l:List Value} {o:Oper} {c:Call} {K e:Value->World->Prop} {w:World} (d: ∀v w,K v w->e v w) (h:Cq P l o c w K):Cq P l o c w e:=by
 obtain ⟨a,g,i⟩:=c;cases a with
 | builtin b=>exact Cz d h
 | invoke r m=>exact Cz d h
 | value f=>cases f<;>(simp only[Cq,J6,Q0] at h⊢;exact Cz d h)
theorem Xq {P:Program} {l:List Value} {o:Oper} {K b:Value->World->Prop} {w:World} (a: ∀v w,K v w->b v w) (h:D2 P l o w K):D2 P l o w b:=by
 obtain ⟨d,p,e,pos,c,g⟩:=o;cases p<;>first | exact a _ _ h | exact X0p a h | exact Cz a h | (simp only[D2] at h⊢;exact Cz a h)
theorem X25 {P:Program} {l:List Value} {o:Oper} {K:Value->World->Prop} {w:World} (h:D2 P l o w K):op P (execOp (ev l) o) w K:=by
 unfold D2 at h
 split at h<;>rename_i a
 all_goals first
  | exact h
  | (unfold execOp;rw[a];exact h)
  | (unfold execOp;rw[a];simp only[X3w,X8t];exact h)
  | (unfold execOp;rw[a,Zf];exact h)
  | skip
 rename_i c;unfold Cq at h
 split at h<;>rename_i b
 .unfold execOp;rw[a];simp only[resolve,b,X3w]
  simp only[pure_bind,invoke];unfold U4 at h;simp only[Array.toArray_toList] at h;refine (congrArg (fun z=>op P (builtin _ c.argTypes o.type (List.toArray z) _) w K) (List.map_congr_left (fun x _=>?_))).mp h;cases x<;>rfl
 .unfold execOp;rw[a];simp only[resolve,b,X3w]
  simp only[ev,Deferred.ofValue,pure_bind,invoke]
  simpa [Q0,evs] using h
 .unfold execOp;rw[a];simp only[resolve,b,X3w]
  exact h
 .exact h
def Rl (v:Value) (b:Bool) (w:World) (a:World->(Value->World->Prop)->Prop) (J:Value->World->Prop):Prop:=
 match v with
 | .bool c=>if c=b then a w J else J undef w
 | _=>J undef w
theorem X5o: ∃f:Value->Bool->World->(World->(Value->World->Prop)->Prop)->(Value->World->Prop)->Prop,f=Rl:=⟨_,rfl⟩
noncomputable def Q1:Value->Bool->World->(World->(Value->World->Prop)->Prop)->(Value->World->Prop)->Prop:=Classical.choose X5o
theorem Ft:Q1=Rl:=Classical.choose_spec X5o
def Q6Q (v:Value) (t e:Prop):Prop:=
 match v with
 | .bool true=>t
 | .bool false=>e
 | _=>False
theorem X55: ∃f:Value->Prop->Prop->Prop,f=Q6Q:=⟨_,rfl⟩
noncomputable def X0:Value->Prop->Prop->Prop:=Classical.choose X55
theorem X0n:X0=Q6Q:=Classical.choose_spec X55
noncomputable def U1 (P:Program) (ops:List Oper) (next:List Value->World->Prop):List Oper->List Value->World->Prop
 | [],l,w=>next l w
 | o::a,l,w=>
  match o.guard with
  | none=>D2 P l o w (fun v w=>U1 P ops next a (put l o.dst v) w)
  | some (j,b)=>match (ops[j]?).bind (·.dst) with
   | some d=>Q1 (get l d) b w (D2 P l o) (fun v w=>U1 P ops next a (put l o.dst v) w)
   | none=>U1 P ops next a (put l o.dst undef) w
def Tup:Nat->Type
 | 0=>Unit
 | 1=>Value
 | n+2=>Value×Tup (n+1)
def Cp (l:List Value):(a:List Nat)->Tup a.length
 | []=>()
 | [s]=>get l s
 | s::t::r=>(get l s,Cp l (t::r))
def Ka (i:Nat) (e:Value):(a:List Nat)->Tup a.length->Value
 | [],_=>e
 | [s],x=>if s=i then x else e
 | s::t::r,x=>if s=i then x.1 else Ka i e (t::r) x.2
def G2 (a b:List Nat) (x:Tup a.length) (d:Nat->Value):Nat->List Value->List Value
 | _,[]=>[]
 | i,v::l=>Ka i (if b.contains i then d i else v) a x::G2 a b x d (i+1) l
def X7L (α:Type) (x0:α) (w:World) (a:(α->World->Prop)->α->(Nat->Value)->World->Prop):Prop:=
 ∃(I:α->World->Prop) (μ:α->World->Nat),I x0 w/\ ∀x d w,I x w->a (fun b w'=>I b w'/\μ b w'<μ x w) x d w
theorem X7N: ∃f:(α:Type)->α->World->((α->World->Prop)->α->(Nat->Value)->World->Prop)->Prop,f=X7L:=⟨_,rfl⟩
noncomputable def lp {α:Type}:α->World->((α->World->Prop)->α->(Nat->Value)->World->Prop)->Prop:=Classical.choose X7N α
theorem X7M {α:Type} (x0:α) (w:World) (a:(α->World->Prop)->α->(Nat->Value)->World->Prop):lp x0 w a=X7L α x0 w a:=
 congrFun (congrFun (congrFun (congrFun (Classical.choose_spec X7N) α) x0) w) a
def X7H (α:Type) (w:World) (A:(α->World->Prop)->World->Prop) (B:α->(Nat->Value)->World->Prop):Prop:=
 ∃I:α->World->Prop,A I w/\ ∀x d w,I x w->B x d w
theorem X7J: ∃f:(α:Type)->World->((α->World->Prop)->World->Prop)->(α->(Nat->Value)->World->Prop)->Prop,f=X7H:=⟨_,rfl⟩
noncomputable def jn {α:Type}:World->((α->World->Prop)->World->Prop)->(α->(Nat->Value)->World->Prop)->Prop:=Classical.choose X7J α
theorem X7I {α:Type} (w:World) (A:(α->World->Prop)->World->Prop) (B:α->(Nat->Value)->World->Prop):jn w A B=X7H α w A B:=
 congrFun (congrFun (congrFun (congrFun (Classical.choose_spec X7J) α) w) A) B
theorem Qt {α:Type} {w:World} {A:(α->World->Prop)->World->Prop} {B:α->(Nat->Value)->World->Prop} (I:α->World->Prop) (h:A I w) (a: ∀x d w,I x w->B x d w):jn w A B:=by
 rw[X7I];exact ⟨I,h,a⟩
theorem X0I {α:Type} {w:World} {A:(α->World->Prop)->World->Prop} {B:α->(Nat->Value)->World->Prop} (h:jn w A B): ∃I:α->World->Prop,A I w/\ ∀x d w,I x w->B x d w:=by
 rw[X7I] at h;exact h
theorem Wv {α:Type} {x0:α} {w:World} {a:(α->World->Prop)->α->(Nat->Value)->World->Prop} (I:α->World->Prop) (μ:α->World->Nat) (c:I x0 w)
 (e: ∀x d w,I x w->a (fun b w'=>I b w'/\μ b w'<μ x w) x d w):lp x0 w a:=by
 rw[X7M];exact ⟨I,μ,c,e⟩
theorem X5x {α:Type} {x0:α} {w:World} {a:(α->World->Prop)->α->(Nat->Value)->World->Prop} (h:lp x0 w a):
 ∃(I:α->World->Prop) (μ:α->World->Nat),I x0 w/\ ∀x d w,I x w->a (fun b w'=>I b w'/\μ b w'<μ x w) x d w:=by
 rw[X7M] at h;exact h
def I2 (ops:List Oper):List Nat:=ops.filterMap (·.dst)
def Zw:Code->Nat
 | .seq a b=>Zw a+Zw b+1
 | .cond _ a b=>Zw a+Zw b
 | .block _ c=>Zw c
 | .loop c=>Zw c+1
 | .scope c=>Zw c
 | _=>0
def C5 (d:List (Option (List Nat))):Nat->Code->List Nat
 | _, .region _ ops _=>I2 ops.toList
 | k, .seq a b=>(d.getD k none).getD []++(C5 d (k+1) a++C5 d (k+1+Zw a) b)
 | k, .cond _ a b=>C5 d k a++C5 d (k+Zw a) b
 | k, .block _ c=>C5 d k c
 | k, .loop c=>(d.getD k none).getD []++C5 d (k+1) c
 | k, .scope c=>C5 d k c
 | _,_=>[]
abbrev Gh:=Exit->List Value->World->Prop
def thn (next:List Value->World->Prop) (Q:Gh):Gh
 | .normal,a,w=>next a w
 | e,a,w=>Q e a w
def Q7a (id:Nat) (Q:Gh):Gh
 | .exit b,a,w=>if b=id then Q .normal a w else Q (.exit b) a w
 | e,a,w=>Q e a w
noncomputable def Sg (P:Program) (a:List (Option (List Nat))):Nat->Code->Gh->List Value->World->Prop
 | _, .skip,Q,l,w=>Q .normal l w
 | _, .label _,Q,l,w=>Q .normal l w
 | _, .exit id,Q,l,w=>Q (.exit id) l w
 | _, .ret,Q,l,w=>Q .ret l w
 | _, .region _ ops false,Q,l,w=>U1 P ops.toList (fun l w=>Q .normal l w) ops.toList l w
 | _, .region _ ops true,Q,l,w=> ∀t,U1 P ops.toList (fun l w=>Q .normal l w) ((Region.schedule (P.follows .mixedOrders) ops t).filterMap (ops[·]?)) l w.drew
 | k, .seq x y,Q,l,w=>match a.getD k none with
  | none=>Sg P a (k+1) x (thn (fun l w=>Sg P a (k+1+Zw x) y Q l w) Q) l w
  | some e=>jn w (fun J w=>Sg P a (k+1) x (thn (fun l' w'=>J (Cp l' e) w') Q) l w)
   (fun z d w=>Sg P a (k+1+Zw x) y Q (G2 e (C5 a (k+1) x) z d 0 l) w)
 | k, .cond c x y,Q,l,w=>X0 (ev l c) (Sg P a k x Q l w) (Sg P a (k+Zw x) y Q l w)
 | k, .block id c,Q,l,w=>Sg P a k c (Q7a id Q) l w
 | k, .loop c,Q,l,w=>
  lp (Cp l ((a.getD k none).getD [])) w (fun b x d w=>Sg P a (k+1) c (thn (fun l' w'=>b (Cp l' ((a.getD k none).getD [])) w') Q) (G2 ((a.getD k none).getD []) (C5 a (k+1) c) x d 0 l) w)
 | _,_,_,_,_=>False
theorem X4E {ops:List Oper} {l:List Value} {o:Oper} {j:Nat} {b:Bool} (e:o.guard=some (j,b)) {d:Nat} (a:(ops[j]?).bind (·.dst)=some d):
 Region.wanted o (yielded ops.toArray l.toArray)=true↔get l d= .bool b:=by
 unfold Region.wanted yielded;rw[e];simp only[List.getElem?_toArray];rw[a];simp only[Option.bind_some,get,List.getD_eq_getElem?_getD]
 have key: ∀x:Option Value,((match x with | some (.bool c)=>some c | _=>none)==some b)=true↔x.getD undef= .bool b:=by
  intro x;cases x with
  | none=>simp[undef]
  | some v=>cases v<;>simp
 exact key _
theorem X2G {ops:List Oper} {l:List Value} {o:Oper} {j:Nat} {b:Bool} (c:o.guard=some (j,b)) (a:(ops[j]?).bind (·.dst)=none):
 Region.wanted o (yielded ops.toArray l.toArray)=false:=by
 unfold Region.wanted yielded;rw[c];simp only[List.getElem?_toArray];rw[a];rfl
theorem Ec {v:Value} {b:Bool} {a:World->(Value->World->Prop)->Prop} {J:Value->World->Prop} {w:World} (h:Q1 v b w a J):
 (v= .bool b/\a w J)\/(v≠ .bool b/\J undef w):=by
 rw[Ft] at h;unfold Rl at h
 split at h
 .split at h
  .rename_i c;subst c;exact .inl ⟨rfl,h⟩
  .rename_i c;exact .inr ⟨by simp[c],h⟩
 .rename_i d;exact .inr ⟨d b,h⟩
theorem Q4c {v:Value} {b:Bool} {a:World->(Value->World->Prop)->Prop} {J:Value->World->Prop} {w:World}
 (h:(v= .bool b/\a w J)\/(v≠ .bool b/\J undef w)):Q1 v b w a J:=by
 rw[Ft];unfold Rl
 split
 .split
  .rename_i c;subst c
   rcases h with h | h
   .exact h.2
   .exact absurd rfl h.1
  .rename_i c
   rcases h with h | h
   .exact absurd (Value.bool.inj h.1) c
   .exact h.2
 .rename_i d
  rcases h with h | h
  .exact absurd h.1 (d b)
  .exact h.2
theorem Q8e (a:Act):a.eval=ev a.tmps.toList:=by
 funext x
 cases x<;>simp[Act.eval,ev,get,List.getD_eq_getElem?_getD]
theorem X4f (a:Act) (d:Option Tmp) (v:Value):(a.put d v).tmps.toList=put a.tmps.toList d v:=by
 cases d<;>simp[Act.put,put]
theorem X4e (a:Act) (d:Option Tmp) (v:Value):(a.put d v).defers=a.defers:=by
 cases d<;>simp[Act.put]
def lift (Q:Gh):Exit->Act->World->Prop:=fun e a w=>a.defers=[]/\Q e a.tmps.toList w
theorem Q3N (P:Program) (ops:Array Oper) (Q:Exit->Act->World->Prop) (next:List Value->World->Prop)
 (u: ∀a w,a.defers=[]->next a.tmps.toList w->Q .normal a w) (is:List Nat) (s: ∀i∈is,i<ops.size):
 ∀(a:Act) (w:World),a.defers=[]->U1 P ops.toList next (is.filterMap (ops[·]?)) a.tmps.toList w->wpOps P ops Q is a w:=by
 induction is with
 | nil=>intro a w o h;exact u a w o h
 | cons i is y=>
  intro a w o h;have p:=s i V5;have k:ops[i]? =some ops[i]:=by simp[p]
  rw[List.filterMap_cons,k] at h;simp only[U1] at h;simp only[wpOps,k];have q:ops.toList.toArray=ops:=by simp
  have r:a.tmps.toList.toArray=a.tmps:=by simp
  have f: ∀{v w},U1 P ops.toList next (is.filterMap (ops[·]?)) (put a.tmps.toList ops[i].dst v) w->wpOps P ops Q is (a.put ops[i].dst v) w:=by
   intro v w e;refine y (fun j t=>s j (by simp[t])) _ _ (by rw[X4e];exact o) ?_
   rw[X4f];exact e
  have m:D2 P a.tmps.toList ops[i] w (fun v w=>U1 P ops.toList next (is.filterMap (ops[·]?)) (put a.tmps.toList ops[i].dst v) w)->
   ops[i].wp P a w (wpOps P ops Q is) Q:=by
   intro h;refine Y0U ?_;rw[Q8e];exact Cz (fun v w e=>f e) (X25 h)
  split at h
  .rename_i n
   rw[if_pos (by simp[Region.wanted,n])]
   exact .inl (m h)
  .rename_i j b n
   split at h
   .rename_i d c
    have g:=X4E (ops:=ops.toList) (l:=a.tmps.toList) n c;rw[q,r] at g
    rcases Ec h with ⟨e,h⟩ | ⟨e,h⟩
    .rw[if_pos (g.2 e)];exact .inl (m h)
    .rw[if_neg (fun h=>e (g.1 h))];exact f h
   .rename_i c
    have g:=X2G (ops:=ops.toList) (l:=a.tmps.toList) n c;rw[q,r] at g;rw[if_neg (by rw[g];simp)];exact f h
theorem Q2N (ops:Array Oper):(List.range ops.size).filterMap (ops[·]?)=ops.toList:=by
 apply List.ext_getElem?;intro i;rw[<-Array.length_toList]
 have: ∀l:List Oper,(List.range l.length).filterMap (l[·]?)=l:=by
  intro l
  induction l with
  | nil=>rfl
  | cons x l a=>
   rw[List.length_cons,List.range_succ_eq_map,List.filterMap_cons];simp only[List.getElem?_cons_zero,List.filterMap_map]
   congr 1
 have h:=this ops.toList;simp only[Array.getElem?_toList] at h;rw[h]
theorem Q6f (b:Bool) (ops:Array Oper) (t:Nat): ∀i∈Region.schedule b ops t,i<ops.size:=by
 have key: ∀m c t a e,(∀i∈e,i<ops.size)-> ∀i∈Region.linearise.go m ops c t a e,i<ops.size:=by
  intro m c
  induction c with
  | zero=>intro t a e h i d;simp[Region.linearise.go] at d;exact h i d
  | succ c g=>
   intro t a e h i d;simp only[Region.linearise.go] at d
   split at d
   .rename_i j f
    refine g _ _ _ ?_ i d;intro k hk
    rcases List.mem_cons.1 hk with rfl | hk
    .have:=List.mem_of_getElem? f
     simp only[List.mem_filter,List.mem_range] at this;exact this.1
    .exact h k hk
   .simp at d;exact h i d
 intro i d;unfold Region.schedule at d
 split at d
 .exact key _ _ _ _ _ V5 i d
 .exact key _ _ _ _ _ V5 i d
def Zo (W:List Nat) (l l':List Value):Prop:=l'.length=l.length/\ ∀i,W.contains i=false->l'[i]? =l[i]?
theorem Zo.refl (W:List Nat) (l:List Value):Zo W l l:=⟨rfl,fun _ _=>rfl⟩
theorem Zo.trans {W:List Nat} {a b c:List Value} (h:Zo W a b) (k:Zo W b c):Zo W a c:=
 ⟨k.1.trans h.1,fun i d=>(k.2 i d).trans (h.2 i d)⟩
theorem Ku (a c:List Nat) (x:Tup a.length) (d:Nat->Value) (l:List Value): ∀i,(G2 a c x d i l).length=l.length:=by
 induction l with
 | nil=>intro i;rfl
 | cons v l b=>intro i;simp[G2,b]
theorem Tv (a b:List Nat) (x:Tup a.length) (d:Nat->Value) (l:List Value): ∀i j,(G2 a b x d i l)[j]? =(l[j]?).map fun v=>Ka (i+j) (if b.contains (i+j) then d (i+j) else v) a x:=by
 induction l with
 | nil=>intro i j;simp[G2]
 | cons v l c=>
  intro i j;cases j with
  | zero=>simp[G2]
  | succ j=>simp only[G2,List.getElem?_cons_succ,c];rw[show i+1+j=i+(j+1) from by omega]
theorem Ox (i:Nat) (e:Value): ∀(b:List Nat) (x:Tup b.length),b.contains i=false->Ka i e b x=e
 | [],_,_=>rfl
 | [s],x,h=>by
  have a: ¬s=i:=by intro a;subst a;simp at h
  exact if_neg a
 | s::t::r,x,h=>by
  simp only[Ka]
  split
  .rename_i a;subst a;simp at h
  .refine Ox i e (t::r) x.2 ?_
   simp only[List.contains_cons,Bool.or_eq_false_iff] at h⊢;exact h.2
theorem X1L (l:List Value) (i:Nat) (e c:Value): ∀(b:List Nat),b.contains i=true->Ka i e b (Cp l b)=get l i
 | [],h=>by simp at h
 | [s],h=>by
  simp only[List.contains_cons,List.contains_nil,Bool.or_false,beq_iff_eq] at h;subst h;simp[Ka,Cp]
 | s::t::r,h=>by
  simp only[Ka,Cp]
  split
  .rename_i a;subst a;rfl
  .rename_i a
   refine X1L l i e c (t::r) ?_;simp only[List.contains_cons,Bool.or_eq_true,beq_iff_eq] at h⊢
   rcases h with h | h
   .exact absurd h.symm a
   .exact h
theorem Q17 (a c:List Nat) (l l':List Value) (j:l'.length=l.length)
 (h: ∀i,a.contains i=false->c.contains i=false->l'[i]? =l[i]?):l'=G2 a c (Cp l' a) (get l') 0 l:=by
 apply List.ext_getElem?;intro i;rw[Tv];simp only[Nat.zero_add];cases d:l[i]? with
 | none=>
  have:=List.getElem?_eq_none_iff.1 d;simp only[Option.map_none];exact List.getElem?_eq_none Q5
 | some v=>
  have m:i<l.length:=(List.getElem?_eq_some_iff.1 d).1
  have g:l'[i]? =some (get l' i):=by
   simp only[get,List.getD_eq_getElem?_getD];rw[List.getElem?_eq_getElem Q5];rfl
  rw[g];simp only[Option.map_some,Option.some.injEq]
  by_cases k:a.contains i=true
  .rw[X1L l' i _ undef a k]
  .have b:a.contains i=false:=by simpa using k
   rw[Ox _ _ _ _ b]
   by_cases e:c.contains i=true
   .rw[if_pos e]
   .have f:c.contains i=false:=by simpa using e
    rw[if_neg e];have:=h i b f;rw[g,d] at this;exact Option.some.inj this
theorem Q8N {v:Value} {t e b a:Prop} (d:t->b) (c:e->a) (h:X0 v t e):X0 v b a:=by
 rw[X0n] at*;unfold Q6Q at*
 split at h
 .exact d h
 .exact c h
 .exact h.elim
theorem Lk (P:Program) (c:List Oper) (next b:List Value->World->Prop) (W:List Nat) (k:List Value): ∀(ops:List Oper) (l:List Value) (w:World),
 (∀o∈ops,∀d,o.dst=some d->W.contains d=true)->Zo W k l->(∀l w,next l w->Zo W k l->b l w)->U1 P c next ops l w->U1 P c b ops l w
 | [],l,w,_,j,p,h=>p l w h j
 | o::f,l,w,q,j,p,h=>by
  have g: ∀v,Zo W k (put l o.dst v):=by
   intro v;cases t:o.dst with
   | none=>exact j
   | some d=>
    have s:=q o V5 d t;refine j.trans ⟨by simp[put],fun i r=>?_⟩
    have:d≠i:=by intro e;subst e;rw[s] at r;cases r
    simp[put,this]
  have a: ∀v w,U1 P c next f (put l o.dst v) w->U1 P c b f (put l o.dst v) w:=fun v w y=>
   Lk P c next b W k f _ w (fun o u=>q o (by simp[u])) (g v) p y
  simp only[U1] at h⊢
  split at h
  .exact Xq a h
  .split at h
   .refine Q4c ((Ec h).imp (fun ⟨m,n⟩=>⟨m,Xq a n⟩) (fun ⟨m,n⟩=>⟨m,a _ _ n⟩))
   .exact a _ _ h
theorem Q97 {α:Type} {x0:α} {c b:(α->World->Prop)->α->(Nat->Value)->World->Prop} {w:World}
 (f: ∀a x d w,c a x d w->b a x d w) (h:lp x0 w c):lp x0 w b:=by
 obtain ⟨I,μ,e,g⟩:=X5x h;exact Wv I μ e fun x d w i=>f _ _ _ _ (g x d w i)
theorem Yo {a b:List Nat} {i:Nat} (h:a.contains i=true):(a++b).contains i=true:=by simp at h⊢;exact .inl h
theorem I3 {a b:List Nat} {i:Nat} (h:b.contains i=true):(a++b).contains i=true:=by simp at h⊢;exact .inr h
theorem Q8Q (P:Program) (q:List (Option (List Nat))) (c:Code): ∀(k:Nat) (Q A:Gh) (W:List Nat) (m l:List Value) (w:World),
 (∀i,(C5 q k c).contains i=true->W.contains i=true)->Zo W m l->
 (∀e l w,Q e l w->Zo W m l->A e l w)->Sg P q k c Q l w->Sg P q k c A l w:=by
 induction c with
 | skip=>intro k Q A W m l w _ g j h;exact j _ _ _ h g
 | label n=>intro k Q A W m l w _ g j h;exact j _ _ _ h g
 | exit id=>intro k Q A W m l w _ g j h;exact j _ _ _ h g
 | ret=>intro k Q A W m l w _ g j h;exact j _ _ _ h g
 | goto n=>intro k Q A W m l w _ g j h;exact h.elim
 | refuse s=>intro k Q A W m l w _ g j h;exact h.elim
 | scope c=>intro k Q A W m l w _ g j h;exact h.elim
 | rangeFunc f p a b=>intro k Q A W m l w _ g j h;exact h.elim
 | region id ops L=>
  intro k Q A W m l w B g j h
  have O: ∀o∈ops.toList,∀d,o.dst=some d->W.contains d=true:=by
   intro o R d hd;refine B d ?_;simp only[C5,I2,List.contains_eq_mem,List.mem_filterMap,decide_eq_true_eq];exact ⟨o,R,hd⟩
  cases L with
  | false=>exact Lk P _ _ _ W m _ _ _ O g (fun l w X g=>j _ _ _ X g) h
  | true=>
   intro t;refine Lk P _ _ _ W m _ _ _ ?_ g (fun l w X g=>j _ _ _ X g) (h t);intro o R;simp only[List.mem_filterMap] at R;obtain ⟨i,_,r⟩:=R;exact O o (by simpa using Array.mem_of_getElem? r)
 | seq x y D E=>
  intro k Q A W m l w B g j h;have Z: ∀i,(C5 q (k+1) x).contains i=true->W.contains i=true:=fun i r=>B i (I3 (Yo r));have hy: ∀i,(C5 q (k+1+Zw x) y).contains i=true->W.contains i=true:=fun i r=>B i (I3 (I3 r));simp only[Sg] at h⊢
  split at h
  .refine D _ _ _ W m l w Z g ?_ h
   intro e l' w' C u;cases e with
   | normal=>exact E _ _ _ W m l' w' hy u j C
   | _=>exact j _ _ _ C u
  .rename_i sl Y
   obtain ⟨J,M,N⟩:=X0I h;refine Qt J (D _ _ _ W m l w Z g ?_ M) fun z d w hz=>?_
   .intro e l' w' C u
    cases e with
    | normal=>exact C
    | _=>exact j _ _ _ C u
   .refine E _ _ _ W m _ w hy (g.trans ⟨Ku _ _ _ _ _ _,fun i r=>?_⟩) j (N z d w hz)
    rw[Tv]
    have M:sl.contains i=false:=by
     cases H:sl.contains i with
     | false=>rfl
     | true=>rw[B i (Yo (by rw[Y];exact H))] at r;cases r
    have N:(C5 q (k+1) x).contains i=false:=by
     cases H:(C5 q (k+1) x).contains i with
     | false=>rfl
     | true=>rw[Z i H] at r;cases r
    simp only[Nat.zero_add];cases hl:l[i]? with
    | none=>rfl
    | some v=>simp only[Option.map_some,Ox _ _ _ _ M,N,Bool.false_eq_true,if_false]
 | cond c x y D E=>
  intro k Q A W m l w B g j h;exact Q8N (D k _ _ W m l w (fun i r=>B i (Yo r)) g j) (E _ _ _ W m l w (fun i r=>B i (I3 r)) g j) h
 | block id c ih=>
  intro k Q A W m l w B g j h;refine ih k _ _ W m l w B g ?_ h;intro e l' w' C u;cases e with
  | exit ah=>simp only[Q7a] at C⊢;split<;>rename_i V<;>simp only[V,if_true,if_false] at C<;>exact j _ _ _ C u
  | _=>exact j _ _ _ C u
 | loop c ih=>
  intro k Q A W m l w B g j h;refine Q97 (fun U x d w hb=>?_) h;refine ih _ _ _ W m _ _ (fun i r=>B i (I3 r)) ?_ ?_ hb
  .refine g.trans ⟨Ku _ _ _ _ _ _,fun i r=>?_⟩
   rw[Tv]
   have M:((q.getD k none).getD []).contains i=false:=by
    cases H:((q.getD k none).getD []).contains i with
    | false=>rfl
    | true=>rw[B i (Yo H)] at r;cases r
   have N:(C5 q (k+1) c).contains i=false:=by
    cases H:(C5 q (k+1) c).contains i with
    | false=>rfl
    | true=>rw[B i (I3 H)] at r;cases r
   simp only[Nat.zero_add];cases hl:l[i]? with
   | none=>rfl
   | some v=>simp only[Option.map_some,Ox _ _ _ _ M,N,Bool.false_eq_true,if_false]
  .intro e l' w' C u
   cases e with
   | normal=>exact C
   | _=>exact j _ _ _ C u
theorem X56 (P:Program) (g:List (Option (List Nat))) (c:Code): ∀(k:Nat) (Q:Gh) (a:Act) (w:World),
 a.defers=[]->Sg P g k c Q a.tmps.toList w->c.wp P (lift Q) a w:=by
 induction c with
 | skip=>intro k Q a w j h;exact wp_skip ⟨j,h⟩
 | label n=>intro k Q a w j h;exact wp_label ⟨j,h⟩
 | exit id=>intro k Q a w j h;exact wp_exit ⟨j,h⟩
 | ret=>intro k Q a w j h;exact wp_ret ⟨j,h⟩
 | goto n=>intro k Q a w j h;exact h.elim
 | refuse s=>intro k Q a w j h;exact h.elim
 | scope c=>intro k Q a w j h;exact h.elim
 | rangeFunc f p a b=>intro k Q a w j h;exact h.elim
 | region id ops A=>
  intro k Q a w j h;cases A with
  | false=>
   refine wp_region (Q3N P ops _ _ (fun a w j h=>⟨j,h⟩) _ V5 a w j ?_);rw[Q2N];exact h
  | true=>
   refine wp_region_draw fun t=>?_;exact Q3N P ops _ _ (fun a w j h=>⟨j,h⟩) _ (Q6f _ _ _) a _ j (h t)
 | seq x y r u=>
  intro k Q a w j h;simp only[Sg] at h
  split at h
  .refine wp_seq (wp_mono (r _ _ a w j h) ?_)
   intro e o w' ⟨m,q⟩;cases e with
   | normal=>exact u _ _ o w' m q
   | _=>exact ⟨m,q⟩
  .rename_i Y ad
   obtain ⟨J,L,B⟩:=X0I h;have H:=Q8Q P g x (k+1) _ (fun e l' w'=>thn (fun l' w'=>J (Cp l' Y) w') Q e l' w'/\Zo (C5 g (k+1) x) a.tmps.toList l') (C5 g (k+1) x) a.tmps.toList a.tmps.toList w (fun _ h=>h) (Zo.refl _ _) (fun e l w h N=>⟨h,N⟩) L;refine wp_seq (wp_mono (r (k+1) _ a w j H) ?_);intro e o w' ⟨m,q,C⟩;cases e with
   | normal=>
    refine u (k+1+Zw x) _ o w' m ?_;rw[Q17 Y (C5 g (k+1) x) a.tmps.toList o.tmps.toList C.1 (fun i _ h=>C.2 i h)];exact B _ _ _ q
   | _=>exact ⟨m,q⟩
 | cond c x y r u=>
  intro k Q a w j h;simp only[Sg,X0n,Q6Q] at h
  split at h
  .rename_i W
   exact wp_cond_true (by rw[Q8e];exact W) (r _ _ _ _ j h)
  .rename_i W
   exact wp_cond_false (by rw[Q8e];exact W) (u _ _ _ _ j h)
  .exact h.elim
 | block id c X=>
  intro k Q a w j h;refine wp_block (wp_mono (X k _ a w j h) ?_);intro e o w' ⟨m,q⟩;cases e with
  | exit ae=>
   simp only[Q7a,Exit.inBlock] at q⊢
   split<;>rename_i V<;>simp only[V,if_true,if_false] at q<;>exact ⟨m,q⟩
  | _=>exact ⟨m,q⟩
 | loop c X=>
  intro k Q a w j h;obtain ⟨I,μ,h0,hr⟩:=X5x h;refine wp_loop (fun o w'=>o.defers=[]/\(∃d,o.tmps.toList=G2 ((g.getD k none).getD []) (C5 g (k+1) c) (Cp o.tmps.toList ((g.getD k none).getD [])) d 0 a.tmps.toList)/\I (Cp o.tmps.toList ((g.getD k none).getD [])) w') (fun o w'=>μ (Cp o.tmps.toList ((g.getD k none).getD [])) w') ⟨j,⟨get a.tmps.toList,Q17 _ _ _ _ rfl (fun _ _ _=>rfl)⟩,h0⟩ ?_;intro z w1 ⟨U,⟨d1,v⟩,M⟩;have O:=hr _ d1 w1 M;dsimp only at O;rw[<-v] at O;have R:=Q8Q P g c (k+1) _ (fun e l' w'=>thn (fun l' w'=>I (Cp l' ((g.getD k none).getD [])) w'/\μ (Cp l' ((g.getD k none).getD [])) w'<μ (Cp z.tmps.toList ((g.getD k none).getD [])) w1) Q e l' w'/\Zo (C5 g (k+1) c) z.tmps.toList l') (C5 g (k+1) c) z.tmps.toList z.tmps.toList w1 (fun _ h=>h) (Zo.refl _ _) (fun e l w h N=>⟨h,N⟩) O;refine wp_mono (X _ _ z w1 U R) ?_;intro e Z w2 ⟨E,B,D⟩;cases e with
  | normal=>
   refine ⟨⟨E,⟨get Z.tmps.toList,Q17 _ _ _ _ ?_ ?_⟩,B.1⟩,B.2⟩
   .rw[D.1,v,Ku]
   .intro i L H
    rw[D.2 i H,v,Tv];simp only[Nat.zero_add,Ox _ _ _ _ L,H,Bool.false_eq_true,if_false,Option.map_id']
  | _=>exact ⟨E,B⟩
def X4x:List Value->Nat->Value->(List Value->Prop)->Prop
 | [],_,_,k=>k []
 | _::l,0,v,k=>k (v::l)
 | x::l,n+1,v,k=>X4x l n v (fun l'=>k (x::l'))
def Q8o (l:List Value) (d:Option Tmp) (v:Value) (k:List Value->Prop):Prop:=
 match d with
 | some d=>X4x l d v k
 | none=>k l
def X3U:List Value->Nat->(Value->Prop)->Prop
 | [],_,k=>k undef
 | x::_,0,k=>k x
 | _::l,n+1,k=>X3U l n k
def evK (l:List Value) (o:Operand) (k:Value->Prop):Prop:=
 match o with
 | .tmp t=>X3U l t k
 | .const v=>k v
 | .global g=>k (.pointer (some ⟨g,0,none⟩))
 | .func f=>k (.func (.func f) #[] #[])
def Q7K (i:Nat) (e:Value):(a:List Nat)->Tup a.length->(Value->Prop)->Prop
 | [],_,k=>k e
 | [s],x,k=>if s=i then k x else k e
 | s::t::r,x,k=>if s=i then k x.1 else Q7K i e (t::r) x.2 k
def Q0i (a b:List Nat) (x:Tup a.length) (d:Nat->Value):Nat->List Value->(List Value->Prop)->Prop
 | _,[],k=>k []
 | i,v::l,k=>match b.contains i with
  | true=>Q7K i (d i) a x (fun u=>Q0i a b x d (i+1) l (fun l'=>k (u::l')))
  | false=>Q7K i v a x (fun u=>Q0i a b x d (i+1) l (fun l'=>k (u::l')))
theorem X93 (l:List Value): ∀(n:Nat) (v:Value) (k:List Value->Prop),X4x l n v k=k (l.set n v):=by
 induction l with
 | nil=>intro n v k;rfl
 | cons x l a=>intro n v k;cases n with
  | zero=>rfl
  | succ n=>simp only[X4x,a,List.set_cons_succ]
theorem X38 (l:List Value) (d:Option Tmp) (v:Value) (k:List Value->Prop):Q8o l d v k=k (put l d v):=by
 cases d with
 | none=>rfl
 | some d=>exact X93 l d v k
theorem X8B (l:List Value): ∀(n:Nat) (k:Value->Prop),X3U l n k=k (get l n):=by
 induction l with
 | nil=>intro n k;rfl
 | cons x l a=>intro n k;cases n with
  | zero=>rfl
  | succ n=>simp only[X3U,a];rfl
theorem X9J (l:List Value) (o:Operand) (k:Value->Prop):evK l o k=k (ev l o):=by
 cases o with
 | tmp t=>exact X8B l t k
 | _=>rfl
theorem Q50 (i:Nat) (e:Value) (k:Value->Prop): ∀(a:List Nat) (x:Tup a.length),Q7K i e a x k=k (Ka i e a x)
 | [],_=>rfl
 | [s],x=>by
  by_cases h:s=i
  .exact (if_pos h).trans (congrArg k (if_pos h).symm)
  .exact (if_neg h).trans (congrArg k (if_neg h).symm)
 | s::t::r,x=>by
  by_cases h:s=i
  .exact (if_pos h).trans (congrArg k (if_pos h).symm)
  .exact ((if_neg h).trans (Q50 i e k (t::r) x.2)).trans (congrArg k (if_neg h).symm)
theorem Q8W (a c:List Nat) (x:Tup a.length) (d:Nat->Value) (l:List Value): ∀(i:Nat) (k:List Value->Prop),Q0i a c x d i l k=k (G2 a c x d i l):=by
 induction l with
 | nil=>intro i k;rfl
 | cons v l b=>
  intro i k;simp only[Q0i,G2]
  split
  .rename_i h;rw[Q50,b,if_pos h]
  .rename_i h;rw[Q50,b,if_neg (by rw[h];simp)]
theorem Tu (b c a:List Nat) (h: ∀i,c.contains i=a.contains i) (x:Tup b.length) (d:Nat->Value) (l:List Value): ∀i,G2 b c x d i l=G2 b a x d i l:=by
 induction l with
 | nil=>intro i;rfl
 | cons v l e=>intro i;simp only[G2,e,h]
noncomputable def Yd (P:Program) (ops:List Oper) (next:List Value->World->Prop):List Oper->List Value->World->Prop
 | [],l,w=>next l w
 | o::a,l,w=>
  match o.guard with
  | none=>match o.op with
   | .move x=>evK l x fun v=>Q8o l o.dst v fun l=>Yd P ops next a l w
   | .assign x=>evK l x fun v=>Q8o l o.dst v fun l=>Yd P ops next a l w
   | _=>D2 P l o w (fun v w=>Q8o l o.dst v fun l=>Yd P ops next a l w)
  | some (j,b)=>match (ops[j]?).bind (·.dst) with
   | some d=>Q1 (get l d) b w (D2 P l o) (fun v w=>Q8o l o.dst v fun l=>Yd P ops next a l w)
   | none=>Q8o l o.dst undef fun l=>Yd P ops next a l w
theorem Ie (P:Program) (ops:List Oper) (next:List Value->World->Prop) (os:List Oper): ∀(l:List Value) (w:World),Yd P ops next os l w=U1 P ops next os l w:=by
 induction os with
 | nil=>intro l w;rfl
 | cons o c a=>
  intro l w;obtain ⟨dst,p,e,pos,d,g⟩:=o;cases g with
  | none=>cases p<;>simp only[Yd,U1,X38,X9J,a,D2]
  | some q=>obtain ⟨j,b⟩:=q;simp only[Yd,U1,X38,a]
def Oc (T:World->World->Prop) (φ:Value->World->Prop):Prop:= ∀v w w',φ v w->T w w'->φ v w'
def dk (T:World->World->Prop) (φ:Value->World->Prop) (w:World):Value->World->Prop:=fun v w'=>T w w'/\φ v w'
def X0s (T:World->World->Prop) (A:(Value->World->Prop)->Prop) (a:(Value->World->Prop)->Prop):Prop:=
 ∃φ,Oc T φ/\A φ/\a φ
theorem X58: ∃f:(World->World->Prop)->((Value->World->Prop)->Prop)->((Value->World->Prop)->Prop)->Prop,f=X0s:=⟨_,rfl⟩
noncomputable def V2:(World->World->Prop)->((Value->World->Prop)->Prop)->((Value->World->Prop)->Prop)->Prop:=Classical.choose X58
theorem X57:V2=X0s:=Classical.choose_spec X58
def X3M (w:World) (A:(World->World->Prop)->(World->Prop)->Prop):Prop:= ∃T B,B w.drew/\(∀w w',B w->T w w'->B w')/\A T B
theorem X7z: ∃f:World->((World->World->Prop)->(World->Prop)->Prop)->Prop,f=X3M:=⟨_,rfl⟩
noncomputable def dr:World->((World->World->Prop)->(World->Prop)->Prop)->Prop:=Classical.choose X7z
theorem X7y:dr=X3M:=Classical.choose_spec X7z
theorem Q13 {w:World} {A:(World->World->Prop)->(World->Prop)->Prop} (T:World->World->Prop) (B:World->Prop) (h:B w.drew) (b: ∀w w',B w->T w w'->B w') (a:A T B):dr w A:=by
 rw[X7y];exact ⟨T,B,h,b,a⟩
theorem F4 {T:World->World->Prop} {A a:(Value->World->Prop)->Prop} (φ:Value->World->Prop) (c:Oc T φ) (h:A φ) (b:a φ):V2 T A a:=by
 rw[X57];exact ⟨φ,c,h,b⟩
def Q8b (T:World->World->Prop) (A a:(List Value->Value->World->Prop)->Prop):Prop:=
 ∃φ,(∀xs,Oc T (φ xs))/\A φ/\a φ
theorem X2W: ∃f:(World->World->Prop)->((List Value->Value->World->Prop)->Prop)->((List Value->Value->World->Prop)->Prop)->Prop,f=Q8b:=⟨_,rfl⟩
noncomputable def Ko:(World->World->Prop)->((List Value->Value->World->Prop)->Prop)->((List Value->Value->World->Prop)->Prop)->Prop:=Classical.choose X2W
theorem X2V:Ko=Q8b:=Classical.choose_spec X2W
theorem Q8c {T:World->World->Prop} {A a:(List Value->Value->World->Prop)->Prop} (φ:List Value->Value->World->Prop) (c: ∀xs,Oc T (φ xs)) (h:A φ) (b:a φ):Ko T A a:=by
 rw[X2V];exact ⟨φ,c,h,b⟩
abbrev Iv:=Nat×Nat
def Ap (a:Nat->Iv):Prop:= ∀i j,i≠j->(a i).2<=(a j).1\/(a j).2<=(a i).1
def dkR (T:World->World->Prop) (φ:Iv->Value->World->Prop) (w:World):Value->World->Prop:=fun v w'=>T w w'/\φ (w.heap.size,w'.heap.size) v w'
def Q8a (T:(Nat->Iv)->World->World->Prop) (j:Nat) (A a:(Iv->Value->World->Prop)->Prop):Prop:=
 ∃φ,(∀b,Ap b->Oc (T b) (φ (b j)))/\A φ/\a φ
theorem X2U: ∃f:((Nat->Iv)->World->World->Prop)->Nat->((Iv->Value->World->Prop)->Prop)->((Iv->Value->World->Prop)->Prop)->Prop,f=Q8a:=⟨_,rfl⟩
noncomputable def X6E:((Nat->Iv)->World->World->Prop)->Nat->((Iv->Value->World->Prop)->Prop)->((Iv->Value->World->Prop)->Prop)->Prop:=Classical.choose X2U
theorem X8l:X6E=Q8a:=Classical.choose_spec X2U
def Q89 (T:(Nat->Iv)->World->World->Prop) (A a:(Value->World->Prop)->Prop):Prop:=
 ∃φ,(∀b,Ap b->Oc (T b) φ)/\A φ/\a φ
theorem X2T: ∃f:((Nat->Iv)->World->World->Prop)->((Value->World->Prop)->Prop)->((Value->World->Prop)->Prop)->Prop,f=Q89:=⟨_,rfl⟩
noncomputable def X6D:((Nat->Iv)->World->World->Prop)->((Value->World->Prop)->Prop)->((Value->World->Prop)->Prop)->Prop:=Classical.choose X2T
theorem X8k:X6D=Q89:=Classical.choose_spec X2T
def Q6p (T:(Nat->Iv)->World->World->Prop) (A a:(List Value->Value->World->Prop)->Prop):Prop:=
 ∃φ,(∀xs b,Ap b->Oc (T b) (φ xs))/\A φ/\a φ
theorem X0t: ∃f:((Nat->Iv)->World->World->Prop)->((List Value->Value->World->Prop)->Prop)->((List Value->Value->World->Prop)->Prop)->Prop,f=Q6p:=⟨_,rfl⟩
noncomputable def X3L:((Nat->Iv)->World->World->Prop)->((List Value->Value->World->Prop)->Prop)->((List Value->Value->World->Prop)->Prop)->Prop:=Classical.choose X0t
theorem X6F:X3L=Q6p:=Classical.choose_spec X0t
def X0u (w:World) (A:((Nat->Iv)->World->World->Prop)->(World->Prop)->Prop):Prop:= ∃T B,B w.drew/\(∀a w w',B w->T a w w'->B w')/\(∀a w w',T a w w'->w.heap.size<=w'.heap.size)/\A T B
theorem X59: ∃f:World->(((Nat->Iv)->World->World->Prop)->(World->Prop)->Prop)->Prop,f=X0u:=⟨_,rfl⟩
noncomputable def drR:World->(((Nat->Iv)->World->World->Prop)->(World->Prop)->Prop)->Prop:=Classical.choose X59
theorem X9F:drR=X0u:=Classical.choose_spec X59
def Ek:Bool->((Nat->Iv)->Prop)->Prop
 | false,k=>k fun _=>(0,0)
 | true,k=> ∀a:Nat->Iv,Ap a->k a
def OkI:Bool->(Nat->Iv)->Prop
 | false,a=>a=fun _=>(0,0)
 | true,a=>Ap a
def Co:Bool->World->Nat
 | false,_=>0
 | true,w=>w.heap.size
theorem X03 {r:Bool} {k:(Nat->Iv)->Prop} (h:Ek r k) {b:Nat->Iv} (a:OkI r b):k b:=by
 cases r with
 | false=>have a:b=_:=a;subst a;exact h
 | true=>exact h b a
def Tl (r:Bool) (a:Nat->Iv) (w:World):Prop:=OkI r a/\ ∀q,(a q).2<=Co r w
theorem Tl.init {r:Bool} {w:World}:Tl r (fun _=>(0,0)) w:=⟨by cases r<;>first | rfl | exact fun _ _ _=> .inl (Nat.le_refl _),fun _=>Nat.zero_le _⟩
theorem Tl.step {r:Bool} {c:Nat->Iv} {w w':World} (h:Tl r c w) (g:Co r w<=Co r w') (q:Nat):Tl r (fun n=>if n=q then (Co r w,Co r w') else c n) w':=by
 obtain ⟨a,d⟩:=h;refine ⟨?_,fun n=>?_⟩
 .cases r with
  | false=>
   have a:c=_:=a;subst a
   funext n
   simp[Co]
  | true=>
   intro i j b;have a:Ap c:=a;simp only
   by_cases e:i=q
   .subst e
    rw[if_pos rfl,if_neg (Ne.symm b)];exact .inr (d j)
   .rw[if_neg e]
    by_cases f:j=q
    .subst f
     rw[if_pos rfl];exact .inl (d i)
    .rw[if_neg f]
     exact a i j b
 .simp only
  split
  .exact Nat.le_refl _
  .exact Nat.le_trans (d n) g
noncomputable def runOp (P:Program) (ops:List Oper) (l:List Value) (o:Oper) (w:World) (K:Value->World->Prop):Prop:=
 match o.guard with
 | none=>D2 P l o w K
 | some (j,b)=>match (ops[j]?).bind (·.dst) with
  | some d=>Q1 (get l d) b w (D2 P l o) K
  | none=>False
inductive Ent where
  | val (v : Value)
  | ref (j : Nat)
def Ent.at (u:Nat->Value):Ent->Value
 | .val v=>v
 | .ref j=>u j
def Xd (u:Nat->Value) (S:List Ent):List Value:=S.map (Ent.at u)
def getE:List Ent->Nat->Ent
 | [],_=> .val undef
 | x::_,0=>x
 | _::l,n+1=>getE l n
def entOf (S:List Ent):Operand->Ent
 | .tmp t=>getE S t
 | .const v=> .val v
 | .global g=> .val (.pointer (some ⟨g,0,none⟩))
 | .func f=> .val (.func (.func f) #[] #[])
def mv (o:Oper):Option Operand:=
 match o.guard with
 | some _=>none
 | none=>match o.op with
  | .move x=>some x
  | .assign x=>some x
  | _=>none
def Q6F:List Ent->Nat->Ent->List Ent
 | [],_,_=>[]
 | _::l,0,e=>e::l
 | x::l,n+1,e=>x::Q6F l n e
def putE (S:List Ent) (d:Option Nat) (e:Ent):List Ent:=
 match d with
 | some d=>Q6F S d e
 | none=>S
def K0 (o:Oper):List Nat:=o.op.operands.toList.filterMap fun | .tmp t=>some t | _=>none
def G9 (ops:List Oper) (o:Oper):List Nat:=
 match o.guard with
 | none=>[]
 | some (j,_)=>match (ops[j]?).bind (·.dst) with | some d=>[d] | none=>[]
def Q58:List Nat->List Nat
 | []=>[]
 | x::l=>x::(Q58 l).filter (fun y=> !(y==x))
def Q9P:Ent->List Nat
 | .ref j=>[j]
 | .val _=>[]
def Q5h (S:List Ent):List Nat->List Nat
 | []=>[]
 | s::l=>Q9P (getE S s)++Q5h S l
def refs (ops:List Oper) (S:List Ent) (o:Oper):List Nat:=Q58 (Q5h S (G9 ops o++K0 o))
def Df:List Nat->(Nat->Value)->((Nat->Value)->Prop)->Prop
 | [],u,k=>k u
 | j::a,u,k=> ∀t:Value,Df a (fun n=>if n=j then t else u n) k
abbrev Kh:=List (Nat×List Nat×(List Value->Iv->Value->World->Prop))
def Nu:Kh->Nat->Option (List Nat×(List Value->Iv->Value->World->Prop))
 | [],_=>none
 | (i,φ)::l,j=>if i=j then some φ else Nu l j
def Dj (c:Kh) (u:Nat->Value) (b:Nat->Iv) (w:World) (a:Prop):List Nat->Prop
 | []=>a
 | j::d=>match Nu c j with
  | some ([],φ)=>φ [] (b j) (u j) w->Dj c u b w a d
  | _=>Dj c u b w a d
def Q5c (c:Kh) (u:Nat->Value) (b:Nat->Iv) (w:World) (a:Prop):List Nat->Prop
 | []=>a
 | j::d=>match Nu c j with
  | some (R,φ)=>φ (R.map u) (b j) (u j) w->Q5c c u b w a d
  | none=>Q5c c u b w a d
def X0F (o:Oper):Bool:=match o.op with | .store .. =>true | _=>false
def Q4g (o:Oper):Bool:=match o.op with | .call c=>(match c.callee with | .value (.func _)=>true | _=>false) | _=>false
def Y1u (o:Oper):Bool:=match o.op with | .build .. =>true | _=>false
def X6O (o:Oper):Bool:=match o.op with | .call c=>(match c.callee with | .builtin .append=>true | _=>false) | _=>false
def Cu (o:Oper):Bool:=match o.op with | .alloc .. =>true | _=>false
def X48 (r:Bool) (o:Oper):Bool:=match r with | true=>Q4g o||X6O o||Cu o | false=>false
abbrev ivZ:Nat->Iv:=fun _=>(0,0)
def X49 (r:Bool) (o:Oper):Bool:=match r with | true=>X0F o||Y1u o | false=>X0F o
noncomputable def chain (P:Program) (r:Bool) (ops:List Oper) (T:(Nat->Iv)->World->World->Prop) (B:World->Prop) (L8:List Value->World->Prop) (tail:List Oper):Nat->List Oper->List Ent->Kh->List Nat->Prop
 | _,[],S,c,done=>Df done (fun _=>undef) fun u=>Ek r fun b=> ∀w,B w->Q5c c u b w (Yd P ops L8 tail (Xd u S) w) done
 | i,o::a,S,c,done=>
  match mv o with
  | some x=>chain P r ops T B L8 tail (i+1) a (putE S o.dst (entOf S x)) c done
  | none=>match X49 r o with
   | true=>match r with
    | true=>X3L T (fun φ=>Df (refs ops S o) (fun _=>undef) fun u=>Ek true fun b=> ∀w,B w->Dj c u b w (runOp P ops (Xd u S) o w (dk (T b) (φ ((refs ops S o).map u)) w)) (refs ops S o))
     (fun φ=>chain P r ops T B L8 tail (i+1) a (putE S o.dst (.ref i)) (c++[(i,refs ops S o,fun xs (_:Iv)=>φ xs)]) (done++[i]))
    | false=>Ko (T ivZ) (fun φ=>Df (refs ops S o) (fun _=>undef) fun u=>Ek false fun b=> ∀w,B w->Dj c u b w (runOp P ops (Xd u S) o w (dk (T b) (φ ((refs ops S o).map u)) w)) (refs ops S o))
     (fun φ=>chain P r ops T B L8 tail (i+1) a (putE S o.dst (.ref i)) (c++[(i,refs ops S o,fun xs (_:Iv)=>φ xs)]) (done++[i]))
   | false=>match X48 r o with
    | true=>X6E T i (fun φ=>Df (refs ops S o) (fun _=>undef) fun u=>Ek r fun b=> ∀w,B w->Dj c u b w (runOp P ops (Xd u S) o w (dkR (T b) φ w)) (refs ops S o))
     (fun φ=>chain P r ops T B L8 tail (i+1) a (putE S o.dst (.ref i)) (c++[(i,[],fun (_:List Value)=>φ)]) (done++[i]))
    | false=>match r with
     | true=>X6D T (fun φ=>Df (refs ops S o) (fun _=>undef) fun u=>Ek true fun b=> ∀w,B w->Dj c u b w (runOp P ops (Xd u S) o w (dk (T b) φ w)) (refs ops S o))
      (fun φ=>chain P r ops T B L8 tail (i+1) a (putE S o.dst (.ref i)) (c++[(i,[],fun (_:List Value) (_:Iv)=>φ)]) (done++[i]))
     | false=>V2 (T ivZ) (fun φ=>Df (refs ops S o) (fun _=>undef) fun u=>Ek false fun b=> ∀w,B w->Dj c u b w (runOp P ops (Xd u S) o w (dk (T b) φ w)) (refs ops S o))
      (fun φ=>chain P r ops T B L8 tail (i+1) a (putE S o.dst (.ref i)) (c++[(i,[],fun (_:List Value) (_:Iv)=>φ)]) (done++[i]))
def Ug:Op->Bool
 | .ready _ | .waits _ | .sliceToArrayPointer .. | .makeChan .. | .typeAssert .. | .go _ | .defer _ | .send .. | .recv .. | .select .. =>false
 | .call c=>match c.callee with | .invoke .. =>false | _=>true
 | _=>true
theorem Tq {l l':List Value} {x:Option Operand} (h: ∀y∈x.toArray,ev l y=ev l' y):evo l x=evo l' x:=by
 cases x with
 | none=>rfl
 | some y=>simp only[evo];rw[h y V5]
theorem Q3Q {l l':List Value} {xs:Array Operand} (h: ∀y∈xs,ev l y=ev l' y):evs l xs=evs l' xs:=by
 unfold evs;exact List.map_congr_left fun y a=>h y (by simpa using a)
theorem Q8U {l l':List Value} {xs:Array (Nat×Operand)} (h: ∀y∈(xs.toList.map (·.2)).toArray,ev l y=ev l' y):evp l xs=evp l' xs:=by
 unfold evp;refine List.map_congr_left fun y a=>?_;rw[h y.2 (by simp;exact ⟨y.1,by simpa using a⟩)]
theorem Bj {P:Program} {l l':List Value} {o:Oper} (q:Ug o.op=true) (h: ∀x∈o.op.operands,ev l x=ev l' x):D2 P l o=D2 P l' o:=by
 obtain ⟨d,p,D,pos,B,g⟩:=o
 funext w K
 cases p with
 | call c=>
  obtain ⟨j,i,C⟩:=c;have k:evs l i=evs l' i:=Q3Q fun y e=>h y (by simp[Op.operands,Call.operands];exact .inr e)
  cases j with
  | invoke r m=>simp[Ug] at q
  | builtin b=>simp only[D2,Cq,k]
  | value f=>
   have s:ev l f=ev l' f:=h f (by simp[Op.operands,Call.operands])
   cases f<;>simp only[D2,Cq,k,s]
 | build t A=>simp only[D2];rw[Q8U h]
 | buildSlice t n A=>simp only[D2];rw[Q8U h]
 | makeFunc f a b=>
  simp only[D2];rw[Q3Q (xs:=a) fun y e=>h y (by simp[Op.operands];exact .inl e),Q3Q (xs:=b) fun y e=>h y (by simp[Op.operands];exact .inr e)]
 | makeMap t r=>simp only[D2];rw[Tq h]
 | slice t x v u z=>
  simp only[D2];rw[h x (by simp[Op.operands]),Tq (x:=v) fun y e=>h y (by simp[Op.operands] at e⊢;simp[e]),Tq (x:=u) fun y e=>h y (by simp[Op.operands] at e⊢;simp[e]),Tq (x:=z) fun y e=>h y (by simp[Op.operands] at e⊢;simp[e])]
 | _=>first
  | (simp[Ug] at q;done)
  | (simp only[Op.operands,List.mem_toArray,List.mem_cons,List.not_mem_nil,or_false,forall_eq_or_imp,forall_eq] at h;simp only[D2,h];done)
  | rfl
def Q0Z:List Oper->List Nat->List Nat
 | [],acc=>acc
 | o::a,acc=>Q0Z a (acc++[(o.after.toList.filter (Region.binds .any)).foldl (fun s e=>s ||| 2 ^ e.on ||| acc.getD e.on 0) 0])
def Zp (a b:Oper):Bool:=
 match a.dst with
 | some d=>(K0 b).contains d||b.dst==some d
 | none=>false
def Q86 (a:List Nat) (ops:List Oper):Bool:=
 ops.zipIdx.all fun (o,j)=>ops.zipIdx.all fun (q,i)=> !(decide (i<j))|| !(Zp q o||Zp o q)||(a.getD j 0).testBit i
def Mx (ops:List Oper):Bool:=
 ops.zipIdx.all fun (o,i)=>Ug o.op&&(o.after.toList.filter (Region.binds .any)).all (fun e=>decide (e.on<i))&&
  match o.guard with | none=>true | some (j,_)=>(o.after.toList.filter (Region.binds .any)).any (fun e=>e.on==j)
def Q9Q (m:Region.Mode) (ops:List Oper):List Nat->List Nat->Bool
 | [],_=>true
 | j::L,seen=>((ops[j]?.map fun o=>o.after.toList).getD []).all (fun e=> !Region.binds m e||seen.contains e.on)&&Q9Q m ops L (j::seen)
def Yx (m:Region.Mode) (ops:List Oper) (L:List Nat):Bool:=
 Q9Q m ops L []&&(List.range ops.length).all (L.contains ·)&&ops.all (fun o=>o.after.toList.all fun e=> !Region.binds m e||decide (e.on<ops.length))
def X7k (m:Region.Mode) (ops:List Oper):Nat->List Nat->List Nat->List Nat
 | 0,_,seen=>seen.reverse
 | n+1,a,seen=>
  match a.find? (fun j=>((ops[j]?.map fun o=>o.after.toList).getD []).all (fun e=> !Region.binds m e||seen.contains e.on)) with
  | some j=>X7k m ops n (a.erase j) (j::seen)
  | none=>seen.reverse
def Uf:List Nat->Bool
 | []=>true
 | x::l=> !l.contains x&&Uf l
def Yz (ops:List Oper) (j:Nat):List Nat:=(ops[j]?.map fun o=>(o.after.toList.filter (Region.binds .any)).map (·.on)).getD []
def Ki (ops:List Oper) (L:List Nat):Prop:= ∀b j a,L=b++j::a-> ∀i∈Yz ops j,i∈b
theorem X0A (f:Edge->Nat) (l:List Edge): ∀(s i:Nat),(l.foldl (fun s e=>s ||| 2 ^ e.on ||| f e) s).testBit i=true->
 s.testBit i=true\/ ∃e∈l,e.on=i\/(f e).testBit i=true:=by
 induction l with
 | nil=>intro s i h;exact .inl h
 | cons e l c=>
  intro s i h
  rcases c _ _ h with h | ⟨a,b,h⟩
  .simp only[Nat.testBit_or,Bool.or_eq_true] at h
   rcases h with (h | h) | h
   .exact .inl h
   .rw[Nat.testBit_two_pow] at h
    exact .inr ⟨e,by simp, .inl (by simpa using h)⟩
   .exact .inr ⟨e,by simp, .inr h⟩
  .exact .inr ⟨a,by simp[b],h⟩
theorem Q8M (a:List Oper): ∀(b:List Oper) (acc:List Nat),acc.length+b.length=a.length->(∀k,acc.length<=k->a[k]? =b[k-acc.length]?)->
 (∀j i,j<acc.length->(acc.getD j 0).testBit i=true-> ∃k∈Yz a j,k=i\/(k<j/\(acc.getD k 0).testBit i=true))->
 (∀j,j<a.length-> ∀k∈Yz a j,k<j)->
 ∀j i,j<a.length->((Q0Z b acc).getD j 0).testBit i=true-> ∃k∈Yz a j,k=i\/(k<j/\((Q0Z b acc).getD k 0).testBit i=true)
 | [],acc,q,_,c,_=>by
  intro j i t h;exact c j i (by simp at q;omega) h
 | o::b,acc,q,f,c,p=>by
  have z:a[acc.length]? =some o:=by rw[f _ (Nat.le_refl _)];simp
  refine Q8M a b _ (by simp at q⊢;omega) ?_ ?_ p
  .intro k g
   simp only[List.length_append,List.length_cons,List.length_nil] at g⊢;rw[f k Q5];obtain ⟨m,y⟩: ∃m,k-acc.length=m+1:=⟨k-acc.length-1,by omega⟩
   rw[y,List.getElem?_cons_succ]
   congr 1;omega
  .intro j i t h
   simp only[List.length_append,List.length_cons,List.length_nil] at t
   have d: ∀k,k<acc.length->(acc++[(o.after.toList.filter (Region.binds .any)).foldl (fun s e=>s ||| 2 ^ e.on ||| acc.getD e.on 0) 0]).getD k 0=acc.getD k 0:=by
    intro k g;simp only[List.getD_eq_getElem?_getD];rw[List.getElem?_append_left g]
   by_cases n:j<acc.length
   .rw[d j n] at h
    obtain ⟨k,g,h⟩:=c j i n h;exact ⟨k,g,h.imp id fun ⟨u,v⟩=>⟨u,by rw[d k Q5];exact v⟩⟩
   .have r:j=acc.length:=by omega
    subst r;simp only[List.getD_eq_getElem?_getD,List.getElem?_append_right (Nat.le_refl _),Nat.sub_self,List.getElem?_cons_zero,Option.getD_some] at h
    rcases X0A (fun e=>acc.getD e.on 0) _ _ _ (by simpa only[List.getD_eq_getElem?_getD] using h) with h | ⟨e,w,h⟩
    .simp at h
    .have l:e.on∈Yz a acc.length:=by
      unfold Yz;rw[z];simp only[Option.map_some,Option.getD_some,List.mem_map];exact ⟨e,w,rfl⟩
     refine ⟨e.on,l,h.imp id fun h=>?_⟩;have g:=p acc.length (by simp at q;omega) _ l
     exact ⟨g,by rw[d _ g];exact h⟩
theorem Q15 {ops:List Oper} (h:Mx ops=true): ∀j,j<ops.length-> ∀k∈Yz ops j,k<j:=by
 intro j b k a;simp only[Mx,List.all_eq_true,Bool.and_eq_true] at h;unfold Yz at a;rw[List.getElem?_eq_getElem b] at a;simp only[Option.map_some,Option.getD_some,List.mem_map] at a;obtain ⟨e,c,rfl⟩:=a;have:=(h (ops[j],j) (by rw[List.mem_zipIdx_iff_getElem?];simp[b])).1.2 e c
 simpa using this
theorem X1y {ops:List Oper} (l:Mx ops=true) {L:List Nat} (n:Ki ops L): ∀(j:Nat),j<ops.length-> ∀i b a,L=b++j::a->((Q0Z ops []).getD j 0).testBit i=true->i∈b:=by
 intro j
 induction j using Nat.strongRecOn with
 | _ j o=>
  intro d i b a f g;obtain ⟨k,m,h⟩:=Q8M ops ops [] V5 V5 (by intro j i d;simp at d) (Q15 l) j i d g
  have c:=n b j a f k m
  rcases h with rfl | ⟨e,h⟩
  .exact c
  .obtain ⟨p,q,rfl⟩:=List.append_of_mem c
   have:=o k e Q5 i p (q++j::a) (by rw[f];simp) h
   exact List.mem_append_left _ this
theorem Dk: ∀(n:Nat) (a:List Nat),(∀k,k<n->k∈a)->n<=a.length
 | 0,_,_=>Nat.zero_le _
 | n+1,a,h=>by
  have b:=Dk n (a.erase n) fun k e=>(List.mem_erase_of_ne Q5).2 (h k Q5);have c:=List.length_erase_of_mem (h n Q5);have d:=List.length_pos_of_mem (h n Q5);omega
theorem I0: ∀(n:Nat) (l:List Nat),l.Nodup->(∀k∈l,k<n)->l.length<=n
 | 0,l,_,h=>by
  cases l with
  | nil=>simp
  | cons x l=>exact absurd (h x V5) Q5
 | n+1,l,c,h=>by
  by_cases b:n∈l
  .have g:=I0 n (l.erase n) (c.erase n) fun k a=>by
    have d:=h k (List.mem_of_mem_erase a);have f:k≠n:=fun e=>by subst e;exact (List.Nodup.not_mem_erase c) a
    omega
   have d:=List.length_erase_of_mem b;have f:=List.length_pos_of_mem b;omega
  .have:=I0 n l c fun k a=>by
    have d:=h k a;have f:k≠n:=fun e=>by subst e;exact b a
    omega
   omega
theorem X4R {m:Region.Mode} {e:Edge} (h:Region.binds .any e=true):Region.binds m e=true:=by
 unfold Region.binds at h⊢;cases a:e.ground<;>rw[a] at h<;>first | rfl | (exact absurd h (by simp<;>rfl)) | (simp at h;cases h)
theorem X4c {m:Region.Mode} {ops:List Oper} {L:List Nat} (h:Yx m ops L=true) (k:Nat) (b:k<ops.length): ∀e∈(ops[k]?.map fun o=>o.after.toList).getD [],Region.binds m e=true->e.on<ops.length:=by
 intro e a c;simp only[Yx,Bool.and_eq_true,List.all_eq_true] at h;rw[List.getElem?_eq_getElem b] at a;have:=h.2 ops[k] (List.getElem_mem b) e (by simpa using a)
 rw[c] at this
 simpa using this
theorem X1x {m:Region.Mode} {ops:List Oper} {L:List Nat} (h:Yx m ops L=true): ∀k,k<ops.length->k∈L:=by
 intro k a;simp only[Yx,Bool.and_eq_true,List.all_eq_true] at h
 simpa using h.1.2 k (by simpa using a)
theorem X2Y (m:Region.Mode) (ops:Array Oper) (R:Mx ops.toList=true) (U:List Nat) (O:Yx m ops.toList U=true): ∀(fuel t:Nat) (listed:Array Bool) (a:List Nat),
 fuel+a.length=ops.size->listed.size=ops.size->(∀i,i<ops.size->(listed.getD i true=true↔i∈a))->a.Nodup->(∀i∈a,i<ops.size)->Ki ops.toList a.reverse->
 (Region.linearise.go m ops fuel t listed a).Nodup/\(Region.linearise.go m ops fuel t listed a).length=ops.size/\Ki ops.toList (Region.linearise.go m ops fuel t listed a)
 | 0,t,listed,a,hf,_,_,hn,_,hr=>by
  simp only[Region.linearise.go];exact ⟨List.pairwise_reverse.2 (hn.imp fun h=>Ne.symm h),by simp;omega,hr⟩
 | fuel+1,t,listed,a,hf,M,C,hn,D,hr=>by
  -- one that isn't listed may come
  have X: ∃k,k<ops.size/\k∉a:=by
   refine Classical.byContradiction fun ad=>?_;have u: ∀k,k<ops.size->k∈a:=fun k hk=>Classical.byContradiction fun h=>ad ⟨k,hk,h⟩;have:=Dk ops.size a u;omega
  simp only[Region.linearise.go]
  split
  .rename_i i hi
   have l:=List.mem_of_getElem? hi;simp only[List.mem_filter,List.mem_range,Bool.and_eq_true,Bool.not_eq_true'] at l;obtain ⟨c,v,n⟩:=l;have H:i∉a:=fun h=>by rw[(C i c).2 h] at v;cases v
   refine X2Y m ops R U O fuel _ _ _ (by simp;omega) (by simp[M]) ?_ (List.nodup_cons.2 ⟨H,hn⟩) ?_ ?_
   .intro j hj
    by_cases p:i=j
    .subst p;simp[Array.getD,M,c]
    .have:(listed.setIfInBounds i true).getD j true=listed.getD j true:=by
      simp only[Array.getD_eq_getD_getElem?];rw[Array.getElem?_setIfInBounds_ne p]
     rw[this,C j hj]
     simp[Ne.symm p]
   .intro j hj
    rcases List.mem_cons.1 hj with rfl | hj
    .exact c
    .exact D j hj
   .rw[List.reverse_cons]
    intro af j N V k hk
    rcases List.eq_nil_or_concat N with rfl | ⟨r,x,rfl⟩
    .have hh:=List.append_inj' V rfl
     obtain ⟨h1,h2⟩:=hh;simp only[List.cons.injEq,and_true] at h2;subst h2;subst h1;have Z:=hk;unfold Yz at hk;rw[show ops.toList[i]? =some ops[i] by simp[c]] at hk
     simp only[Option.map_some,Option.getD_some,List.mem_map,List.mem_filter] at hk;obtain ⟨e,⟨f,W⟩,rfl⟩:=hk;rw[show ops[i]? =some ops[i] by simp[c]] at n
     simp only[Option.map_some,Option.getD_some,Array.all_eq_true'] at n;have h4:=n e (by simpa using f)
     simp only[Bool.or_eq_true,Bool.not_eq_true'] at h4
     rcases h4 with h4 | h4
     .rw[X4R W] at h4;cases h4
     .have an:=Q15 R i (by simpa using c) e.on Z
      have:listed.getD e.on true=true:=by
       simp only[Array.getD_eq_getD_getElem?] at h4⊢;rw[Array.getElem?_eq_getElem Q5] at h4⊢
       simpa using h4
      simpa using (C e.on Q5).1 this
    .rw[List.concat_eq_append,<-List.cons_append,<-List.append_assoc] at V
     have hh:=List.append_inj' V rfl;exact hr af j r hh.1 k hk
  .rename_i q
   exfalso
   obtain ⟨k0,y,z⟩:=X;have s:=O;simp only[Yx,Bool.and_eq_true] at s
   -- every number of L0 that is none of an operation's has no edges: it may stand there, but isn't looked at
   have g: ∃k,k<ops.size/\k∉a/\ ∀e∈(ops.toList[k]?.map fun o=>o.after.toList).getD [],Region.binds m e=true->e.on∈a\/ops.size<=e.on:=by
    -- the first of L0 that is an operation's number and isn't listed
    have key: ∀(L b:List Nat),Q9Q m ops.toList L b=true->(∀k∈b,k∈a\/ops.size<=k)->(∃k∈L,k<ops.size/\k∉a)->
     ∃k,k<ops.size/\k∉a/\ ∀e∈(ops.toList[k]?.map fun o=>o.after.toList).getD [],Region.binds m e=true->e.on∈a\/ops.size<=e.on:=by
     intro L
     induction L with
     | nil=>rintro b _ _ ⟨k,hk,_⟩;simp at hk
     | cons j L ih=>
      rintro b h hs ⟨k,hk,ab,B⟩;simp only[Q9Q,Bool.and_eq_true,List.all_eq_true] at h
      by_cases hj:j∈a\/ops.size<=j
      .refine ih (j::b) h.2 (fun x hx=>by rcases List.mem_cons.1 hx with rfl | hx;exact hj;exact hs x hx) ⟨k,?_,ab,B⟩
       rcases List.mem_cons.1 hk with rfl | hk
       .rcases hj with hj | hj
        .exact absurd hj B
        .omega
       .exact hk
      .have Y:j<ops.size:=by
        refine Nat.lt_of_not_le fun h=>hj (.inr h)
       refine ⟨j,Y,fun h=>hj (.inl h),fun e R Q=>?_⟩;have:=h.1 e R;rw[Q] at this;exact hs _ (by simpa using this)
    exact key U [] s.1.1 V5 ⟨k0,X1x O k0 (by simpa using y),y,z⟩
   obtain ⟨k,d,aa,A⟩:=g
   by_cases w:k∈(List.range ops.size).filter fun i=> !listed.getD i true&&((ops[i]?).map (·.after.all fun e=> !Region.binds m e||listed.getD e.on false)).getD false
   .have J:=List.length_pos_of_mem w
    have:=List.getElem?_eq_none_iff.1 q;have:=Nat.mod_lt t J;omega
   .refine w ?_
    simp only[List.mem_filter,List.mem_range,Bool.and_eq_true,Bool.not_eq_true'];refine ⟨d,?_,?_⟩
    .cases hc:listed.getD k true with
     | false=>rfl
     | true=>exact absurd ((C k d).1 hc) aa
    .rw[show ops[k]? =some ops[k] by simp[d]]
     simp only[Option.map_some,Option.getD_some,Array.all_eq_true'];intro e f;simp only[Bool.or_eq_true,Bool.not_eq_true'];cases Q:Region.binds m e with
     | false=>exact .inl rfl
     | true=>
      right;rw[show ops.toList[k]? =some ops[k] by simp[d]] at A
      rcases A e (by simpa using f) Q with h | h
      .have E:=D _ h
       have:=(C e.on E).2 h;simp only[Array.getD_eq_getD_getElem?] at this⊢;rw[Array.getElem?_eq_getElem Q5] at this⊢
       simpa using this
      .exact absurd h (by
        have:=X4c O k (by simpa using d) e (by rw[show ops.toList[k]? =some ops[k] by simp[d]];simpa using f) Q
        simp at this;omega)
theorem Q9M (b:Bool) (ops:Array Oper) (t:Nat) (d:Mx ops.toList=true) (f: ∀m,∃L,Yx m ops.toList L=true):
 (Region.schedule b ops t).Nodup/\(Region.schedule b ops t).length=ops.size/\Ki ops.toList (Region.schedule b ops t):=by
 have key: ∀m t,(Region.linearise m ops t).Nodup/\(Region.linearise m ops t).length=ops.size/\Ki ops.toList (Region.linearise m ops t):=by
  intro m t;obtain ⟨L,c⟩:=f m;refine X2Y m ops d L c _ _ _ _ V5 V5 ?_ List.nodup_nil V5 ?_
  .intro i e;simp[Array.getD,e]
  .intro g j a h;simp at h
 unfold Region.schedule
 split<;>exact key _ _
theorem Uw: ∀(ops:List Oper),Uf (I2 ops)=true-> ∀(i j:Nat) (a b:Oper) (d:Nat),ops[i]? =some a->ops[j]? =some b->a.dst=some d->b.dst=some d->i=j
 | [],_,i,j,a,b,d,h,_,_,_=>by simp at h
 | o::c,g,i,j,a,b,d,m,n,p,r=>by
  have f: ∀(k:Nat) (q:Oper),c[k]? =some q->q.dst=some d->d∈I2 c:=by
   intro k q s v;simp only[I2,List.mem_filterMap];exact ⟨q,List.mem_of_getElem? s,v⟩
  have l:Uf (I2 c)=true:=by
   simp only[I2,List.filterMap_cons] at g
   split at g
   .exact g
   .simp only[Uf,Bool.and_eq_true] at g;exact g.2
  have e:o.dst=some d->d∉I2 c:=by
   intro u;simp only[I2,List.filterMap_cons,u,Uf,Bool.and_eq_true,Bool.not_eq_true'] at g;intro t;have:=g.1;simp only[List.contains_eq_mem,decide_eq_false_iff_not] at this;exact this t
  cases i with
  | zero=>
   simp only[List.getElem?_cons_zero,Option.some.injEq] at m;subst m;cases j with
   | zero=>rfl
   | succ j=>exact absurd (f j b (by simpa using n) r) (e p)
  | succ i=>
   cases j with
   | zero=>
    simp only[List.getElem?_cons_zero,Option.some.injEq] at n;subst n;exact absurd (f i a (by simpa using m) p) (e r)
   | succ j=>rw[Uw c l i j a b d (by simpa using m) (by simpa using n) p r]
theorem Q18 (u:Nat->Value): ∀(S:List Ent) (s:Nat),get (Xd u S) s=(getE S s).at u
 | [],s=>by simp[Xd,get,getE,Ent.at]
 | e::S,0=>rfl
 | e::S,s+1=>Q18 u S s
theorem Q0o: ∀(S:List Ent) (s:Nat),getE S s=(S[s]?).getD (.val undef)
 | [],s=>by simp[getE]
 | e::S,0=>rfl
 | e::S,s+1=>by simp only[getE,List.getElem?_cons_succ];exact Q0o S s
theorem Q5l: ∀(S:List Ent) (n:Nat) (e:Ent),Q6F S n e=S.set n e
 | [],n,e=>by simp[Q6F]
 | x::S,0,e=>rfl
 | x::S,n+1,e=>by simp only[Q6F,List.set_cons_succ,Q5l S n e]
theorem Q98 {x:Nat}: ∀{l:List Nat},x∈l->x∈Q58 l
 | y::l,h=>by
  simp only[Q58,List.mem_cons,List.mem_filter]
  by_cases e:x=y
  .exact .inl e
  .exact .inr ⟨Q98 ((List.mem_cons.1 h).resolve_left e),by simpa using e⟩
theorem Tp {x:Nat}: ∀{l:List Nat},x∈Q58 l->x∈l
 | y::l,h=>by
  simp only[Q58,List.mem_cons,List.mem_filter] at h⊢;exact h.imp id fun h=>Tp h.1
theorem Q99 {S:List Ent} {j:Nat}: ∀{l:List Nat} {s:Nat},s∈l->getE S s= .ref j->j∈Q5h S l
 | x::l,s,h,e=>by
  simp only[Q5h,List.mem_append]
  rcases List.mem_cons.1 h with rfl | h
  .left;rw[e];simp[Q9P]
  .right;exact Q99 h e
theorem Ag {S:List Ent} {j:Nat}: ∀{l:List Nat},j∈Q5h S l-> ∃s∈l,getE S s= .ref j
 | x::l,h=>by
  simp only[Q5h,List.mem_append] at h
  rcases h with h | h
  .refine ⟨x,by simp,?_⟩
   cases a:getE S x with
   | val v=>rw[a] at h;simp[Q9P] at h
   | ref k=>rw[a] at h;simp[Q9P] at h;rw[h]
  .obtain ⟨s,b,e⟩:=Ag h
   exact ⟨s,by simp[b],e⟩
theorem Q6j: ∀(a:List Nat) (c u:Nat->Value) (k:(Nat->Value)->Prop),Df a c k-> ∃b,k b/\ ∀x,(x∈a->b x=u x)/\(x∉a->b x=c x)
 | [],c,u,k,h=>⟨c,h,fun x=>⟨fun h=>by simp at h,fun _=>rfl⟩⟩
 | j::a,c,u,k,h=>by
  obtain ⟨b,g,d⟩:=Q6j a _ u k (h (u j));refine ⟨b,g,fun x=>⟨fun hx=>?_,fun hx=>?_⟩⟩
  .by_cases f:x∈a
   .exact (d x).1 f
   .rw[(d x).2 f]
    rcases List.mem_cons.1 hx with rfl | hx
    .simp
    .exact absurd hx f
  .rw[(d x).2 (fun h=>hx (List.mem_cons_of_mem _ h))]
   have:x≠j:=fun e=>hx (by simp[e])
   simp[this]
theorem Q6s {f:Kh} {u:Nat->Value} {e:Nat->Iv} {w:World} {a:Prop}: ∀{d:List Nat},Dj f u e w a d->(∀j∈d,∀φ,Nu f j=some ([],φ)->φ [] (e j) (u j) w)->a
 | [],h,_=>h
 | j::d,h,c=>by
  simp only[Dj] at h
  split at h
  .rename_i φ g
   exact Q6s (h (c j V5 φ g)) fun k b=>c k (by simp[b])
  .exact Q6s h fun k b=>c k (by simp[b])
theorem Q4f {f:Kh} {u:Nat->Value} {e:Nat->Iv} {w:World} {a:Prop}: ∀{d:List Nat},Q5c f u e w a d->(∀j∈d,∀R φ,Nu f j=some (R,φ)->φ (R.map u) (e j) (u j) w)->a
 | [],h,_=>h
 | j::d,h,c=>by
  simp only[Q5c] at h
  split at h
  .rename_i R φ g
   exact Q4f (h (c j V5 R φ g)) fun k b=>c k (by simp[b])
  .exact Q4f h fun k b=>c k (by simp[b])
theorem Q1J {a:Kh} {i j:Nat} {φ:List Nat×(List Value->Iv->Value->World->Prop)} (h:i≠j):Nu (a++[(i,φ)]) j=Nu a j:=by
 induction a with
 | nil=>simp[Nu,h]
 | cons p a b=>obtain ⟨k,ψ⟩:=p;simp only[List.cons_append,Nu,b]
theorem Ru {a:Kh} {i:Nat} {φ:List Nat×(List Value->Iv->Value->World->Prop)} (h:Nu a i=none):Nu (a++[(i,φ)]) i=some φ:=by
 induction a with
 | nil=>simp[Nu]
 | cons p a c=>
  obtain ⟨k,ψ⟩:=p;simp only[Nu] at h
  split at h
  .cases h
  .rename_i b;simp only[List.cons_append,Nu,b,if_false];exact c h
def Pu (S:List Ent) (i:Nat) (o:Oper):Ent:=match mv o with | some x=>entOf S x | none=> .ref i
def B1 (S:List Ent):Nat->List Oper->List Ent
 | _,[]=>S
 | i,o::a=>B1 (putE S o.dst (Pu S i o)) (i+1) a
theorem Q9q: ∀(a:List Oper) (S:List Ent) (i k:Nat) (o:Oper),a[k]? =some o->
 B1 S i (a.take (k+1))=putE (B1 S i (a.take k)) o.dst (Pu (B1 S i (a.take k)) (i+k) o)
 | [],_,_,_,_,h=>by simp at h
 | x::a,S,i,0,o,h=>by
  simp only[List.getElem?_cons_zero,Option.some.injEq] at h;subst h
  simp[B1]
 | x::a,S,i,k+1,o,h=>by
  simp only[List.getElem?_cons_succ] at h;have:=Q9q a (putE S x.dst (Pu S i x)) (i+1) k o h;simp only[List.take_succ_cons,B1];rw[this,show i+1+k=i+(k+1) from by omega]
def Vp (S:List Ent) (D:List Nat):Prop:= ∀e∈S,∀j,e= .ref j->j∈D
theorem Vp.getE {S:List Ent} {D:List Nat} (h:Vp S D) {s j:Nat} (e:Go.Emb.getE S s= .ref j):j∈D:=by
 rw[Q0o] at e;cases a:S[s]? with
 | none=>rw[a] at e;cases e
 | some x=>rw[a] at e;exact h x (List.mem_of_getElem? a) j e
theorem Vp.putE {S:List Ent} {D:List Nat} (h:Vp S D) (d:Option Nat) {e:Ent} (c: ∀j,e= .ref j->j∈D):Vp (Go.Emb.putE S d e) D:=by
 cases d with
 | none=>exact h
 | some d=>
  intro x a j b;simp only[Go.Emb.putE,Q5l] at a
  rcases List.mem_or_eq_of_mem_set a with a | rfl
  .exact h x a j b
  .exact c j b
theorem Vp.mono {S:List Ent} {D D':List Nat} (h:Vp S D) (a: ∀j∈D,j∈D'):Vp S D':=fun e b j c=>a j (h e b j c)
theorem Vp.entOf {S:List Ent} {D:List Nat} (h:Vp S D) (x:Operand) {j:Nat} (e:Go.Emb.entOf S x= .ref j):j∈D:=by
 cases x with
 | tmp t=>exact h.getE e
 | _=>cases e
theorem X3H {S:List Ent} {D:List Nat} (h:Vp S D) {u a:Nat->Value} (c: ∀j∈D,a j=u j):Xd a S=Xd u S:=by
 unfold Xd;refine List.map_congr_left fun e b=>?_;cases e with
 | val v=>rfl
 | ref j=>exact c j (h _ b j rfl)
theorem Q6c {P:Program} {ops:List Oper} {l l':List Value} {o:Oper} (e:Ug o.op=true) (h: ∀s∈G9 ops o++K0 o,get l s=get l' s):runOp P ops l o=runOp P ops l' o:=by
 funext w K
 unfold runOp
 rw[Bj e fun x f=>by
  cases x with
  | tmp s=>exact h s (List.mem_append_right _ (by simp only[K0,List.mem_filterMap];exact ⟨.tmp s,by simpa using f,rfl⟩))
  | _=>rfl]
 cases a:o.guard with
 | none=>rfl
 | some q=>
  obtain ⟨j,b⟩:=q;simp only;cases c:(ops[j]?).bind (·.dst) with
  | none=>rfl
  | some d=>simp only;rw[h d (List.mem_append_left _ (by simp[G9,a,c]))]
theorem Q7C {P:Program} {ops:List Oper} {l:List Value} {o:Oper} {w:World} {K d:Value->World->Prop} (c: ∀v w,K v w->d v w) (h:runOp P ops l o w K):runOp P ops l o w d:=by
 unfold runOp at*
 split at h
 .exact Xq c h
 .split at h
  .exact Q4c ((Ec h).imp (fun ⟨a,b⟩=>⟨a,Xq c b⟩) (fun ⟨a,b⟩=>⟨a,c _ _ b⟩))
  .exact h.elim
theorem Q6R {P:Program} {ops:List Oper} {L8:List Value->World->Prop} {o:Oper} {a:List Oper} {l:List Value} {w:World}
 (h:runOp P ops l o w (fun v w=>U1 P ops L8 a (put l o.dst v) w)):U1 P ops L8 (o::a) l w:=by
 simp only[U1];unfold runOp at h;cases e:o.guard with
 | none=>simp only[e] at h⊢;exact h
 | some q=>
  obtain ⟨j,b⟩:=q;simp only[e] at h⊢
  split at h
  .rename_i d c
   first | exact h | (simp only[c];exact h) | (rw[c];exact h)
  .exact h.elim
structure Whole (P : Program) (r : Bool) (ops : List Oper) (T : (Nat -> Iv) -> World -> World -> Prop) (B : World -> Prop) (L8 : List Value -> World -> Prop) (tail : List Oper) (Φ : Nat -> (Nat -> Value) -> Iv -> World -> Prop) (S : List Ent) (i : Nat) (rest : List Oper) (D : List Nat) : Prop where
  stable : ∀ k o, rest[k]? = some o -> mv o = none -> ∀ u iv w w', OkI r iv -> Φ (i + k) u (iv (i + k)) w -> T iv w w' -> Φ (i + k) u (iv (i + k)) w'
  loc : ∀ k o, rest[k]? = some o -> mv o = none -> ∀ u u', (∀ r ∈ (i + k) :: refs ops (B1 S i (rest.take k)) o, u r = u' r) -> Φ (i + k) u = Φ (i + k) u'
  run : ∀ k o, rest[k]? = some o -> mv o = none -> Ug o.op = true -> ∀ u iv w, OkI r iv -> B w -> (∀ j ∈ refs ops (B1 S i (rest.take k)) o, Φ j u (iv j) w) ->
    runOp P ops (Xd u (B1 S i (rest.take k))) o w (fun v w' => T iv w w' /\ ∀ u', (∀ r ∈ refs ops (B1 S i (rest.take k)) o, u' r = u r) -> u' (i + k) = v -> Φ (i + k) u' (Co r w, Co r w') w')
  last : ∀ u iv w, OkI r iv -> B w -> (∀ j ∈ D, Φ j u (iv j) w) -> (∀ k o, rest[k]? = some o -> mv o = none -> Φ (i + k) u (iv (i + k)) w) -> U1 P ops L8 tail (Xd u (B1 S i rest)) w
theorem Q3L (P:Program) (r:Bool) (ops:List Oper) (T:(Nat->Iv)->World->World->Prop) (B:World->Prop) (L8:List Value->World->Prop) (tail:List Oper): ∀(l:List Oper) (i:Nat) (S:List Ent) (t:Kh) (done:List Nat),
 Vp S done->(∀j,j∈done->j<i/\ ∃φ,Nu t j=some φ)->(∀j φ,Nu t j=some φ->j<i/\ ∀r∈φ.1,r∈done)->chain P r ops T B L8 tail i l S t done->
 ∃Φ:Nat->(Nat->Value)->Iv->World->Prop,(∀j R φ,Nu t j=some (R,φ)->Φ j=fun u p w=>φ (R.map u) p (u j) w)/\Whole P r ops T B L8 tail Φ S i l done
 | [],i,S,t,done,O,X,N,h=>by
  refine ⟨fun j u p w=>match Nu t j with | some (R,φ)=>φ (R.map u) p (u j) w | none=>True,fun j R φ hj=>by simp[hj],⟨by simp,by simp,by simp,?_⟩⟩
  intro u b w y hB J _;obtain ⟨C,m,d⟩:=Q6j done _ u _ h
  have n:=Q4f (X03 m y w hB) fun j hj R φ V=>by
   have:=J j hj;simp only[V] at this;rw[(d j).1 hj,show R.map C=R.map u from List.map_congr_left fun r g=>(d r).1 ((N j _ V).2 r g)];exact this
  rw[X3H O fun j hj=>(d j).1 hj,Ie] at n;exact n
 | o::l,i,S,t,done,O,X,N,h=>by
  simp only[chain] at h;cases z:mv o with
  | some x=>
   simp only[z] at h;have f:Pu S i o=entOf S x:=by simp[Pu,z]
   obtain ⟨Φ,m,d⟩:=Q3L P r ops T B L8 tail l (i+1) _ t done (O.putE _ fun j hj=>O.entOf x hj) (fun j hj=>⟨by have:=(X j hj).1;omega,(X j hj).2⟩) (fun j φ hj=>⟨by have:=(N j φ hj).1;omega,(N j φ hj).2⟩) h
   refine ⟨Φ,m,⟨?_,?_,?_,?_⟩⟩
   .intro k q c a
    cases k with
    | zero=>simp only[List.getElem?_cons_zero,Option.some.injEq] at c;subst c;rw[z] at a;cases a
    | succ k=>have:=d.stable k q (by simpa using c) a;rwa [show i+1+k=i+(k+1) from by omega] at this
   .intro k q c a u C Q
    cases k with
    | zero=>simp only[List.getElem?_cons_zero,Option.some.injEq] at c;subst c;rw[z] at a;cases a
    | succ k=>
     simp only[List.take_succ_cons,B1,f] at Q;have:=d.loc k q (by simpa using c) a u C (by rwa [show i+1+k=i+(k+1) from by omega])
     rwa [show i+1+k=i+(k+1) from by omega] at this
   .intro k q c a D u b w y hB g
    cases k with
    | zero=>simp only[List.getElem?_cons_zero,Option.some.injEq] at c;subst c;rw[z] at a;cases a
    | succ k=>
     simp only[List.take_succ_cons,B1,f] at g⊢;have:=d.run k q (by simpa using c) a D u b w y hB g
     rwa [show i+1+k=i+(k+1) from by omega] at this
   .intro u b w y hB J Z
    simp only[B1,f];refine d.last u b w y hB J fun k q c a=>?_;have:=Z (k+1) q (by simpa using c) a
    rwa [show i+(k+1)=i+1+k from by omega] at this
  | none=>
   have h': ∃(R:List Nat) (φ:List Value->Iv->Value->World->Prop),(∀r∈R,r∈refs ops S o)/\(∀xs b,OkI r b->Oc (T b) (φ xs (b i)))/\
    (Df (refs ops S o) (fun _=>undef) fun u=>Ek r fun b=> ∀w,B w->Dj t u b w (runOp P ops (Xd u S) o w (fun v w'=>T b w w'/\φ (R.map u) (Co r w,Co r w') v w')) (refs ops S o))/\
    chain P r ops T B L8 tail (i+1) l (putE S o.dst (.ref i)) (t++[(i,R,φ)]) (done++[i]):=by
    cases L:X49 r o with
    | true=>
     cases r with
     | true=>
      simp only[z,L,X6F,Q6p] at h;obtain ⟨φ,m,d,n⟩:=h;exact ⟨_,fun xs _=>φ xs,fun _ h=>h,fun xs b e=>m xs b e,d,n⟩
     | false=>
      simp only[z,L,X2V,Q8b] at h;obtain ⟨φ,m,d,n⟩:=h;exact ⟨_,fun xs _=>φ xs,fun _ h=>h,fun xs b e=>by have e:b=_:=e;subst e;exact m xs,d,n⟩
    | false=>
     cases Y:X48 r o with
     | true=>
      simp only[z,L,Y,X8l,Q8a] at h;obtain ⟨φ,m,d,n⟩:=h;cases r with
      | false=>cases Y
      | true=>exact ⟨[],fun _=>φ,by simp,fun _ b e=>m b e,d,n⟩
     | false=>
      cases r with
      | true=>
       simp only[z,L,Y,X8k,Q89] at h;obtain ⟨φ,m,d,n⟩:=h;exact ⟨[],fun _ _=>φ,by simp,fun _ b e=>m b e,d,n⟩
      | false=>
       simp only[z,L,Y,X57,X0s] at h;obtain ⟨φ,m,d,n⟩:=h;exact ⟨[],fun _ _=>φ,by simp,fun _ b e=>by have e:b=_:=e;subst e;exact m,d,n⟩
   clear h;obtain ⟨R,φ,W,ad,U,h⟩:=h'
   have ac: ∀r∈refs ops S o,r∈done:=fun r g=>by
    obtain ⟨s,_,he⟩:=Ag (Tp g);exact O.entOf (.tmp s) he
   have f:Pu S i o= .ref i:=by simp[Pu,z]
   have A:Nu t i=none:=by
    cases J:Nu t i with
    | none=>rfl
    | some ψ=>have:=(N i ψ J).1;omega
   obtain ⟨Φ,m,d⟩:=Q3L P r ops T B L8 tail l (i+1) _ (t++[(i,R,φ)]) (done++[i])
    ((O.mono fun j hj=>List.mem_append_left _ hj).putE _ fun j hj=>by cases hj;simp)
    (fun j hj=>by
     rcases List.mem_append.1 hj with hj | hj
     .obtain ⟨n,ψ,H⟩:=X j hj
      exact ⟨by omega,ψ,by rw[Q1J Q5];exact H⟩
     .simp at hj;subst hj;exact ⟨by omega,(R,φ),Ru A⟩)
    (fun j ψ hj=>by
     by_cases e:i=j
     .subst e
      rw[Ru A] at hj;cases hj;exact ⟨by omega,fun r g=>List.mem_append_left _ (ac r (W r g))⟩
     .rw[Q1J e] at hj
      obtain ⟨n,H⟩:=N j ψ hj;exact ⟨by omega,fun r g=>List.mem_append_left _ (H r g)⟩) h
   have M:Φ i=fun u p w=>φ (R.map u) p (u i) w:=m i R φ (Ru A);have E: ∀j R' ψ,Nu t j=some (R',ψ)->Φ j=fun u p w=>ψ (R'.map u) p (u j) w:=fun j R' ψ hj=>m j R' ψ (by rw[Q1J (by have:=(N j _ hj).1;omega)];exact hj)
   refine ⟨Φ,E,⟨?_,?_,?_,?_⟩⟩
   .intro k q c a
    cases k with
    | zero=>
     intro u b w w' y ha hT;rw[Nat.add_zero,M] at ha⊢;exact ad _ b y _ _ _ ha hT
    | succ k=>have:=d.stable k q (by simpa using c) a;rwa [show i+1+k=i+(k+1) from by omega] at this
   .intro k q c a u C Q
    cases k with
    | zero=>
     simp only[List.getElem?_cons_zero,Option.some.injEq] at c;subst c;simp only[List.take_zero,B1,Nat.add_zero] at Q;rw[Nat.add_zero,M]
     funext p w
     show φ (R.map u) p (u i) w=φ (R.map C) p (C i) w
     rw[show R.map u=R.map C from List.map_congr_left fun r g=>Q r (List.mem_cons_of_mem _ (W r g)),Q i V5]
    | succ k=>
     simp only[List.take_succ_cons,B1,f] at Q;have:=d.loc k q (by simpa using c) a u C (by rwa [show i+1+k=i+(k+1) from by omega])
     rwa [show i+1+k=i+(k+1) from by omega] at this
   .intro k q c a D u b w y hB g
    cases k with
    | zero=>
     simp only[List.getElem?_cons_zero,Option.some.injEq] at c;subst c;simp only[List.take_zero,B1,Nat.add_zero] at g⊢;obtain ⟨C,n,H⟩:=Q6j _ _ u _ U
     have h5:=Q6s (X03 n y w hB) fun j hj ψ hψ=>by
      have h6:=g j hj;rw[E j [] ψ hψ] at h6;rw[(H j).1 hj];exact h6
     rw[Q6c D (l':=Xd u S)] at h5
     .refine Q7C ?_ h5
      rintro v w' ⟨hT,hf⟩;refine ⟨hT,fun u2 ae hi=>?_⟩;rw[M]
      show φ (R.map u2) (Co r w,Co r w') (u2 i) w'
      rw[hi,show R.map u2=R.map C from List.map_congr_left fun r g=>by rw[ae r (W r g),(H r).1 (W r g)]]
      exact hf
     .intro s L
      rw[Q18,Q18];cases he:getE S s with
      | val v=>rfl
      | ref j=>exact (H j).1 (Q98 (Q99 L he))
    | succ k=>
     simp only[List.take_succ_cons,B1,f] at g⊢;have:=d.run k q (by simpa using c) a D u b w y hB g
     rwa [show i+1+k=i+(k+1) from by omega] at this
   .intro u b w y hB J Z
    simp only[B1,f];refine d.last u b w y hB (fun j hj=>?_) fun k q c a=>?_
    .rcases List.mem_append.1 hj with hj | hj
     .exact J j hj
     .simp at hj;subst hj
      have:=Z 0 o V5 z
      simpa using this
    .have:=Z (k+1) q (by simpa using c) a
     rwa [show i+(k+1)=i+1+k from by omega] at this
def Zy (os:List Oper) (S0:List Ent) (q:Nat):Ent:=
 match os[q]? with
 | some o=>Pu (B1 S0 0 (os.take q)) q o
 | none=> .val undef
theorem X3l {os:List Oper} {S0:List Ent} {q:Nat} {o:Oper} (h:os[q]? =some o):B1 S0 0 (os.take (q+1))=putE (B1 S0 0 (os.take q)) o.dst (Zy os S0 q):=by
 rw[Q9q os S0 0 q o h]
 simp[Zy,h]
theorem X2o (S:List Ent) (d:Option Nat) (e:Ent):(putE S d e).length=S.length:=by
 cases d with
 | none=>rfl
 | some d=>simp[putE,Q5l]
theorem Q2t (os:List Oper) (S0:List Ent): ∀q,q<=os.length->(B1 S0 0 (os.take q)).length=S0.length
 | 0,_=>by simp[B1]
 | q+1,h=>by rw[X3l (List.getElem?_eq_getElem Q5),X2o,Q2t os S0 q Q5]
theorem Tb {os:List Oper} {S0:List Ent} (u:Uf (I2 os)=true) (t: ∀d∈I2 os,d<S0.length): ∀q,q<=os.length->
 (∀p,p<q-> ∀o d,os[p]? =some o->o.dst=some d->(B1 S0 0 (os.take q))[d]? =some (Zy os S0 p))/\
  (∀s,(∀p,p<q-> ∀o,os[p]? =some o->o.dst≠some s)->(B1 S0 0 (os.take q))[s]? =S0[s]?)
 | 0,_=>⟨fun p k=>absurd k Q5,fun s _=>by simp[B1]⟩
 | q+1,h=>by
  obtain ⟨n,r⟩:=Tb u t q Q5;have j:os[q]? =some os[q]:=List.getElem?_eq_getElem Q5;have i:=Q2t os S0 q Q5;rw[X3l j];cases a:os[q].dst with
  | none=>
   refine ⟨fun p k o d c b=>?_,fun s l=>r s fun p k=>l p Q5⟩
   by_cases e:p=q
   .subst e;rw[j] at c;cases c;rw[a] at b;cases b
   .exact n p Q5 o d c b
  | some g=>
   have m:g<S0.length:=t g (by simp only[I2,List.mem_filterMap];exact ⟨os[q],List.getElem_mem _,a⟩)
   simp only[putE,Q5l];refine ⟨fun p k o d c b=>?_,fun s l=>?_⟩
   .by_cases e:p=q
    .subst e;rw[j] at c;cases c;rw[a] at b;cases b
     rw[List.getElem?_set_self (by rw[i];exact m)]
    .have f:g≠d:=by
      rintro rfl;exact e (Uw os u p q o os[q] g c j b a)
     rw[List.getElem?_set_ne f];exact n p Q5 o d c b
   .have f:g≠s:=fun e=>l q Q5 os[q] j (by rw[a,e])
    rw[List.getElem?_set_ne f];exact r s fun p k=>l p Q5
def Ro (os:List Oper) (p:Nat):Bool:=
 match os[p]? with
 | some o=>match mv o with
  | some (.tmp s)=> !(I2 os).contains s
  | some _=>true
  | none=>false
 | none=>false
theorem Y02 {P:Program} {o:Oper} {x:Operand} (h:mv o=some x) (l:List Value) (w:World) (K:Value->World->Prop):o.guard=none/\D2 P l o w K=K (ev l x) w:=by
 unfold mv at h
 split at h
 .cases h
 .rename_i b
  refine ⟨b,?_⟩
  split at h
  .rename_i y a;cases h;simp only[D2,a]
  .rename_i y a;cases h;simp only[D2,a]
  .cases h
theorem X26 {P:Program} {ops:List Oper} {L8:List Value->World->Prop} {o:Oper} {c a:List Oper} {l l':List Value} {w:World} (p:Ug o.op=true) (n: ∀s∈G9 ops o++K0 o,get l' s=get l s)
 (f: ∀v w,U1 P ops L8 c (put l o.dst v) w->U1 P ops L8 a (put l' o.dst v) w) (h:U1 P ops L8 (o::c) l w):U1 P ops L8 (o::a) l' w:=by
 have m:D2 P l' o=D2 P l o:=Bj p fun x r=>by
  cases x with
  | tmp s=>exact n s (List.mem_append_right _ (by simp only[K0,List.mem_filterMap];exact ⟨.tmp s,by simpa using r,rfl⟩))
  | _=>rfl
 simp only[U1] at h⊢;cases e:o.guard with
 | none=>simp only[e] at h⊢;rw[m];exact Xq f h
 | some q=>
  obtain ⟨j,b⟩:=q;simp only[e] at h⊢;cases k:(ops[j]?).bind (·.dst) with
  | none=>simp only[k] at h⊢;exact f _ _ h
  | some d=>
   simp only[k] at h⊢;rw[n d (List.mem_append_left _ (by simp[G9,e,k])),m]
   exact Q4c ((Ec h).imp (fun ⟨g,i⟩=>⟨g,Xq f i⟩) (fun ⟨g,i⟩=>⟨g,f _ _ i⟩))
structure At (os : List Oper) (l0 : List Value) (pre : List Nat) (l : List Value) (u : Nat -> Value) : Prop where
  len : l.length = l0.length
  done : ∀ p ∈ pre, ∀ o d, os[p]? = some o -> o.dst = some d -> l[d]? = some ((Zy os (l0.map .val) p).at u)
  rest : ∀ s, (∀ p ∈ pre, ∀ o, os[p]? = some o -> o.dst ≠ some s) -> l[s]? = l0[s]?
  refs : ∀ p ∈ pre, ∀ r, Zy os (l0.map .val) p = .ref r -> r ∈ pre /\ ∃ o, os[r]? = some o /\ mv o = none
theorem Y1r {P:Program} {r0:Bool} {ops os:List Oper} {T:(Nat->Iv)->World->World->Prop} {B:World->Prop} {L8:List Value->World->Prop} {m:Nat} {C:List Value} {Φ:Nat->(Nat->Value)->Iv->World->Prop}
 (bit:Nat->Nat->Bool) (bz: ∀o∈os,Ug o.op=true) (hn:Uf (I2 os)=true) (hd: ∀d∈I2 os,d<C.length)
 (ae: ∀p q a b,p<q->os[p]? =some a->os[q]? =some b->(Zp a b||Zp b a)=true->bit p q=true)
 (hg: ∀q o j b,os[q]? =some o->o.guard=some (j,b)-> ∃p,p<q/\os[p]? =ops[j]? /\bit p q=true)
 (hm:m<=os.length) (an: ∀q,m<=q->q<os.length-> ∀p,p<q->bit p q=true\/(p<m/\Ro os p=true))
 (hT: ∀iv w w',B w->T iv w w'->B w') (hM: ∀iv w w',T iv w w'->Co r0 w<=Co r0 w') (hW:Whole P r0 ops T B L8 (os.drop m) Φ (C.map .val) 0 (os.take m) [])
 (L:List Nat) (H:L.Nodup) (bo:L.length=os.length) (ac: ∀q∈L,q<os.length)
 (hC: ∀c q f,L=c++q::f-> ∀p,bit p q=true->p<os.length->p∈c):
 ∀(f c:List Nat),L=c++f->(∀q∈c,q<m)-> ∀(l:List Value) (u:Nat->Value) (iv:Nat->Iv) (w:World),Tl r0 iv w->At os C c l u->B w->
  (∀r∈c,∀o,os[r]? =some o->mv o=none->Φ r u (iv r) w/\ ∀j∈refs ops (B1 (C.map .val) 0 (os.take r)) o,j∈c)->U1 P ops L8 (f.filterMap (os[·]?)) l w:=by
 have a8: ∀d∈I2 os,d<(C.map Ent.val).length:=by simpa using hd
 have a4: ∀q,q<=m->(os.take m).take q=os.take q:=fun q hq=>by rw[List.take_take,Nat.min_eq_left hq]
 have X: ∀q,q<m->(os.take m)[q]? =os[q]? :=fun q hq=>by rw[List.getElem?_take_of_lt hq]
 -- when all of the first part is done
 have cq: ∀(c f:List Nat),L=c++f->(∀q∈c,q<m)->(∀q,q<m->q∈c)-> ∀l u iv w,Tl r0 iv w->At os C c l u->B w->
  (∀r∈c,∀o,os[r]? =some o->mv o=none->Φ r u (iv r) w/\ ∀j∈refs ops (B1 (C.map .val) 0 (os.take r)) o,j∈c)->U1 P ops L8 (f.filterMap (os[·]?)) l w:=by
  intro c f E D ao l u iv w hI hA hB hΦ
  have cf: ∀(f c:List Nat),L=c++f->m<=c.length->(∀q,q∈c↔q<c.length)->f.filterMap (os[·]?)=os.drop c.length:=by
   intro f
   induction f with
   | nil=>
    intro c E _ _;rw[List.append_nil] at E;rw[<-E,bo];simp
   | cons q f ih=>
    intro c E da ax
    have cy:q∉c:=by
     rw[E] at H;intro h;exact (List.nodup_append.1 H).2.2 q h q V5 rfl
    have cv:c.length<=q:=Nat.le_of_not_lt fun h=>cy ((ax q).2 h);have V:=ac q (by rw[E];simp)
    have cw:q=c.length:=by
     refine Nat.le_antisymm (Nat.le_of_not_lt fun h=>?_) cv;have:=hC c q f E c.length ((an q Q5 V _ h).resolve_right Q5) Q5;have:=(ax _).1 this;omega
    subst cw;rw[List.filterMap_cons,List.getElem?_eq_getElem V];simp only;rw[ih (c++[c.length]) (by rw[E];simp) (by simp;omega) (by intro x;simp only[List.mem_append,ax,List.mem_singleton,List.length_append,List.length_cons,List.length_nil];omega)]
    simp only[List.length_append,List.length_cons,List.length_nil];rw[<-List.drop_eq_getElem_cons V]
  have bk:c.length=m:=by
   have J:=I0 m c (by rw[E] at H;exact (List.nodup_append.1 H).1) D
   have R:=Dk m c ao;omega
  have J:=cf f c E Q5 (fun q=>by rw[bk];exact ⟨D q,ao q⟩)
  rw[J,bk]
  have R:=hW.last u iv w hI.1 hB V5 fun k o hk t=>by
   have az:k<m:=by
    have:=(List.getElem?_eq_some_iff.1 hk).1
    simp at this;omega
   rw[Nat.zero_add];rw[X k az] at hk;exact (hΦ k (ao k az) o hk t).1
  have h3:l=Xd u (B1 (C.map .val) 0 (os.take m)):=by
   obtain ⟨g1,g2⟩:=Tb hn a8 m hm;apply List.ext_getElem?;intro s;rw[Xd,List.getElem?_map]
   by_cases hs: ∃p,p<m/\ ∃o,os[p]? =some o/\o.dst=some s
   .obtain ⟨p,hp,o,i,z⟩:=hs
    rw[hA.done p (ao p hp) o s i z,g1 p hp o s i z];rfl
   .have af: ∀p,p<m-> ∀o,os[p]? =some o->o.dst≠some s:=fun p hp o i z=>hs ⟨p,hp,o,i,z⟩
    rw[hA.rest s (fun p hp=>af p (D p hp)),g2 s af,List.getElem?_map];cases C[s]? <;>rfl
  rw[h3];exact R
 -- moves that come late, among the tail
 have cj: ∀(f c:List Nat) (k:Nat),L=c++f->m<=k->k<=os.length->(∀q,m<=q->(q∈c↔q<k))->(∀p∈f,p<m->Ro os p=true)->
  ∀(l lf:List Value) (w:World),l.length=C.length->lf.length=C.length->(∀s,(∀p∈f,p<m-> ∀o,os[p]? =some o->o.dst≠some s)->l[s]? =lf[s]?)->
   (∀p∈f,p<m-> ∀o d x,os[p]? =some o->mv o=some x->o.dst=some d->lf[d]? =some (ev C x))->(∀s,(I2 os).contains s=false->l[s]? =C[s]?)->
   U1 P ops L8 (os.drop k) lf w->U1 P ops L8 (f.filterMap (os[·]?)) l w:=by
  intro f
  induction f with
  | nil=>
   intro c k E bb bu ad _ l lf w hl ba ap _ _ h;rw[List.append_nil] at E
   have hk:k=os.length:=by
    refine Nat.le_antisymm bu (Nat.le_of_not_lt fun D=>?_);have cu:k∉c:=fun e=>by have:=(ad k bb).1 e;omega
    have J:=I0 os.length (k::c) (List.nodup_cons.2 ⟨cu,E▸H⟩) (fun x hx=>by
     rcases List.mem_cons.1 hx with rfl | hx
     .exact D
     .exact ac x (by rw[E];exact hx))
    simp at J
    rw[E] at bo;omega
   have:l=lf:=List.ext_getElem? fun s=>ap s V5;rw[this];rw[hk,List.drop_length] at h;exact h
  | cons q f ih=>
   intro c k E bb bu ad al l lf w hl ba ap a5 aa h
   have O:q∉c:=by
    rw[E] at H;intro h;exact (List.nodup_append.1 H).2.2 q h q V5 rfl
   have cp:q∉f:=by
    rw[E] at H;exact (List.nodup_cons.1 (List.nodup_append.1 H).2.1).1
   have V:=ac q (by rw[E];simp)
   have A:os[q]? =some os[q]:=List.getElem?_eq_getElem V;have b7:L=(c++[q])++f:=by rw[E];simp
   rw[List.filterMap_cons,A];simp only
   by_cases Z:q<m
   ·-- a late move
    have D:=al q V5 Z;unfold Ro at D;rw[A] at D;simp only at D;cases t:mv os[q] with
    | none=>rw[t] at D;cases D
    | some x=>
     rw[t] at D
     have hx:ev l x=ev C x:=by
      cases x with
      | tmp s=>
       simp only[Bool.not_eq_true'] at D;simp only[ev,get,List.getD_eq_getElem?_getD,aa s D]
      | _=>rfl
     obtain ⟨a9,aw⟩:=Y02 (P:=P) t l w (fun v w=>U1 P ops L8 (f.filterMap (os[·]?)) (put l os[q].dst v) w);simp only[U1,a9];rw[aw,hx];refine ih (c++[q]) k b7 bb bu (fun q' a1=>?_) (fun p hp=>al p (by simp[hp])) _ lf w ?_ ba (fun s hs=>?_) (fun p hp=>a5 p (by simp[hp])) (fun s hs=>?_) h
     .rw[<-ad q' a1];simp only[List.mem_append,List.mem_singleton]
      exact ⟨fun e=>e.resolve_right Q5, .inl⟩
     .cases g:os[q].dst<;>simp[put,hl]
     .cases g:os[q].dst with
      | none=>
       refine ap s fun p hp M o i=>?_
       rcases List.mem_cons.1 hp with rfl | hp
       .rw[A] at i;cases i;rw[g];simp
       .exact hs p hp M o i
      | some d=>
       have aq:d<C.length:=hd d (by simp only[I2,List.mem_filterMap];exact ⟨os[q],List.getElem_mem _,g⟩)
       simp only[put]
       by_cases e:d=s
       .subst e
        rw[List.getElem?_set_self (by rw[hl];exact aq)]
        exact (a5 q V5 Z os[q] d x A t g).symm
       .rw[List.getElem?_set_ne e]
        refine ap s fun p hp M o i=>?_
        rcases List.mem_cons.1 hp with rfl | hp
        .rw[A] at i;cases i;rw[g];simpa using e
        .exact hs p hp M o i
     .cases g:os[q].dst with
      | none=>exact aa s hs
      | some d=>
       have ai:(I2 os).contains d=true:=by
        rw[List.contains_iff_mem];simp only[I2,List.mem_filterMap];exact ⟨os[q],List.getElem_mem _,g⟩
       simp only[put];rw[List.getElem?_set_ne (by rintro rfl;rw[hs] at ai;cases ai)]
       exact aa s hs
   .have Z:m<=q:=by omega
    have cx:q=k:=by
     have J:k<=q:=Nat.le_of_not_lt fun e=>O ((ad q Z).2 e);refine Nat.le_antisymm (Nat.le_of_not_lt fun e=>?_) J;have:=hC c q f E k ((an q Z V k e).resolve_right Q5) Q5;have:=(ad k bb).1 this;omega
    subst cx;rw[List.drop_eq_getElem_cons V] at h
    have cb: ∀p∈f,p<m->bit p q=true->False:=fun p hp M hb=>by
     have:=hC c q f E p hb Q5;rw[E] at H;exact (List.nodup_append.1 H).2.2 p this p (by simp[hp]) rfl
    refine X26 (bz _ (List.getElem_mem _)) (fun s hs=>?_) (fun v w' hv=>?_) h
    .have:l[s]? =lf[s]? :=ap s fun p hp M o i z=>by
      rcases List.mem_cons.1 hp with rfl | hp
      .omega
      refine cb p hp M ?_
      rcases List.mem_append.1 hs with hs | hs
      .unfold G9 at hs
       split at hs
       .simp at hs
       .rename_i j b br
        split at hs
        .rename_i d bq
         simp only[List.mem_singleton] at hs;subst hs;obtain ⟨p',av,bx,hb⟩:=hg q os[q] j b A br;obtain ⟨o',bw,cc⟩:=Option.bind_eq_some_iff.1 bq;have:=Uw os hn p' p o' o s (by rw[bx,bw]) i cc z
         subst this;exact hb
        .simp at hs
      .exact ae p q o os[q] Q5 i A (by simp only[Zp,z,Bool.or_eq_true];left;left;simpa using hs)
     simp only[get,List.getD_eq_getElem?_getD,this]
    .refine ih (c++[q]) (q+1) b7 Q5 Q5 (fun q' a1=>?_) (fun p hp=>al p (by simp[hp])) _ _ w' ?_ ?_ (fun s hs=>?_) (fun p hp M o d x i bc z=>?_) (fun s hs=>?_) hv
     .simp only[List.mem_append,List.mem_singleton,ad q' a1];omega
     .cases g:os[q].dst<;>simp[put,hl]
     .cases g:os[q].dst<;>simp[put,ba]
     .have hb:l[s]? =lf[s]? \/os[q].dst=some s:=by
       left;refine ap s fun p hp M o i=>?_
       rcases List.mem_cons.1 hp with rfl | hp
       .omega
       .exact hs p hp M o i
      cases g:os[q].dst with
      | none=>
       rcases hb with hb | hb
       .exact hb
       .rw[g] at hb;cases hb
      | some d=>
       simp only[put]
       by_cases e:d=s
       .subst e
        have aq:d<C.length:=hd d (by simp only[I2,List.mem_filterMap];exact ⟨os[q],List.getElem_mem _,g⟩)
        rw[List.getElem?_set_self (by rw[hl];exact aq),List.getElem?_set_self (by rw[ba];exact aq)]
       .rw[List.getElem?_set_ne e,List.getElem?_set_ne e]
        rcases hb with hb | hb
        .exact hb
        .rw[g] at hb;cases hb;exact absurd rfl e
     .have cg:=a5 p (by simp[hp]) M o d x i bc z
      cases g:os[q].dst with
      | none=>exact cg
      | some d'=>
       have Y:d'≠d:=by
        rintro rfl;have:=Uw os hn p q o os[q] d' i A z g;omega
       simp only[put];rw[List.getElem?_set_ne Y];exact cg
     .cases g:os[q].dst with
      | none=>exact aa s hs
      | some d=>
       have ai:(I2 os).contains d=true:=by
        rw[List.contains_iff_mem];simp only[I2,List.mem_filterMap];exact ⟨os[q],List.getElem_mem _,g⟩
       simp only[put];rw[List.getElem?_set_ne (by rintro rfl;rw[hs] at ai;cases ai)]
       exact aa s hs
 intro f
 induction f with
 | nil=>
  intro c E D l u iv w hI hA hB hΦ;refine cq c [] E D ?_ l u iv w hI hA hB hΦ;intro q hq;rw[List.append_nil] at E;refine Classical.byContradiction fun a0=>?_
  have J:=I0 os.length (q::c) (List.nodup_cons.2 ⟨a0,E▸H⟩) (fun k hk=>by
   rcases List.mem_cons.1 hk with rfl | hk
   .omega
   .exact ac k (by rw[E];exact hk))
  simp at J
  rw[E] at bo;omega
 | cons q f ih=>
  intro c E D l u iv w hI hA hB hΦ
  have O:q∉c:=by
   rw[E] at H;intro h;exact (List.nodup_append.1 H).2.2 q h q V5 rfl
  have V:=ac q (by rw[E];simp)
  by_cases Z:m<=q
  ·-- the tail begins
   have am: ∀p,p<m->p∉c->Ro os p=true:=fun p hp bv=>by
    rcases an q Z V p Q5 with h | h
    .exact absurd (hC c q f E p h Q5) bv
    .exact h.2
   have bg: ∀p,Ro os p=true-> ∀o,os[p]? =some o-> ∃x,mv o=some x/\ ∀s,x= .tmp s->(I2 os).contains s=false:=by
    intro p hp o i;unfold Ro at hp;rw[i] at hp;simp only at hp;cases N:mv o with
    | none=>rw[N] at hp;cases hp
    | some x=>
     refine ⟨x,rfl,fun s hs=>?_⟩;subst hs;rw[N] at hp;simpa using hp
   obtain ⟨g1,g2⟩:=Tb hn a8 m hm
   have bj: ∀s,(I2 os).contains s=false-> ∀(p:Nat) o,os[p]? =some o->o.dst≠some s:=by
    intro s hs p o i z
    have:(I2 os).contains s=true:=by
     rw[List.contains_iff_mem];simp only[I2,List.mem_filterMap];exact ⟨o,List.mem_of_getElem? i,z⟩
    rw[hs] at this;cases this
   refine cj (q::f) c m E (Nat.le_refl _) hm (fun q' a1=>⟨fun e=>D q' e,fun e=>absurd a1 Q5⟩) (fun p hp M=>am p M fun e=>by
    rw[E] at H;exact (List.nodup_append.1 H).2.2 p e p hp rfl) l (Xd u (B1 (C.map .val) 0 (os.take m))) w hA.len (by simp[Xd,Q2t os _ m hm]) (fun s hs=>?_) (fun p hp M o d x i bc z=>?_) (fun s hs=>?_) ?_
   .rw[Xd,List.getElem?_map]
    by_cases ar: ∃p,p<m/\ ∃o,os[p]? =some o/\o.dst=some s
    .obtain ⟨p,hp,o,i,z⟩:=ar
     by_cases U:p∈c
     .rw[hA.done p U o s i z,g1 p hp o s i z];rfl
     .exfalso
      have cd:p∈L:=by
       refine Classical.byContradiction fun a0=>?_
       have J:=I0 os.length (p::L) (List.nodup_cons.2 ⟨a0,H⟩) (fun k hk=>by
        rcases List.mem_cons.1 hk with rfl | hk
        .omega
        .exact ac k hk)
       simp at J;omega
      rw[E] at cd
      rcases List.mem_append.1 cd with h | h
      .exact U h
      .exact hs p h hp o i z
    .have af: ∀p,p<m-> ∀o,os[p]? =some o->o.dst≠some s:=fun p hp o i z=>ar ⟨p,hp,o,i,z⟩
     rw[hA.rest s (fun p hp=>af p (D p hp)),g2 s af,List.getElem?_map];cases C[s]? <;>rfl
   .have U:p∉c:=fun e=>by
     rw[E] at H;exact (List.nodup_append.1 H).2.2 p e p hp rfl
    rw[Xd,List.getElem?_map,g1 p M o d i z];simp only[Option.map_some,Option.some.injEq];have W:Zy os (C.map .val) p=entOf (B1 (C.map .val) 0 (os.take p)) x:=by simp[Zy,i,Pu,bc]
    rw[W];obtain ⟨x',ch,c1⟩:=bg p (am p M U) o i;rw[bc] at ch;cases ch;cases x with
    | tmp s=>
     have hs:=c1 s rfl;obtain ⟨_,k2⟩:=Tb (S0:=C.map .val) hn a8 p Q5;simp only[entOf];rw[Q0o,k2 s (fun p' _ o' bw=>bj s hs p' o' bw),List.getElem?_map];simp only[ev,get,List.getD_eq_getElem?_getD];cases C[s]? <;>rfl
    | _=>rfl
   .exact hA.rest s fun p _ o i=>bj s hs p o i
   .refine hW.last u iv w hI.1 hB V5 fun k o hk t=>?_
    have az:k<m:=by
     have:=(List.getElem?_eq_some_iff.1 hk).1
     simp at this;omega
    rw[Nat.zero_add];rw[X k az] at hk;refine (hΦ k (Classical.byContradiction fun bv=>?_) o hk t).1;obtain ⟨x,hx,_⟩:=bg k (am k az bv) o hk;rw[t] at hx;cases hx
  .have Z:q<m:=by omega
   have A:os[q]? =some os[q]:=List.getElem?_eq_getElem V;obtain ⟨g1,g2⟩:=Tb (S0:=C.map .val) hn a8 q Q5
   -- what a slot holds that this operation reads
   have ag: ∀s,(∃p o,os[p]? =some o/\o.dst=some s/\p<q/\bit p q=true)\/s∈K0 os[q]->
    get l s=(getE (B1 (C.map .val) 0 (os.take q)) s).at u/\ ∀r,getE (B1 (C.map .val) 0 (os.take q)) s= .ref r->r∈c/\ ∃o,os[r]? =some o/\mv o=none:=by
    intro s hs
    have af:(∀p∈c,∀o,os[p]? =some o->o.dst≠some s)->(∀p,p<q-> ∀o,os[p]? =some o->o.dst≠some s)->
     get l s=(getE (B1 (C.map .val) 0 (os.take q)) s).at u/\ ∀r,getE (B1 (C.map .val) 0 (os.take q)) s= .ref r->r∈c/\ ∃o,os[r]? =some o/\mv o=none:=by
     intro J R;rw[Q0o,g2 s R,List.getElem?_map];simp only[get,List.getD_eq_getElem?_getD,hA.rest s J];cases C[s]? with
     | none=>exact ⟨rfl,fun r hr=>by cases hr⟩
     | some v=>exact ⟨rfl,fun r hr=>by cases hr⟩
    have bm: ∀p o,os[p]? =some o->o.dst=some s->p<q->p∈c->
     get l s=(getE (B1 (C.map .val) 0 (os.take q)) s).at u/\ ∀r,getE (B1 (C.map .val) 0 (os.take q)) s= .ref r->r∈c/\ ∃o,os[r]? =some o/\mv o=none:=by
     intro p o hp i av U;rw[Q0o,g1 p av o s hp i];simp only[get,List.getD_eq_getElem?_getD,hA.done p U o s hp i,Option.getD_some]
     first | exact ⟨rfl,hA.refs p U⟩ | exact ⟨trivial,hA.refs p U⟩
    rcases hs with ⟨p,o,hp,i,av,hb⟩ | hs
    .exact bm p o hp i av (hC c q f E p hb Q5)
    .by_cases ar: ∃(p:Nat) (o:Oper),os[p]? =some o/\o.dst=some s
     .obtain ⟨p,o,hp,i⟩:=ar
      have c5:=(List.getElem?_eq_some_iff.1 hp).1;have aa: ∀p' o',os[p']? =some o'->o'.dst=some s->p'=p:=fun p' o' J R=>Uw os hn p' p o' o s J hp R i
      rcases Nat.lt_trichotomy p q with h | h | h
      .have hb:=ae p q o os[q] h hp A (by simp only[Zp,i,Bool.or_eq_true];left;left;simpa using hs)
       exact bm p o hp i h (hC c q f E p hb Q5)
      .subst h
       exact af (fun p' aj o' J R=>by rw[aa p' o' J R] at aj;exact O aj) (fun p' aj o' J R=>by rw[aa p' o' J R] at aj;omega)
      .refine af (fun p' aj o' J R=>?_) (fun p' aj o' J R=>by rw[aa p' o' J R] at aj;omega)
       have e:=aa p' o' J R;subst e;have hb:=ae q p' os[q] o' h A J (by simp only[Zp,R,Bool.or_eq_true];right;left;simpa using hs)
       obtain ⟨p1,p2,U⟩:=List.append_of_mem aj;have:=hC p1 p' (p2++q::f) (by rw[E,U];simp) q hb V
       exact O (by rw[U];exact List.mem_append_left _ this)
     .exact af (fun p _ o J R=>ar ⟨p,o,J,R⟩) (fun p _ o J R=>ar ⟨p,o,J,R⟩)
   have bs: ∀s∈G9 ops os[q]++K0 os[q],(∃p o,os[p]? =some o/\o.dst=some s/\p<q/\bit p q=true)\/s∈K0 os[q]:=by
    intro s hs
    rcases List.mem_append.1 hs with hs | hs
    .left
     unfold G9 at hs
     split at hs
     .simp at hs
     .rename_i j b br
      split at hs
      .rename_i d bq
       simp only[List.mem_singleton] at hs;subst hs;obtain ⟨p,av,bx,hb⟩:=hg q os[q] j b A br;obtain ⟨o,i,z⟩:=Option.bind_eq_some_iff.1 bq;exact ⟨p,o,by rw[bx,i],z,av,hb⟩
      .simp at hs
    .exact .inr hs
   have a3:=X q Z;rw[A] at a3;rw[List.filterMap_cons,A];simp only
   -- the state behind it
   have step: ∀(v:Value) (u':Nat->Value) (be:Nat->Iv) (w':World),Tl r0 be w'->(∀p∈c,(Zy os (C.map .val) p).at u'=(Zy os (C.map .val) p).at u)->v=(Zy os (C.map .val) q).at u'->
    (∀r,Zy os (C.map .val) q= .ref r->r∈q::c/\ ∃o,os[r]? =some o/\mv o=none)->B w'->(∀r∈q::c,∀o,os[r]? =some o->mv o=none->Φ r u' (be r) w'/\ ∀j∈refs ops (B1 (C.map .val) 0 (os.take r)) o,j∈q::c)->
    U1 P ops L8 (f.filterMap (os[·]?)) (put l os[q].dst v) w':=by
    intro v u' be w' ct hu hv hr cs ci;have Q: ∀x,x∈c++[q]↔x∈q::c:=by intro x;simp[or_comm]
    refine ih (c++[q]) (by rw[E];simp) (fun x hx=>by rcases List.mem_cons.1 ((Q x).1 hx) with rfl | hx;exact Z;exact D x hx) _ u' be w' ct ?_ cs (fun r hr o i N=>⟨(ci r ((Q r).1 hr) o i N).1,fun j hj=>(Q j).2 ((ci r ((Q r).1 hr) o i N).2 j hj)⟩)
    have a2: ∀p∈c++[q],∀r,Zy os (C.map .val) p= .ref r->r∈c++[q]/\ ∃o,os[r]? =some o/\mv o=none:=by
     intro p hp r b0
     rcases List.mem_cons.1 ((Q p).1 hp) with rfl | hp
     .exact ⟨(Q r).2 (hr r b0).1,(hr r b0).2⟩
     .obtain ⟨J,R⟩:=hA.refs p hp r b0
      exact ⟨List.mem_append_left _ J,R⟩
    cases g:os[q].dst with
    | none=>
     refine ⟨hA.len,?_,?_,a2⟩
     .intro p hp o d i z
      rcases List.mem_cons.1 ((Q p).1 hp) with rfl | hp
      .rw[A] at i;cases i;rw[g] at z;cases z
      .rw[hu p hp];exact hA.done p hp o d i z
     .intro s hs;exact hA.rest s fun p hp=>hs p (List.mem_append_left _ hp)
    | some d0=>
     have aq:d0<C.length:=hd d0 (by simp only[I2,List.mem_filterMap];exact ⟨os[q],List.getElem_mem _,g⟩)
     refine ⟨by simp[put,hA.len],?_,?_,a2⟩
     .intro p hp o d i z
      rcases List.mem_cons.1 ((Q p).1 hp) with rfl | hp2
      .rw[A] at i;cases i
       rw[g] at z;cases z;simp only[put];rw[List.getElem?_set_self (by rw[hA.len];exact aq),hv]
      .have Y:d0≠d:=by
        rintro rfl;have:=Uw os hn p q o os[q] d0 i A z g;subst this;exact O hp2
       simp only[put];rw[List.getElem?_set_ne Y,hu p hp2];exact hA.done p hp2 o d i z
     .intro s hs
      have Y:d0≠s:=fun e=>hs q V5 os[q] A (by rw[g,e])
      simp only[put];rw[List.getElem?_set_ne Y];exact hA.rest s fun p hp=>hs p (List.mem_append_left _ hp)
   cases t:mv os[q] with
   | some x=>
    have W:Zy os (C.map .val) q=entOf (B1 (C.map .val) 0 (os.take q)) x:=by simp[Zy,A,Pu,t]
    -- a move: what the operand holds
    have hx:ev l x=(entOf (B1 (C.map .val) 0 (os.take q)) x).at u/\ ∀r,entOf (B1 (C.map .val) 0 (os.take q)) x= .ref r->r∈c/\ ∃o,os[r]? =some o/\mv o=none:=by
     cases x with
     | tmp s=>
      have hs:s∈K0 os[q]:=by
       unfold mv at t
       split at t
       .cases t
       .simp only[K0,List.mem_filterMap]
        split at t
        .rename_i y hy;cases t;exact ⟨.tmp s,by rw[hy];simp[Op.operands],rfl⟩
        .rename_i y hy;cases t;exact ⟨.tmp s,by rw[hy];simp[Op.operands],rfl⟩
        .cases t
      exact ag s (.inr hs)
     | _=>exact ⟨rfl,fun r hr=>by cases hr⟩
    have a9:os[q].guard=none:=by
     unfold mv at t
     split at t
     .cases t
     .assumption
    simp only[U1,a9]
    have aw:D2 P l os[q] w (fun v w=>U1 P ops L8 (f.filterMap (os[·]?)) (put l os[q].dst v) w)=U1 P ops L8 (f.filterMap (os[·]?)) (put l os[q].dst (ev l x)) w:=by
     unfold mv at t;rw[a9] at t;simp only at t
     split at t
     .rename_i y hy;cases t;simp only[D2,hy]
     .rename_i y hy;cases t;simp only[D2,hy]
     .cases t
    rw[aw]
    refine step _ u iv w hI (fun _ _=>rfl) (by rw[W];exact hx.1) (fun r hr=>by
     rw[W] at hr;obtain ⟨J,R⟩:=hx.2 r hr;exact ⟨List.mem_cons_of_mem _ J,R⟩) hB (fun r hr o i N=>by
     rcases List.mem_cons.1 hr with rfl | hr
     .rw[A] at i;cases i;rw[t] at N;cases N
     .exact ⟨(hΦ r hr o i N).1,fun j hj=>List.mem_cons_of_mem _ ((hΦ r hr o i N).2 j hj)⟩)
   | none=>
    have W:Zy os (C.map .val) q= .ref q:=by simp[Zy,A,Pu,t]
    have bl:=hW.run q os[q] a3 t (bz _ (List.getElem_mem _)) u iv w hI.1 hB;rw[a4 q Q5,Nat.zero_add] at bl;have cz:=hW.stable
    have b1:=bl (fun j hj=>by
     obtain ⟨s,hs,he⟩:=Ag (Tp hj);obtain ⟨J,o,R,h3⟩:=(ag s (bs s hs)).2 j he;exact (hΦ j J o R h3).1)
    have ca: ∀j∈refs ops (B1 (C.map .val) 0 (os.take q)) os[q],j∈c:=fun j hj=>by
     obtain ⟨s,hs,he⟩:=Ag (Tp hj);exact ((ag s (bs s hs)).2 j he).1
    refine Q6R ?_;rw[Q6c (bz _ (List.getElem_mem _)) (l':=Xd u (B1 (C.map .val) 0 (os.take q))) (fun s hs=>by rw[Q18];exact (ag s (bs s hs)).1)]
    refine Q7C ?_ b1;intro v w' ⟨bp,hφ⟩;have Y: ∀r∈c,r≠q:=fun r hr e=>O (e▸hr);refine step v (fun n=>if n=q then v else u n) (fun n=>if n=q then (Co r0 w,Co r0 w') else iv n) w' (hI.step (hM iv w w' bp) q) ?_ (by rw[W];simp[Ent.at]) (fun r hr=>by rw[W] at hr;cases hr;exact ⟨by simp,os[q],A,t⟩) (hT iv w w' hB bp) ?_
    .intro p hp
     cases he:Zy os (C.map .val) p with
     | val x=>rfl
     | ref r=>
      have:=Y r (hA.refs p hp r he).1
      simp[Ent.at,this]
    .intro r hr o i N
     rcases List.mem_cons.1 hr with rfl | hr
     .rw[A] at i;cases i
      refine ⟨?_,fun j hj=>List.mem_cons_of_mem _ (ca j hj)⟩;simp only[if_true];exact hφ _ (fun x hx=>by simp[Y x (ca x hx)]) V5
     .obtain ⟨f1,f2⟩:=hΦ r hr o i N
      have ce:=D r hr;have bi:=Y r hr
      have hl:=hW.loc r o (by rw[X r ce];exact i) N (fun n=>if n=q then v else u n) u (fun x hx=>by
       rw[a4 r Q5,Nat.zero_add] at hx
       have:x≠q:=by
        rcases List.mem_cons.1 hx with rfl | hx
        .exact bi
        .exact Y x (f2 x hx)
       simp[this])
      have hs:=cz r o (by rw[X r ce];exact i) N
      rw[Nat.zero_add] at hs hl;refine ⟨?_,fun j hj=>List.mem_cons_of_mem _ (f2 j hj)⟩;simp only[if_neg bi];rw[hl];exact hs _ iv _ _ hI.1 f1 bp
def X9Q:Op->Bool
 | .move _ | .assign _ | .fieldAddr .. | .indexAddr .. | .field .. | .index .. | .binOp .. | .unOp .. | .extract .. | .pick .. | .makeFunc .. | .nilCheck _ | .slice .. =>true
 | _=>false
def ready (ops:List Oper) (a:List Nat) (j:Nat):Bool:=(Yz ops j).all (a.contains ·)
def X9P (ops:List Oper) (j:Nat):Bool:=match ops[j]? with | some o=>X9Q o.op | none=>false
def X4b (ops:List Oper):Nat->List Nat->List Nat->List Nat
 | 0,_,a=>a.reverse
 | n+1,b,a=>
  match b.find? (fun j=>X9P ops j&&ready ops a j) with
  | some j=>X4b ops n (b.erase j) (j::a)
  | none=>match b.find? (ready ops a) with
   | some j=>X4b ops n (b.erase j) (j::a)
   | none=>a.reverse
def H8 (ops:List Oper):List Nat:=X4b ops ops.length (List.range ops.length) []
def Qe (ops:List Oper) (a:List Nat) (p q:Nat):Bool:=((Q0Z ops []).getD (a.getD q 0) 0).testBit (a.getD p 0)
def U3 (ops:List Oper) (a:List Nat):List Oper:=a.map fun i=>ops.getD i default
def cutA (ops:List Oper) (a:List Nat):Nat->Nat
 | 0=>0
 | j+1=>if (List.range j).all (fun i=>Qe ops a i j||Ro (U3 ops a) i) then cutA ops a j else j+1
def Y1p (ops:List Oper) (a:List Nat) (c n:Nat):Bool:=(List.range n).all fun q=>(List.range q).all fun p=>decide (p<c)||Qe ops a p q
def Mw (ops:List Oper) (a:List Nat) (n:Nat):Nat:=if Y1p ops a (cutA ops a n) n then cutA ops a n else n
theorem Q8P (ops:List Oper) (a:List Nat): ∀n,cutA ops a n<=n/\ ∀q,cutA ops a n<=q->q<n-> ∀p,p<q->Qe ops a p q=true\/Ro (U3 ops a) p=true
 | 0=>⟨Nat.le_refl _,fun q _ h=>by omega⟩
 | j+1=>by
  obtain ⟨g,f⟩:=Q8P ops a j;simp only[cutA]
  split
  .rename_i h
   refine ⟨by omega,fun q d b p c=>?_⟩
   by_cases e:q=j
   .subst e
    simpa using List.all_eq_true.1 h p (by simpa using c)
   .exact f q d Q5 p c
  .exact ⟨Nat.le_refl _,fun q d b=>by omega⟩
theorem X3I (ops:List Oper) (a:List Nat) (n:Nat):Mw ops a n<=n/\ ∀q,Mw ops a n<=q->q<n-> ∀p,p<q->Qe ops a p q=true\/(p<Mw ops a n/\Ro (U3 ops a) p=true):=by
 obtain ⟨f,g⟩:=Q8P ops a n;unfold Mw
 split
 .rename_i i
  refine ⟨f,fun q e b p d=>?_⟩
  by_cases c:p<cutA ops a n
  .exact (g q e b p d).imp id fun h=>⟨c,h⟩
  .left
   have:=List.all_eq_true.1 (List.all_eq_true.1 i q (by simpa using b)) p (by simpa using d)
   simpa [c] using this
 .exact ⟨Nat.le_refl _,fun q e b=>by omega⟩
def Q9O (ops:List Oper) (a:List Nat):Bool:=
 a.length==ops.length&&(List.range ops.length).all (a.contains ·)&&Uf a&&a.all (fun i=>decide (i<ops.length))&&
  (List.range ops.length).all fun q=>(List.range q).all fun p=> !Qe ops a q p
def Of (ops:List Oper) (n:Nat):Bool:=
 Mx ops&&Q86 (Q0Z ops []) ops&&Uf (I2 (U3 ops (H8 ops)))&&(I2 (U3 ops (H8 ops))).all (fun d=>decide (d<n))&&
  (Yx .any ops (List.range ops.length)&&Yx .text ops (List.range ops.length)&&Yx .gc ops (X7k .gc ops ops.length (List.range ops.length) []))&&Q9O ops (H8 ops)
theorem Q4u: ∀{l:List Nat},Uf l=true->l.Nodup
 | [],_=>List.nodup_nil
 | x::l,h=>by
  simp only[Uf,Bool.and_eq_true,Bool.not_eq_true'] at h;exact List.nodup_cons.2 ⟨by simpa using h.1,Q4u h.2⟩
theorem X0l {ops:List Oper}: ∀(b:List Oper) (a:List Nat),a.length+b.length=ops.length->(∀k,a.length<=k->ops[k]? =b[k-a.length]?)->
 (∀j k,j<a.length->k∈Yz ops j->(a.getD j 0).testBit k=true)-> ∀j k,j<ops.length->k∈Yz ops j->((Q0Z b a).getD j 0).testBit k=true
 | [],a,n,_,c=>fun j k p d=>c j k (by simp at n;omega) d
 | o::b,a,n,f,c=>by
  have t:ops[a.length]? =some o:=by rw[f _ (Nat.le_refl _)];simp
  refine X0l b _ (by simp at n⊢;omega) ?_ ?_
  .intro k d
   simp only[List.length_append,List.length_cons,List.length_nil] at d⊢;rw[f k Q5];obtain ⟨m,r⟩: ∃m,k-a.length=m+1:=⟨k-a.length-1,by omega⟩
   rw[r,List.getElem?_cons_succ]
   congr 1;omega
  .intro j k p d
   simp only[List.length_append,List.length_cons,List.length_nil] at p
   by_cases g:j<a.length
   .simp only[List.getD_eq_getElem?_getD,List.getElem?_append_left g]
    simpa only[List.getD_eq_getElem?_getD] using c j k g d
   .have i:j=a.length:=by omega
    subst i;simp only[List.getD_eq_getElem?_getD,List.getElem?_append_right (Nat.le_refl _),Nat.sub_self,List.getElem?_cons_zero,Option.getD_some];unfold Yz at d;rw[t] at d;simp only[Option.map_some,Option.getD_some,List.mem_map] at d;obtain ⟨e,q,rfl⟩:=d
    have key: ∀(l:List Edge) (s:Nat),(e∈l\/s.testBit e.on=true)->(l.foldl (fun s e=>s ||| 2 ^ e.on ||| (a[e.on]?).getD 0) s).testBit e.on=true:=by
     intro l
     induction l with
     | nil=>intro s h;simpa using h
     | cons x l u=>
      intro s h;refine u _ ?_
      rcases h with h | h
      .rcases List.mem_cons.1 h with rfl | h
       .right;simp
       .exact .inl h
      .right;simp[h]
    exact key _ _ (.inl q)
theorem Kr {α β:Type} {f g:α->Option β}: ∀{l:List α},(∀x∈l,f x=g x)->l.filterMap f=l.filterMap g
 | [],_=>rfl
 | x::l,h=>by
  rw[List.filterMap_cons,List.filterMap_cons,h x V5,Kr fun y a=>h y (by simp[a])]
structure Arr (ops : List Oper) (ord : List Nat) (L : List Nat) : Prop where
  hpl : ∀ o ∈ U3 ops ord, Ug o.op = true
  hclash : ∀ p q a b, p < q -> (U3 ops ord)[p]? = some a -> (U3 ops ord)[q]? = some b -> (Zp a b || Zp b a) = true -> Qe ops ord p q = true
  hg : ∀ q o j b, (U3 ops ord)[q]? = some o -> o.guard = some (j, b) -> ∃ p, p < q /\ (U3 ops ord)[p]? = ops[j]? /\ Qe ops ord p q = true
  hn : L.Nodup
  hlt : ∀ q ∈ L, q < (U3 ops ord).length
  hC : ∀ pre q post, L = pre ++ q :: post -> ∀ p, Qe ops ord p q = true -> p < (U3 ops ord).length -> p ∈ pre
  hLl : L.length = (U3 ops ord).length
theorem Q14 {ops:Array Oper} {c:List Nat} (X:Mx ops.toList=true) (hc:Q86 (Q0Z ops.toList []) ops.toList=true) (a9:Yx .any ops.toList (List.range ops.toList.length)=true) (ba:Yx .text ops.toList (List.range ops.toList.length)=true) (bb:Yx .gc ops.toList (X7k .gc ops.toList ops.toList.length (List.range ops.toList.length) [])=true) (O:Q9O ops.toList c=true) (b:Bool) (t:Nat):
 (Region.schedule b ops t).filterMap (ops[·]?)=((Region.schedule b ops t).map (c.idxOf ·)).filterMap ((U3 ops.toList c)[·]?)/\Arr ops.toList c ((Region.schedule b ops t).map (c.idxOf ·))/\(U3 ops.toList c).length=ops.toList.length/\(Region.schedule b ops t).Nodup/\ ∀i∈Region.schedule b ops t,i<ops.toList.length/\c.getD (c.idxOf i) 0=i:=by
 simp only[Q9O,Bool.and_eq_true,beq_iff_eq] at O;obtain ⟨⟨⟨⟨ad,R⟩,ax⟩,N⟩,E⟩:=O;have ae:=Q4u ax;have af:(U3 ops.toList c).length=ops.toList.length:=by simp[U3,ad]
 have g: ∀p,p<ops.toList.length->c.getD p 0<ops.toList.length:=by
  intro p U;simp only[List.getD_eq_getElem?_getD];rw[List.getElem?_eq_getElem Q5];have:=List.all_eq_true.1 N c[p] (List.getElem_mem _)
  simpa using this
 have d: ∀p,p<ops.toList.length->(U3 ops.toList c)[p]? =ops.toList[c.getD p 0]? :=by
  intro p U;have n:=g p U;simp only[List.getD_eq_getElem?_getD] at n;rw[List.getElem?_eq_getElem (by omega:p<c.length)] at n
  simp only[Option.getD_some] at n;simp only[U3,List.getElem?_map,List.getD_eq_getElem?_getD];rw[List.getElem?_eq_getElem (by omega:p<c.length)]
  simp only[Option.map_some,Option.getD_some];rw[List.getElem?_eq_getElem n]
  simp
 obtain ⟨Q,M,A⟩:=Q9M b ops t X (fun m=>by cases m<;>exact ⟨_,by assumption⟩)
 have f:=Q6f b ops t;generalize Region.schedule b ops t=L0 at Q M A f⊢;have z: ∀i,i<ops.toList.length->i∈c:=fun i s=>by simpa using List.all_eq_true.1 R i (by simpa using s)
 have l: ∀i,i<ops.toList.length->c.idxOf i<ops.toList.length/\c.getD (c.idxOf i) 0=i:=by
  intro i s;have n:=List.idxOf_lt_length_of_mem (z i s);refine ⟨by omega,?_⟩
  simp only[List.getD_eq_getElem?_getD];rw[List.getElem?_eq_getElem n]
  simp
 have r: ∀p,p<ops.toList.length->c.idxOf (c.getD p 0)=p:=by
  intro p U;simp only[List.getD_eq_getElem?_getD];rw[List.getElem?_eq_getElem (by omega:p<c.length)]
  simp only[Option.getD_some];exact List.Nodup.idxOf_getElem ae p Q5
 have ac: ∀p q,p<q->q<ops.toList.length->Qe ops.toList c q p=false:=by
  intro p q V u;have:=List.all_eq_true.1 (List.all_eq_true.1 E q (by simpa using u)) p (by simpa using V)
  simpa using this
 have ao:L0.filterMap (ops[·]?)=(L0.map (c.idxOf ·)).filterMap ((U3 ops.toList c)[·]?):=by
  rw[List.filterMap_map];refine Kr fun i s=>?_;have:=f i s;have n:=l i (by simpa using this)
  simp only[Function.comp];rw[d _ n.1,n.2]
  simp
 refine ⟨ao,⟨?_,?_,?_,?_,?_,?_,by simp[M,ad,U3]⟩,af,Q,fun i s=>⟨by simpa using f i s,(l i (by simpa using f i s)).2⟩⟩
 .intro o ho
  simp only[U3,List.mem_map] at ho;obtain ⟨i,s,rfl⟩:=ho;have w:i<ops.toList.length:=by simpa using List.all_eq_true.1 N i s
  simp only[Mx,List.all_eq_true,Bool.and_eq_true] at X;have:=(X (ops.toList[i],i) (by rw[List.mem_zipIdx_iff_getElem?];simpa using w)).1.1
  rw[List.getD_eq_getElem?_getD,List.getElem?_eq_getElem w];exact this
 .intro p q a b' V ha C D
  have U:p<ops.toList.length:=by have:=(List.getElem?_eq_some_iff.1 ha).1;omega
  have u:q<ops.toList.length:=by have:=(List.getElem?_eq_some_iff.1 C).1;omega
  rw[d p U] at ha;rw[d q u] at C
  have Z: ∀i i' x x',i<i'->ops.toList[i]? =some x->ops.toList[i']? =some x'->(Zp x x'||Zp x' x)=true->((Q0Z ops.toList []).getD i' 0).testBit i=true:=by
   intro i i' x x' av hx a1 D;simp only[Q86,List.all_eq_true] at hc;have:=hc (x',i') (by rw[List.mem_zipIdx_iff_getElem?];simpa using a1) (x,i) (by rw[List.mem_zipIdx_iff_getElem?];simpa using hx)
   simp only[av,D,decide_true,Bool.not_true,Bool.false_or,Bool.or_self] at this;exact this
  have ab:c.getD p 0≠c.getD q 0:=by
   intro e;have:=r p U;rw[e,r q u] at this;omega
  rcases Nat.lt_or_gt_of_ne ab with h | h
  .exact Z _ _ a b' h ha C D
  .have n:=Z _ _ b' a h C ha (by rw[Bool.or_comm];exact D)
   have v:=ac p q V u;unfold Qe at v;rw[n] at v;cases v
 .intro q o j b' u ap
  have H:q<ops.toList.length:=by have:=(List.getElem?_eq_some_iff.1 u).1;omega
  rw[d q H] at u
  have L:j∈Yz ops.toList (c.getD q 0):=by
   have aa:=X;simp only[Mx,List.all_eq_true,Bool.and_eq_true] at aa;have:=(aa (o,c.getD q 0) (by rw[List.mem_zipIdx_iff_getElem?];simpa using u)).2
   rw[ap] at this;simp only[List.any_eq_true] at this;obtain ⟨e,an,am⟩:=this;unfold Yz;rw[u];simp only[Option.map_some,Option.getD_some,List.mem_map];exact ⟨e,an,by simpa using am⟩
  have ar:=Q15 X _ (g q H) j L;have hj:j<ops.toList.length:=by have:=g q H;omega
  have C:=X0l (ops:=ops.toList) ops.toList [] V5 V5 (by intro j k hj;simp at hj) _ j (g q H) L
  obtain ⟨n,v⟩:=l j hj;have J:Qe ops.toList c (c.idxOf j) q=true:=by unfold Qe;rw[v];exact C
  refine ⟨c.idxOf j,?_,by rw[d _ n,v],J⟩
  rcases Nat.lt_trichotomy (c.idxOf j) q with h | h | h
  .exact h
  .rw[<-h,v] at ar;omega
  .have:=ac q _ h n
   rw[J] at this;cases this
 .refine List.pairwise_map.2 (Q.imp_of_mem ?_)
  intro x y hx hy aw a2;have n:=(l x (by simpa using f x hx)).2
  have v:=(l y (by simpa using f y hy)).2
  exact aw (by rw[<-n,<-v,a2])
 .intro q u
  simp only[List.mem_map] at u;obtain ⟨i,s,rfl⟩:=u;have:=(l i (by simpa using f i s)).1
  omega
 .intro be q a8 hL p C U
  rw[List.map_eq_append_iff] at hL;obtain ⟨ai,a3,Y,ag,B⟩:=hL;rw[List.map_eq_cons_iff] at B;obtain ⟨i,W,hr,s,az⟩:=B;subst hr s ag;have w:i<ops.toList.length:=by simpa using f i (by rw[Y];simp)
  obtain ⟨n,v⟩:=l i w;unfold Qe at C;rw[v] at C;have ay:p<ops.toList.length:=by omega
  have:=X1y X A i w (c.getD p 0) ai W Y C;rw[List.mem_map];exact ⟨c.getD p 0,this,r p ay⟩
theorem Q8R {ops:Array Oper} {n:Nat} (a:Of ops.toList n=true) (b:Bool) (t:Nat): ∃L,(Region.schedule b ops t).filterMap (ops[·]?)=L.filterMap ((U3 ops.toList (H8 ops.toList))[·]?)/\Arr ops.toList (H8 ops.toList) L/\(U3 ops.toList (H8 ops.toList)).length=ops.toList.length:=by
 simp only[Of,Bool.and_eq_true] at a;obtain ⟨⟨⟨⟨⟨k,j⟩,m⟩,l⟩,⟨d,e⟩,f⟩,c⟩:=a;obtain ⟨g,h,i,_⟩:=Q14 k j d e f c b t;exact ⟨_,g,h,i⟩
theorem X2S (P:Program) (r:Bool) (ops:Array Oper) (T:(Nat->Iv)->World->World->Prop) (B:World->Prop) (L8:List Value->World->Prop) (i:List Value) (g:Of ops.toList i.length=true)
 (z: ∀o w w',B w->T o w w'->B w') (y: ∀o w w',T o w w'->Co r w<=Co r w')
 (h:chain P r ops.toList T B L8 ((U3 ops.toList (H8 ops.toList)).drop (Mw ops.toList (H8 ops.toList) ops.toList.length)) 0
  ((U3 ops.toList (H8 ops.toList)).take (Mw ops.toList (H8 ops.toList) ops.toList.length)) (i.map .val) [] [])
 (b:Bool) (t:Nat) (w:World) (U:B w):U1 P ops.toList L8 ((Region.schedule b ops t).filterMap (ops[·]?)) i w:=by
 obtain ⟨L,n,c,u⟩:=Q8R g b t;simp only[Of,Bool.and_eq_true] at g;obtain ⟨⟨⟨⟨⟨l,V⟩,H⟩,C⟩,⟨J,M⟩,N⟩,s⟩:=g;generalize H8 ops.toList=a at*;obtain ⟨Φ,_,A⟩:=Q3L P r ops.toList T B L8 _ _ 0 (i.map .val) [] [] (by intro e l j D;simp only[List.mem_map] at l;obtain ⟨v,_,rfl⟩:=l;cases D) V5 (by simp[Nu]) h
 rw[n];obtain ⟨k,f⟩:=X3I ops.toList a ops.toList.length
 exact Y1r (os:=U3 ops.toList a) (m:=Mw ops.toList a ops.toList.length) (T:=T) (B:=B) (Φ:=Φ) (Qe ops.toList a) c.hpl H (fun d E=>by simpa using List.all_eq_true.1 C d E) c.hclash c.hg Q5
  (fun q Q R p O=>f q Q Q5 p O) z y A L c.hn c.hLl c.hlt c.hC _ [] rfl V5 i (fun _=>undef) (fun _=>(0,0)) w .init
  ⟨rfl,by simp,fun _ _=>rfl,by simp⟩ U V5
def Wn {α:Type} (P:Program) (s:Sem α):Prop:= ∀w v w',s.run P w= .ok v w'->w'=w
variable {P : Program} {α β : Type}
theorem Na (a:α):Wn P (Pure.pure a:Sem α):=fun w v w' h=>by simp at h;exact h.2.symm
theorem X2D (m:String):Wn P (stuck m:Sem α):=fun w v w' h=>by simp at h
theorem Zz {s:Sem α} {f:α->Sem β} (d:Wn P s) (c: ∀a,Wn P (f a)):Wn P (s>>=f):=fun w v w' h=>by
 rw[Sem.run_bind] at h;cases b:s.run P w with
 | halt x w1=>rw[b] at h;simp[Result.andThen] at h
 | ok a w1=>
  rw[b] at h;have:=d _ _ _ b;subst this;exact c a _ _ _ h
theorem Q7D (a:Addr) (m:Mode):Wn P (load a m):=fun w v w' h=>by
 unfold load at h;simp only[Sem.run] at h
 split at h
 .cases h;rfl
 .split at h
  .cases h;rfl
  .cases h
theorem Q0Q (t:TypeId):Wn P (typeInfo t):=fun w v w' h=>by
 unfold typeInfo at h;simp only[Sem.run_bind,run_program,Result.andThen_ok] at h
 split at h<;>simp at h
 exact h.2.symm
theorem Q6E (t:TypeId):Wn P (underlying t):=fun w v w' h=>by
 unfold underlying at h;simp only[Sem.run_bind,run_program,Result.andThen_ok] at h
 split at h<;>simp at h
 exact h.2.symm
theorem X2C (t:TypeId):Wn P (isAgg t):=by
 unfold isAgg;refine Zz (Q6E t) fun d=>?_
 split<;>exact Na _
theorem X1E (t:TypeId):Wn P (sizeOf t):=Zz (Q0Q t) fun _=>Na _
theorem Q6e (a:Addr): ∀(n i:Nat) (b:Array Value),Wn P (loadCellsFrom a i n b)
 | 0,i,b=>Na _
 | n+1,i,b=>Zz (Q7D _ _) fun v=>Q6e a n (i+1) _
theorem Q9L (t:TypeId) (a:Addr):Wn P (loadVar t a):=by
 unfold loadVar;refine Zz (X2C t) fun b=>?_
 split
 .exact Zz (X1E t) fun n=>Zz (Q6e a n 0 #[]) fun cs=>Na _
 .exact Q7D _ _
theorem X1D (t:TypeId) (v:Value):Wn P (Instr.loadAt t v):=by
 unfold Instr.loadAt;refine Zz ?_ fun a=>Q9L t a;unfold Instr.sureAddr
 split
 .exact Na _
 .exact X2D _
def Wm (P:Program) (s:Sem α):Prop:= ∀w v w1,s.run P w= .ok v w1->w1=w/\ ∀w',s.run P w'= .ok v w'
theorem Ln (a:α):Wm P (Pure.pure a:Sem α):=fun w v w' h=>by simp at h⊢;exact ⟨h.2.symm,h.1⟩
theorem Eu (m:String):Wm P (stuck m:Sem α):=fun w v w' h=>by simp at h
theorem Zs {s:Sem α} {f:α->Sem β} (j:Wm P s) (i: ∀a,Wm P (f a)):Wm P (s>>=f):=fun w v w' h=>by
 rw[Sem.run_bind] at h;cases b:s.run P w with
 | halt x w1=>rw[b] at h;simp[Result.andThen] at h
 | ok a w1=>
  rw[b] at h;obtain ⟨rfl,d⟩:=j _ _ _ b;obtain ⟨e,g⟩:=i a _ _ _ h;refine ⟨e,fun c=>?_⟩;rw[Sem.run_bind,d c];exact g c
theorem Q2A (t:TypeId):Wm P (typeInfo t):=fun w v w' h=>by
 unfold typeInfo at h⊢;simp only[Sem.run_bind,run_program,Result.andThen_ok] at h⊢
 split at h<;>simp at h
 rename_i i a;refine ⟨h.2.symm,fun w'=>?_⟩
 simp[a,h.1]
theorem Ev (t:TypeId):Wm P (underlying t):=fun w v w' h=>by
 unfold underlying at h⊢;simp only[Sem.run_bind,run_program,Result.andThen_ok] at h⊢
 split at h<;>simp at h
 rename_i i a;refine ⟨h.2.symm,fun w'=>?_⟩
 simp[a,h.1]
theorem Ks (v:Value) (i:Nat):Wm P (Instr.extract v i):=by
 unfold Instr.extract
 split
 .split
  .exact Ln _
  .exact Eu _
 .exact Eu _
theorem X5k (v:Value):Wm P (Instr.sureAddr v):=by
 unfold Instr.sureAddr
 split
 .exact Ln _
 .exact Eu _
theorem Q8h {s:Sem α} (h: ∀w v w',s.run P w≠ .ok v w'):Wm P s:=fun w v w' e=>absurd e (h w v w')
theorem Q8l {s:Sem α} {f:α->Sem β} (c: ∀a w v w',(f a).run P w≠ .ok v w'): ∀w v w',(s>>=f).run P w≠ .ok v w':=fun w v w' h=>by
 rw[Sem.run_bind] at h;cases b:s.run P w with
 | halt x w1=>rw[b] at h;simp[Result.andThen] at h
 | ok a w1=>rw[b] at h;exact c a _ _ _ h
theorem Q7k (e:Int×Int×Bool×BoundsCode): ∀w v w',(runtimePanic (.bounds e.1 e.2.1 e.2.2.1 e.2.2.2):Sem α).run P w≠ .ok v w':=by
 unfold runtimePanic;exact Q8l fun p=>fun w v w' h=>by cases h
theorem Q5W (k:IntKind) (x y:Int) (c:BoundsCode):Wm P (boundsPanic k x y c:Sem α):=Q8h (by
 unfold boundsPanic;dsimp only
 split
 .exact Q8l fun b=>Q7k (_,_,_,_)
 .exact Q8l fun b=>Q7k (_,_,_,_))
theorem Kt (t:TypeId) (x i:Value):Wm P (Instr.indexAt t x i):=by
 unfold Instr.indexAt;refine Zs ?_ fun q=>?_
 .unfold asIntOf
  split
  .exact Ln _
  .exact Q8h fun w v w' h=>by cases h
  .exact Eu _
 refine Zs (Ev t) fun d=>?_;dsimp only
 have key: ∀(z:Option Addr×Nat×TypeId),Wm P (match z with
  | (base,b,elem)=>do
   let __do_lift<-underlying t
   have c:Bool:=decide (b<=1)&&match __do_lift with
    | TypeDesc.array b elem=>true
    | x=>false
   match base with
    | some a=>
     if 0<=q.snd/\q.snd< ↑b then do
      let __do_lift<-sizeOf elem
      pure (Value.pointer (some (a.add (q.snd.toNat*__do_lift))))
     else
      if c=true then unsupported (Unsupported.noEntry "op/indexAddr.an index out of range at an array of length 0 or 1 (ledger 616)")
      else boundsPanic q.fst q.snd (↑b) BoundsCode.index
    | none=>boundsPanic q.fst q.snd 0 BoundsCode.index):=by
  rintro ⟨base,b,elem⟩;dsimp only;refine Zs (Ev t) fun g=>?_;cases base with
  | none=>exact Q5W _ _ _ _
  | some a=>
   dsimp only
   by_cases e:0<=q.snd/\q.snd< ↑b
   .rw[if_pos e]
    exact Zs (Zs (Q2A _) fun _=>Ln _) fun n=>Ln _
   .rw[if_neg e]
    by_cases f:(decide (b<=1)&&match g with
     | TypeDesc.array b elem=>true
     | x=>false)=true
    .rw[if_pos f]
     exact Q8h fun w v w' h=>by cases h
    .rw[if_neg f]
     exact Q5W _ _ _ _
 split
 .exact Zs (X5k _) fun a=>Zs (Ln _) key
 .exact Zs (Ln _) key
 .exact Zs (Eu _) key
def Q4T (o:Oper):Bool:=match o.op with | .move _ | .assign _ | .load .. | .extract .. | .indexAddr .. =>true | _=>false
def Q8g (o:Oper):Bool:=match o.op with | .move _ | .assign _ | .extract .. | .indexAddr .. =>true | _=>false
theorem Ij {s:Sem Value} {w:World} {K:Value->World->Prop} (h:op P (sv s) w K): ∃v w',s.run P w= .ok v w'/\K v w':=by
 rw[Zf] at h;unfold Yp sv at h;rw[Sem.run_bind] at h;cases a:s.run P w with
 | halt x w1=>rw[a] at h;exact h.elim
 | ok v w1=>rw[a] at h;exact ⟨v,w1,rfl,h⟩
theorem Iz {s:Sem Value} {v:Value} {w w':World} {K:Value->World->Prop} (h:s.run P w= .ok v w') (k:K v w'):op P (sv s) w K:=by
 rw[Zf];unfold Yp sv;rw[Sem.run_bind,h];exact k
theorem X62 {p:Program} {w w':World} {a k:Addr} {u:TypeId} {b:Bool} {r} (h: ∀(i:Nat) o,w.heap[i]? =some o->w'.heap[i]? =some o) (c:w.seen p a u k b= .ok r):w'.seen p a u k b= .ok r:=by
 cases e:w.heap[a.block]? with
 | some o=>
  have d:=h _ _ e;unfold World.seen at*;rw[d];rw[e] at c;exact c
 | none=>
  exfalso
  unfold World.seen at c;simp only[e,bind,Except.bind,throw,throwThe,MonadExceptOf.throw,pure,Except.pure] at c
  repeat (first | cases c | split at c)
theorem X6H {p:Program} {w w':World} {a:Addr} {b:Bool} {r} (h: ∀(i:Nat) o,w.heap[i]? =some o->w'.heap[i]? =some o) (c:w.farLoad p a b= .ok r):w'.farLoad p a b= .ok r:=by
 unfold World.farLoad at*;cases e:w.heap[a.block]? with
 | none=>rw[e] at c;cases c
 | some o=>
  rw[e] at c;rw[h _ _ e];cases o with
  | view d u=>
   simp only at c⊢;cases f:w.viewLoad p d u a b with
   | error s=>rw[f] at c;cases c
   | ok q=>
    rw[f] at c
    have:w'.viewLoad p d u a b= .ok q:=by
     unfold World.viewLoad at*;cases g:w.seen p d u a b with
     | error s=>rw[g] at f;cases f
     | ok z=>rw[X62 h g];rw[g] at f;exact f
    rw[this];exact c
  | _=>simp only at c;cases c
def Bi {α:Type} (P:Program) (s:Sem α):Prop:= ∀w v w1,s.run P w= .ok v w1->w1=w/\ ∀w':World,(∀(i:Nat) o,w.heap[i]? =some o->w'.heap[i]? =some o)->s.run P w'= .ok v w'
theorem Fu (a:α):Bi P (Pure.pure a:Sem α):=fun w v w' h=>by simp at h⊢;exact ⟨h.2.symm,fun _ _=>h.1⟩
theorem X3X (m:String):Bi P (stuck m:Sem α):=fun w v w' h=>by simp at h
theorem Ma {s:Sem α} {f:α->Sem β} (k:Bi P s) (j: ∀a,Bi P (f a)):Bi P (s>>=f):=fun w v w' h=>by
 rw[Sem.run_bind] at h;cases b:s.run P w with
 | halt x w1=>rw[b] at h;simp[Result.andThen] at h
 | ok a w1=>
  rw[b] at h;obtain ⟨rfl,e⟩:=k _ _ _ b;obtain ⟨g,i⟩:=j a _ _ _ h;refine ⟨g,fun d c=>?_⟩;rw[Sem.run_bind,e d c];exact i d c
theorem Q91 (a:Addr) (m:Mode):Bi P (load a m):=fun w v w1 h=>by
 unfold load at h⊢;simp only[Sem.run] at h⊢;cases e:w.cell? a with
 | some x=>
  rw[e] at h;cases h;refine ⟨rfl,fun w' d=>?_⟩
  have:w'.cell? a=some v:=by
   unfold World.cell? at*;cases c:w.heap[a.block]? with
   | none=>rw[c] at e;cases e
   | some o=>rw[c] at e;rw[d _ _ c];exact e
  rw[this]
 | none=>
  rw[e] at h;simp only at h;cases b:w.farLoad P a (m== .atomic) with
  | error s=>rw[b] at h;cases h
  | ok q=>
   rw[b] at h;cases h;refine ⟨rfl,fun w' d=>?_⟩;have g:=X6H d b;cases f:w'.cell? a with
   | none=>simp only[g]
   | some x=>
    exfalso
    unfold World.farLoad at b;unfold World.cell? at f;cases c:w.heap[a.block]? with
    | none=>rw[c] at b;cases b
    | some o=>
     rw[d _ _ c] at f;rw[c] at b;cases o<;>first | cases f | (simp only at b;cases b)
theorem Q90 {s:Sem α} (h:Wm P s):Bi P s:=fun w v w1 e=>⟨(h w v w1 e).1,fun w' _=>(h w v w1 e).2 w'⟩
theorem X3W (t:TypeId):Bi P (isAgg t):=by
 unfold isAgg;refine Ma (Q90 (Ev t)) fun d=>?_
 split<;>exact Fu _
theorem Q78 (a:Addr): ∀(n i:Nat) (b:Array Value),Bi P (loadCellsFrom a i n b)
 | 0,i,b=>Fu _
 | n+1,i,b=>Ma (Q91 _ _) fun v=>Q78 a n (i+1) _
theorem X2d (t:TypeId) (v:Value):Bi P (Instr.loadAt t v):=by
 unfold Instr.loadAt;refine Ma ?_ fun a=>?_
 .unfold Instr.sureAddr
  split
  .exact Fu _
  .exact X3X _
 .unfold loadVar
  refine Ma (X3W t) fun b=>?_
  split
  .exact Ma (Ma (Q90 (Q2A t)) fun _=>Fu _) fun n=>Ma (Q78 a n 0 #[]) fun cs=>Fu _
  .exact Q91 _ _
theorem X5Q {l:List Value} {o:Oper} {w:World} {K:Value->World->Prop} (h:Q4T o=true) (c:D2 P l o w K): ∃v,K v w/\ ∀(w':World) b,(∀(i:Nat) o,w.heap[i]? =some o->w'.heap[i]? =some o)->b v w'->D2 P l o w' b:=by
 obtain ⟨d,p,n,pos,m,g⟩:=o;cases p<;>(first | (simp[Q4T] at h;done) | skip)<;>simp only[D2] at c⊢
 .exact ⟨_,c,fun w' b _ a=>a⟩
 .exact ⟨_,c,fun w' b _ a=>a⟩
 .obtain ⟨v,w',e,f⟩:=Ij c
  obtain ⟨rfl,j⟩:=X2d _ _ _ _ _ e;exact ⟨v,f,fun w' b k a=>Iz (j w' k) a⟩
 .obtain ⟨v,w',e,f⟩:=Ij c
  obtain ⟨rfl,j⟩:=Kt _ _ _ _ _ _ e;exact ⟨v,f,fun w' b k a=>Iz (j w') a⟩
 .obtain ⟨v,w',e,f⟩:=Ij c
  obtain ⟨rfl,j⟩:=Ks _ _ _ _ _ e;exact ⟨v,f,fun w' b k a=>Iz (j w') a⟩
theorem Q8n {γ δ:Type} {s:Sem γ} {f:γ->Sem δ} {w w':World} {v:δ} (h:(s>>=f).run P w= .ok v w'): ∃a w1,s.run P w= .ok a w1/\(f a).run P w1= .ok v w':=by
 rw[Sem.run_bind] at h;cases b:s.run P w with
 | halt x w1=>rw[b] at h;simp[Result.andThen] at h
 | ok a w1=>rw[b] at h;exact ⟨a,w1,rfl,h⟩
theorem X7g {γ:Type} {r:Unsupported}:Wn P (unsupported r:Sem γ):=fun w v w' h=>by simp[unsupported] at h
theorem X02 {l:List Value} {o:Oper} {w:World} {K:Value->World->Prop} (h:Cu o=true) (j:D2 P l o w K): ∃v w',(∀(i:Nat) o,w.heap[i]? =some o->w'.heap[i]? =some o)/\K v w'/\ ∀b:Value->World->Prop,b v w'->D2 P l o w b:=by
 obtain ⟨d,p,D,pos,B,g⟩:=o;cases p<;>(first | (simp[Cu] at h;done) | skip)
 simp only[D2] at j⊢;obtain ⟨v,w',f,s⟩:=Ij j;refine ⟨v,w',?_,s,fun b t=>Iz f t⟩;have a:=f;unfold Instr.alloc zeroValue at a;obtain ⟨z,w1,A,m⟩:=Q8n a;have y:w1=w:=Zz (Q0Q _) (fun i=>by split;exact Na _;exact X7g) _ _ _ A
 subst y;simp only at m;obtain ⟨c,E,n,q⟩:=Q8n m;simp only[Sem.run_pure,Result.ok.injEq] at q;obtain ⟨_,rfl⟩:=q;unfold newVar newRow at n;obtain ⟨C,H,e,r⟩:=Q8n n;simp only[Sem.run_pure,Result.ok.injEq] at r;obtain ⟨_,rfl⟩:=r;unfold newObj at e;simp only[Sem.run,Result.ok.injEq] at e;obtain ⟨_,rfl⟩:=e;intro i o k;have u:=(Array.getElem?_eq_some_iff.1 k).1;simp only[Array.getElem?_push];rw[if_neg Q5];exact k
theorem X1n {l:List Value} {o:Oper} {w:World} {K:Value->World->Prop} (h:Q4T o=true) (e:D2 P l o w K): ∃v,K v w/\ ∀c,c v w->D2 P l o w c:=by
 obtain ⟨d,p,j,pos,i,g⟩:=o;cases p<;>(first | (simp[Q4T] at h;done) | skip)<;>simp only[D2] at e⊢
 .exact ⟨_,e,fun c a=>a⟩
 .exact ⟨_,e,fun c a=>a⟩
 .obtain ⟨v,w',b,f⟩:=Ij e
  have:=X1D _ _ _ _ _ b;subst this;exact ⟨v,f,fun c a=>Iz b a⟩
 .obtain ⟨v,w',b,f⟩:=Ij e
  have:=(Kt _ _ _ _ _ _ b).1;subst this;exact ⟨v,f,fun c a=>Iz b a⟩
 .obtain ⟨v,w',b,f⟩:=Ij e
  have:=(Ks _ _ _ _ _ b).1;subst this;exact ⟨v,f,fun c a=>Iz b a⟩
theorem Q6q {l:List Value} {o:Oper} {w:World} {K:Value->World->Prop} (h:Q8g o=true) (c:D2 P l o w K): ∃v,K v w/\ ∀w' b,b v w'->D2 P l o w' b:=by
 obtain ⟨d,p,k,pos,j,g⟩:=o;cases p<;>(first | (simp[Q8g] at h;done) | skip)<;>simp only[D2] at c⊢
 .exact ⟨_,c,fun w' b a=>a⟩
 .exact ⟨_,c,fun w' b a=>a⟩
 .obtain ⟨v,w',e,f⟩:=Ij c
  obtain ⟨rfl,i⟩:=Kt _ _ _ _ _ _ e;exact ⟨v,f,fun w' b a=>Iz (i w') a⟩
 .obtain ⟨v,w',e,f⟩:=Ij c
  obtain ⟨rfl,i⟩:=Ks _ _ _ _ _ e;exact ⟨v,f,fun w' b a=>Iz (i w') a⟩
structure Swap (ops : List Oper) (a b : Oper) : Prop where
  pa : Ug a.op = true
  pb : Ug b.op = true
  ga : a.guard = none
  ab : ∀ d, a.dst = some d -> d ∉ G9 ops b ++ K0 b
  ba : ∀ d, b.dst = some d -> d ∉ G9 ops a ++ K0 a
  dd : ∀ d, a.dst = some d -> b.dst ≠ some d
  gb : ∀ j c, b.guard = some (j, c) -> ((ops[j]?).bind (·.dst)).isSome = true
  rd : (Q4T a = true /\ (Q4T b = true \/ Cu b = true) /\ b.guard = none \/ Cu a = true /\ Q8g b = true /\ b.guard = none) \/ Q8g a = true
variable {ops : List Oper} {L8 : List Value -> World -> Prop}
theorem Q6H {l:List Value} {d:Option Nat} {v:Value} {s:Nat} (h: ∀e,d=some e->e≠s):get (put l d v) s=get l s:=by
 cases d with
 | none=>rfl
 | some e=>simp only[put,get,List.getD_eq_getElem?_getD,List.getElem?_set_ne (h e rfl)]
theorem X64 {l:List Value} {d e:Option Nat} {v u:Value} (h: ∀x,d=some x->e≠some x):put (put l d v) e u=put (put l e u) d v:=by
 cases d with
 | none=>rfl
 | some d=>cases e with
  | none=>rfl
  | some e=>simp only[put];exact List.set_comm _ _ (by intro a;subst a;exact h d rfl rfl)
theorem Q9a {o:Oper} {s:Nat} (a:Operand.tmp s∈o.op.operands):s∈K0 o:=by
 simp only[K0,List.mem_filterMap];exact ⟨.tmp s,by simpa using a,rfl⟩
theorem X27 {a b:Oper} {R:List Oper} {l:List Value} {w:World} (Y:Swap ops a b) (h:U1 P ops L8 (a::b::R) l w):U1 P ops L8 (b::a::R) l w:=by
 obtain ⟨pa,Z,V,L,O,Q,W,N⟩:=Y
 have o: ∀v,D2 P (put l a.dst v) b=D2 P l b:=fun v=>Bj Z fun x J=>by
  cases x with
  | tmp s=>exact Q6H fun e t g=>L e t (List.mem_append_right _ (g▸Q9a J))
  | _=>rfl
 have m: ∀v,D2 P (put l b.dst v) a=D2 P l a:=fun v=>Bj pa fun x J=>by
  cases x with
  | tmp s=>exact Q6H fun e t g=>O e t (List.mem_append_right _ (g▸Q9a J))
  | _=>rfl
 have n: ∀v u,put (put l b.dst u) a.dst v=put (put l a.dst v) b.dst u:=fun v u=>(X64 Q).symm;simp only[U1,V] at h⊢;cases k:b.guard with
 | none=>
  simp only[k] at h⊢
  rcases N with (⟨z,rb | rb,_⟩ | ⟨z,U,_⟩) | fa
  .obtain ⟨A,f,i⟩:=X1n z h
   rw[o] at f;obtain ⟨B,p,r⟩:=X1n rb f;refine r _ ?_;rw[m];exact i _ (by rw[n];exact p)
  .obtain ⟨A,f,i⟩:=X5Q z h
   rw[o] at f;obtain ⟨B,wb,k,p,r⟩:=X02 rb f;refine r _ ?_;rw[m];exact i wb _ k (by rw[n];exact p)
  .obtain ⟨A,wa,k,f,i⟩:=X02 z h
   rw[o] at f;obtain ⟨B,p,r⟩:=Q6q U f;refine r w _ ?_;rw[m];exact i _ (by rw[n];exact p)
  .obtain ⟨A,f,i⟩:=Q6q fa h
   rw[o] at f;refine Xq (fun B w' H=>?_) f;rw[m];exact i w' _ (by rw[n];exact H)
 | some q=>
  obtain ⟨j,c⟩:=q
  rcases N with (⟨_,_,y⟩ | ⟨_,_,y⟩) | fa
  .rw[k] at y;cases y
  .rw[k] at y;cases y
  obtain ⟨d,M⟩:=Option.isSome_iff_exists.1 (W j c k);have E:d∈G9 ops b:=by simp[G9,k,M]
  have X: ∀v,get (put l a.dst v) d=get l d:=fun v=>Q6H fun e t g=>L e t (List.mem_append_left _ (g▸E));simp only[k,M] at h⊢;obtain ⟨A,f,i⟩:=Q6q fa h;rw[o,X] at f;refine Q4c ((Ec f).imp (fun ⟨C,D⟩=>⟨C,Xq (fun B w' H=>?_) D⟩) (fun ⟨C,D⟩=>⟨C,?_⟩))
  .rw[m];exact i w' _ (by rw[n];exact H)
  .rw[m];exact i w _ (by rw[n];exact D)
theorem Q5U {a:Oper} {R R':List Oper} {l:List Value} {w:World} (b: ∀l w,U1 P ops L8 R l w->U1 P ops L8 R' l w) (h:U1 P ops L8 (a::R) l w):U1 P ops L8 (a::R') l w:=by
 simp only[U1] at h⊢;cases k:a.guard with
 | none=>simp only[k] at h⊢;exact Xq (fun v w g=>b _ _ g) h
 | some q=>
  obtain ⟨j,c⟩:=q;simp only[k] at h⊢;cases i:(ops[j]?).bind (·.dst) with
  | none=>simp only[i] at h⊢;exact b _ _ h
  | some d=>
   simp only[i] at h⊢;exact Q4c ((Ec h).imp (fun ⟨e,f⟩=>⟨e,Xq (fun m w' g=>b _ _ g) f⟩) (fun ⟨e,f⟩=>⟨e,b _ _ f⟩))
theorem Q3M {q:Oper} {R:List Oper}: ∀(A:List Oper) {l:List Value} {w:World},(∀a∈A,Swap ops a q)->U1 P ops L8 (A++q::R) l w->U1 P ops L8 (q::(A++R)) l w
 | [],_,_,_,h=>h
 | a::A,l,w,c,h=>X27 (c a V5) (Q5U (R:=A++q::R) (fun _ _ h=>Q3M A (fun b d=>c b (by simp[d])) h) h)
theorem Ep: ∀(A:List Oper) {B:List Oper} {l:List Value} {w:World},U1 P ops L8 (A++B) l w=U1 P ops (fun l w=>U1 P ops L8 B l w) A l w
 | [],B,l,w=>rfl
 | a::A,B,l,w=>by
  simp only[List.cons_append,U1]
  split
  .congr 1;funext v w;exact Ep A
  .split
   .congr 1;funext v w;exact Ep A
   .exact Ep A
theorem X3K {A B B':List Oper} {l:List Value} {w:World} (b: ∀l w,U1 P ops L8 B l w->U1 P ops L8 B' l w): ∀{l:List Value} {w:World},U1 P ops L8 (A++B) l w->U1 P ops L8 (A++B') l w:=by
 induction A with
 | nil=>exact fun h=>b _ _ h
 | cons a A c=>exact fun h=>Q5U (fun _ _ h=>c h) h
theorem X3i (os:List Oper) (bit:Nat->Nat->Bool) (t: ∀p q a b,p<q->os[p]? =some a->os[q]? =some b->bit p q=false->Swap ops a b):
 ∀(n:Nat) (L8:List Value->World->Prop) (L:List Nat) (l:List Value) (w:World),L.Nodup->L.length=n->(∀q∈L,q<n)->n<=os.length->L.Pairwise (fun q p=>p<q->bit p q=false)->
  U1 P ops L8 (os.take n) l w->U1 P ops L8 (L.filterMap (os[·]?)) l w
 | 0,L8,L,l,w,u,v,g,y,D,h=>by
  have:L=[]:=List.eq_nil_of_length_eq_zero v;subst this;exact h
 | n+1,L8,L,l,w,u,v,g,y,D,h=>by
  have V:n∈L:=Classical.byContradiction fun o=>by
   have O:=I0 n L u fun k J=>by
    have i:=g k J;have H:k≠n:=fun e=>o (e▸J);omega
   omega
  obtain ⟨A,B,rfl⟩:=List.append_of_mem V;have d:n<os.length:=by omega
  have c:os[n]? =some os[n]:=List.getElem?_eq_getElem d;have m:=List.nodup_append.1 u;have C:n∉B:=(List.nodup_cons.1 m.2.1).1;have z:n∉A:=fun e=>m.2.2 n e n V5 rfl;have N:os.take (n+1)=os.take n++[os[n]]:=(List.take_append_getElem d).symm;rw[N,Ep] at h
  have j: ∀q∈A++B,q<n:=fun q M=>by
   have O:q<n+1:=g q (by rcases List.mem_append.1 M with h | h<;>simp[h])
   have i:q≠n:=fun e=>by
    subst e
    rcases List.mem_append.1 M with h | h
    .exact z h
    .exact C h
   omega
  have f:(A++B).Sublist (A++n::B):=List.Sublist.append (List.Sublist.refl A) (List.sublist_cons_self n B);have i:=X3i os bit t n _ (A++B) l w (u.sublist f) (by simp at v⊢;omega) j Q5 (D.sublist f) h
  rw[<-Ep] at i;rw[List.filterMap_append,List.append_assoc] at i;rw[List.filterMap_append,List.filterMap_cons,c];refine X3K (l:=l) (w:=w) (fun l w H=>?_) i;have:=Q3M (R:=[]) (B.filterMap (os[·]?)) (fun a U=>?_) H
  .rwa [List.append_nil] at this
  .obtain ⟨p,r,E⟩:=List.mem_filterMap.1 U
   have s:=j p (List.mem_append_right _ r);refine t p n a _ s E c ?_;have Q:=(List.pairwise_append.1 D).2.1;exact (List.pairwise_cons.1 Q).1 p r s
def Q7J (ops:List Oper) (a b:Oper):Bool:=
 (match a.guard with | none=>true | some _=>false)&&(match b.guard with | none=>true | some (j,_)=>match (ops[j]?).bind (·.dst) with | some _=>true | none=>false)&&
  (((Q4T a&&(Q4T b||Cu b)||Cu a&&Q8g b)&&(match b.guard with | none=>true | some _=>false))||Q8g a)
def X4w (ops:List Oper) (a:List Nat):Bool:=
 ops.any X0F&&ops.any Q4g&&(List.range ops.length).all fun q=>(List.range q).all fun p=>Qe ops a p q||Q7J ops (ops.getD (a.getD p 0) default) (ops.getD (a.getD q 0) default)
theorem Ba {α:Type} {R:α->α->Prop}: ∀(a b:List α) {L:List α},L=b++a->(∀b q a,L=b++q::a-> ∀p∈a,R q p)->a.Pairwise R
 | [],_,_,_,_=>List.Pairwise.nil
 | q::a,b,L,c,h=>List.pairwise_cons.2 ⟨h b q a c,Ba a (b++[q]) (by rw[c];simp) h⟩
theorem Q87 {P:Program} {ops:Array Oper} {L8:List Value->World->Prop} {l0:List Value} {ord L:List Nat} {bit:Nat->Nat->Bool} (ha:Arr ops.toList ord L) (hosl:(U3 ops.toList ord).length=ops.toList.length) (hn:Uf (I2 (U3 ops.toList ord))=true) (hbit: ∀p q,Qe ops.toList ord p q=true->bit p q=true)
 (hsq: ∀p q,p<q->q<ops.toList.length->(bit p q||Q7J ops.toList (ops.toList.getD (ord.getD p 0) default) (ops.toList.getD (ord.getD q 0) default))=true) (hpair:L.Pairwise fun q p=>p<q->bit p q=false) (w:World)
 (h:U1 P ops.toList L8 (U3 ops.toList ord) l0 w):U1 P ops.toList L8 (L.filterMap ((U3 ops.toList ord)[·]?)) l0 w:=by
 refine X3i (U3 ops.toList ord) bit (fun p q a b' hpq hpa hqb hb=>?_) _ L8 L l0 w ha.hn rfl (fun q hq=>by rw[ha.hLl];exact ha.hlt q hq) (by rw[ha.hLl];exact Nat.le_refl _) hpair (by rw[ha.hLl,List.take_length];exact h)
 have hql:q<ops.toList.length:=by have:=(List.getElem?_eq_some_iff.1 hqb).1;omega
 have hpl:p<ops.toList.length:=by omega
 have hget: ∀i o,(U3 ops.toList ord)[i]? =some o->ops.toList.getD (ord.getD i 0) default=o:=by
  intro i o hi;unfold U3 at hi;rw[List.getElem?_map] at hi;cases ho:ord[i]? with
  | none=>rw[ho] at hi;cases hi
  | some x=>
   rw[ho] at hi;simp only[Option.map_some,Option.some.injEq] at hi;rw[List.getD_eq_getElem?_getD (l:=ord),ho];exact hi
 have hnc:(Zp a b'||Zp b' a)=false:=by
  cases hx:Zp a b'||Zp b' a with
  | false=>rfl
  | true=>rw[hbit p q (ha.hclash p q a b' hpq hpa hqb hx)] at hb;cases hb
 rw[Bool.or_eq_false_iff] at hnc;have hs:=hsq p q hpq hql;rw[hb,Bool.false_or,hget p a hpa,hget q b' hqb] at hs;simp only[Q7J,Bool.and_eq_true,Bool.or_eq_true] at hs;obtain ⟨⟨g1,g2⟩,g3⟩:=hs
 have hga:a.guard=none:=by
  cases hx:a.guard with
  | none=>rfl
  | some _=>rw[hx] at g1;cases g1
 have c1: ∀d,a.dst=some d->d∉K0 b'/\b'.dst≠some d:=fun d hd=>by
  have:=hnc.1;unfold Zp at this;rw[hd] at this;simp only[Bool.or_eq_false_iff] at this;exact ⟨fun hm=>by simp[hm] at this,fun hm=>by simp[hm] at this⟩
 have c2: ∀d,b'.dst=some d->d∉K0 a:=fun d hd=>by
  have:=hnc.2;unfold Zp at this;rw[hd] at this;simp only[Bool.or_eq_false_iff] at this;exact fun hm=>by simp[hm] at this
 refine ⟨ha.hpl a (List.mem_of_getElem? hpa),ha.hpl b' (List.mem_of_getElem? hqb),hga,fun d hd'=>?_,fun d hd'=>?_,fun d hd'=>(c1 d hd').2,fun j c hbg=>?_,?_⟩
 .rw[List.mem_append,not_or]
  refine ⟨fun hm=>?_,(c1 d hd').1⟩;unfold G9 at hm;cases hbg:b'.guard with
  | none=>rw[hbg] at hm;simp at hm
  | some q0=>
   obtain ⟨j,c⟩:=q0;obtain ⟨p',hp',hpj,hbt⟩:=ha.hg q b' j c hqb hbg;rw[hbg] at hm;simp only at hm;cases hjd:ops.toList[j]?.map (·.dst) with
   | none=>
    cases hj:ops.toList[j]? with
    | none=>rw[hj] at hm;simp at hm
    | some oj=>rw[hj] at hjd;cases hjd
   | some dj=>
    cases hj:ops.toList[j]? with
    | none=>rw[hj] at hjd;cases hjd
    | some oj=>
     rw[hj] at hm hpj;simp only[Option.bind_some] at hm;cases hdj:oj.dst with
     | none=>rw[hdj] at hm;simp at hm
     | some d2=>
      rw[hdj] at hm;simp only[List.mem_singleton] at hm;subst hm;have:=Uw (U3 ops.toList ord) hn p' p oj a d hpj hpa hdj hd';subst this;rw[hbit _ _ hbt] at hb;cases hb
 .rw[List.mem_append,not_or]
  exact ⟨fun hm=>by simp[G9,hga] at hm,c2 d hd'⟩
 .rw[hbg] at g2
  simp only at g2;cases hx:(ops.toList[j]?).bind (·.dst) with
  | none=>rw[hx] at g2;cases g2
  | some _=>rfl
 .rcases g3 with ⟨g3,g5⟩ | g3
  .have hn:b'.guard=none:=by
    cases hx:b'.guard with
    | none=>rfl
    | some _=>rw[hx] at g5;cases g5
   exact .inl (g3.imp (fun g=>⟨g.1,g.2,hn⟩) fun g=>⟨g.1,g.2,hn⟩)
  .exact .inr g3
theorem X9B (P:Program) (ops:Array Oper) (L8:List Value->World->Prop) (m:List Value) (a:Of ops.toList m.length=true) (e:X4w ops.toList (H8 ops.toList)=true)
 (b:Bool) (t:Nat) (w:World) (h:U1 P ops.toList L8 (U3 ops.toList (H8 ops.toList)) m w):U1 P ops.toList L8 ((Region.schedule b ops t).filterMap (ops[·]?)) m w:=by
 obtain ⟨L,k,i,c⟩:=Q8R a b t;simp only[Of,Bool.and_eq_true] at a;obtain ⟨⟨⟨⟨⟨E,C⟩,y⟩,D⟩,⟨z,A⟩,B⟩,r⟩:=a;generalize H8 ops.toList=f at*;rw[k];refine Q87 i c y (bit:=Qe ops.toList f) (fun _ _ h=>h) (fun p q d l=>?_) ?_ w h
 .simp only[X4w,Bool.and_eq_true] at e
  exact List.all_eq_true.1 (List.all_eq_true.1 e.2 q (by simpa using l)) p (by simpa using d)
 .refine Ba L [] (L:=L) rfl fun n q g j p s d=>?_
  cases v:Qe ops.toList f p q with
  | false=>rfl
  | true=>
   have u:=i.hC n q g j p v (i.hlt p (by rw[j];simp[s]))
   have o:=i.hn;rw[j] at o;exact absurd rfl ((List.nodup_append.1 o).2.2 p u p (by simp[s]))
def Y06 (b:List Nat) (a c:Nat):List Nat:=((b.erase a).takeWhile (· !=c))++a::((b.erase a).dropWhile (· !=c))
def X1G (ops:List Oper) (d b:List Nat) (a c:Nat):Bool:=
 Q9O ops b&&Uf (I2 (U3 ops b))&&
  ((List.range ops.length).all fun q=>(List.range q).all fun p=>(Qe ops d p q||(d.getD p 0==c&&d.getD q 0==a))||Q7J ops (ops.getD (d.getD p 0) default) (ops.getD (d.getD q 0) default))&&
  ((List.range ops.length).all fun q=>(List.range q).all fun p=>(Qe ops b p q||(b.getD p 0==a&&b.getD q 0==c))||Q7J ops (ops.getD (b.getD p 0) default) (ops.getD (b.getD q 0) default))
def X4C (ops:List Oper):Option (List Nat):=
 match ops.any X0F&&ops.any Q4g&&ops.any Cu with
 | true=>match ops.findIdx Cu !=ops.findIdx Q4g&&X1G ops (H8 ops) (Y06 (H8 ops) (ops.findIdx Cu) (ops.findIdx Q4g)) (ops.findIdx Cu) (ops.findIdx Q4g) with
  | true=>some (Y06 (H8 ops) (ops.findIdx Cu) (ops.findIdx Q4g))
  | false=>none
 | false=>none
theorem X7Q {ops:Array Oper} {a f:List Nat} {x y:Nat} (U:f.Nodup) (v: ∀i∈f,i<ops.toList.length/\a.getD (a.idxOf i) 0=i) (m:Arr ops.toList a (f.map (a.idxOf ·))) (o: ∀e s c,f≠e++y::(s++x::c)):
 (f.map (a.idxOf ·)).Pairwise fun q p=>p<q->(Qe ops.toList a p q||(a.getD p 0==x&&a.getD q 0==y))=false:=by
 refine Ba _ [] (L:=f.map (a.idxOf ·)) rfl fun e q c b p l N=>?_;rw[Bool.or_eq_false_iff];constructor
 .cases J:Qe ops.toList a p q with
  | false=>rfl
  | true=>
   have h:=m.hC e q c b p J (m.hlt p (by rw[b];simp[l]))
   have g:=m.hn;rw[b] at g;exact absurd rfl ((List.nodup_append.1 g).2.2 p h p (by simp[l]))
 .rw[Bool.and_eq_false_iff]
  refine Classical.byContradiction fun d=>?_;rw[not_or] at d;obtain ⟨h,g⟩:=d;have h:a.getD p 0=x:=by simpa using h
  have g:a.getD q 0=y:=by simpa using g
  rw[List.map_eq_append_iff] at b;obtain ⟨j,u,B,_,w⟩:=b;rw[List.map_eq_cons_iff] at w;obtain ⟨i,t,C,O,r⟩:=w;rw[<-r,List.mem_map] at l;obtain ⟨k,M,n⟩:=l;obtain ⟨Q,R,D⟩:=List.append_of_mem M;subst C B D;have z:=(v i V5).2;have A:=(v k V5).2;rw[O] at z;rw[n] at A;have E:i=y:=by rw[<-z];exact g
  have H:k=x:=by rw[<-A];exact h
  subst E H;exact o j Q R rfl
theorem X8h (P:Program) (ops:Array Oper) (L8:List Value->World->Prop) (D:List Value) (A:Of ops.toList D.length=true) {d:List Nat} {a c:Nat} (ae:a≠c) (C:X1G ops.toList (H8 ops.toList) d a c=true)
 (b:Bool) (t:Nat) (w:World) (h1:U1 P ops.toList L8 (U3 ops.toList (H8 ops.toList)) D w) (h2:U1 P ops.toList L8 (U3 ops.toList d) D w):U1 P ops.toList L8 ((Region.schedule b ops t).filterMap (ops[·]?)) D w:=by
 simp only[Of,Bool.and_eq_true] at A;obtain ⟨⟨⟨⟨⟨U,R⟩,hn⟩,hd⟩,⟨u,v⟩,z⟩,B⟩:=A;simp only[X1G,Bool.and_eq_true] at C;obtain ⟨⟨⟨j,M⟩,N⟩,O⟩:=C
 by_cases r: ∃i g f,Region.schedule b ops t=i++a::(g++c::f)
 .obtain ⟨E,n,H,o,J⟩:=Q14 U R u v z j b t
  rw[E];refine Q87 n H M (bit:=fun p q=>Qe ops.toList d p q||(d.getD p 0==a&&d.getD q 0==c)) (fun p q h=>by rw[h];rfl) (fun p q k l=>?_) (X7Q o J n fun i g f e=>?_) w h2
  .exact List.all_eq_true.1 (List.all_eq_true.1 O q (by simpa using l)) p (by simpa using k)
  .obtain ⟨W,V,Q,X⟩:=r
   have s: ∀{L p m q:List Nat} {x y:Nat},L=p++x::(m++y::q)->L[p.length]? =some x/\L[p.length+1+m.length]? =some y/\p.length+1+m.length<L.length:=by
    rintro L p m q x y rfl;refine ⟨by simp,?_,by simp;omega⟩
    rw[List.getElem?_append_right Q5,show p.length+1+m.length-p.length=m.length+1 by omega,List.getElem?_cons_succ]
    simp
   obtain ⟨Y,Z,g3⟩:=s e;obtain ⟨g4,g5,g6⟩:=s X;have k1:=(List.getElem?_inj Q5 o).1 (Y.trans g5.symm);have k2:=(List.getElem?_inj Q5 o).1 (Z.trans g4.symm);omega
 .obtain ⟨E,n,H,o,J⟩:=Q14 U R u v z B b t
  rw[E];refine Q87 n H hn (bit:=fun p q=>Qe ops.toList (H8 ops.toList) p q||((H8 ops.toList).getD p 0==c&&(H8 ops.toList).getD q 0==a)) (fun p q h=>by rw[h];rfl) (fun p q k l=>?_) (X7Q o J n fun i g f e=>r ⟨i,g,f,e⟩) w h1
  exact List.all_eq_true.1 (List.all_eq_true.1 N q (by simpa using l)) p (by simpa using k)
theorem X9C (P:Program) (ops:Array Oper) (L8:List Value->World->Prop) (d:List Value) (f:Of ops.toList d.length=true) {a:List Nat} (c:X4C ops.toList=some a)
 (b:Bool) (t:Nat) (w:World) (h:U1 P ops.toList L8 (U3 ops.toList (H8 ops.toList)) d w/\U1 P ops.toList L8 (U3 ops.toList a) d w):U1 P ops.toList L8 ((Region.schedule b ops t).filterMap (ops[·]?)) d w:=by
 unfold X4C at c
 split at c
 .split at c
  .rename_i e
   cases c;rw[Bool.and_eq_true] at e;exact X8h P ops L8 d f (by simpa using e.1) e.2 b t w h.1 h.2
  .cases c
 .cases c
theorem X7R: ∃f:World->(World->Prop)->Prop,f=fun w A=>A w.drew:=⟨_,rfl⟩
noncomputable def sq:World->(World->Prop)->Prop:=Classical.choose X7R
theorem X4y:sq=fun w A=>A w.drew:=Classical.choose_spec X7R
def Q9R:List Ent->Nat->Ent->(List Ent->Prop)->Prop
 | [],_,_,k=>k []
 | _::l,0,e,k=>k (e::l)
 | x::l,n+1,e,k=>Q9R l n e (fun l'=>k (x::l'))
def Q1L (S:List Ent) (d:Option Nat) (e:Ent) (k:List Ent->Prop):Prop:=
 match d with
 | some d=>Q9R S d e k
 | none=>k S
def X3T:List Ent->Nat->(Ent->Prop)->Prop
 | [],_,k=>k (.val undef)
 | x::_,0,k=>k x
 | _::l,n+1,k=>X3T l n k
def X5d (S:List Ent) (x:Operand) (k:Ent->Prop):Prop:=
 match x with
 | .tmp t=>X3T S t k
 | .const v=>k (.val v)
 | .global g=>k (.val (.pointer (some ⟨g,0,none⟩)))
 | .func f=>k (.val (.func (.func f) #[] #[]))
def Q57 (u:Nat->Value):List Ent->(List Value->Prop)->Prop
 | [],k=>k []
 | .val v::S,k=>Q57 u S (fun l=>k (v::l))
 | .ref j::S,k=>Q57 u S (fun l=>k (u j::l))
def X1O:List Value->(List Ent->Prop)->Prop
 | [],k=>k []
 | v::l,k=>X1O l (fun S=>k (.val v::S))
theorem X1H: ∀(S:List Ent) (n:Nat) (e:Ent) (k:List Ent->Prop),Q9R S n e k=k (Q6F S n e)
 | [],_,_,_=>rfl
 | _::_,0,_,_=>rfl
 | _::l,n+1,e,k=>by simp only[Q9R,Q6F,X1H l n e]
theorem Bb (S:List Ent) (d:Option Nat) (e:Ent) (k:List Ent->Prop):Q1L S d e k=k (putE S d e):=by
 cases d with
 | none=>rfl
 | some d=>exact X1H S d e k
theorem X0C: ∀(S:List Ent) (n:Nat) (k:Ent->Prop),X3T S n k=k (getE S n)
 | [],_,_=>rfl
 | _::_,0,_=>rfl
 | _::l,n+1,k=>X0C l n k
theorem X5e (S:List Ent) (x:Operand) (k:Ent->Prop):X5d S x k=k (entOf S x):=by
 cases x with
 | tmp t=>exact X0C S t k
 | _=>rfl
theorem Q6o (u:Nat->Value): ∀(S:List Ent) (k:List Value->Prop),Q57 u S k=k (Xd u S)
 | [],_=>rfl
 | .val v::S,k=>by simp only[Q57,Q6o u S];rfl
 | .ref j::S,k=>by simp only[Q57,Q6o u S];rfl
theorem Q8A: ∀(l:List Value) (k:List Ent->Prop),X1O l k=k (l.map .val)
 | [],_=>rfl
 | v::l,k=>by simp only[X1O,Q8A l];rfl
noncomputable def Lj (P:Program) (r:Bool) (ops:List Oper) (T:(Nat->Iv)->World->World->Prop) (B:World->Prop) (L8:List Value->World->Prop) (tail:List Oper):Nat->List Oper->List Ent->Kh->List Nat->Prop
 | _,[],S,c,done=>Df done (fun _=>undef) fun u=>Ek r fun b=> ∀w,B w->Q5c c u b w (Q57 u S fun l=>Yd P ops L8 tail l w) done
 | i,o::a,S,c,done=>
  match mv o with
  | some x=>X5d S x fun e=>Q1L S o.dst e fun S=>Lj P r ops T B L8 tail (i+1) a S c done
  | none=>match X49 r o with
   | true=>match r with
    | true=>X3L T (fun φ=>Df (refs ops S o) (fun _=>undef) fun u=>Ek true fun b=> ∀w,B w->Dj c u b w (runOp P ops (Xd u S) o w (dk (T b) (φ ((refs ops S o).map u)) w)) (refs ops S o))
     (fun φ=>Q1L S o.dst (.ref i) fun d=>Lj P r ops T B L8 tail (i+1) a d (c++[(i,refs ops S o,fun xs (_:Iv)=>φ xs)]) (done++[i]))
    | false=>Ko (T ivZ) (fun φ=>Df (refs ops S o) (fun _=>undef) fun u=>Ek false fun b=> ∀w,B w->Dj c u b w (runOp P ops (Xd u S) o w (dk (T b) (φ ((refs ops S o).map u)) w)) (refs ops S o))
     (fun φ=>Q1L S o.dst (.ref i) fun d=>Lj P r ops T B L8 tail (i+1) a d (c++[(i,refs ops S o,fun xs (_:Iv)=>φ xs)]) (done++[i]))
   | false=>match X48 r o with
    | true=>X6E T i (fun φ=>Df (refs ops S o) (fun _=>undef) fun u=>Ek r fun b=> ∀w,B w->Dj c u b w (runOp P ops (Xd u S) o w (dkR (T b) φ w)) (refs ops S o))
     (fun φ=>Q1L S o.dst (.ref i) fun d=>Lj P r ops T B L8 tail (i+1) a d (c++[(i,[],fun (_:List Value)=>φ)]) (done++[i]))
    | false=>match r with
     | true=>X6D T (fun φ=>Df (refs ops S o) (fun _=>undef) fun u=>Ek true fun b=> ∀w,B w->Dj c u b w (runOp P ops (Xd u S) o w (dk (T b) φ w)) (refs ops S o))
      (fun φ=>Q1L S o.dst (.ref i) fun d=>Lj P r ops T B L8 tail (i+1) a d (c++[(i,[],fun (_:List Value) (_:Iv)=>φ)]) (done++[i]))
     | false=>V2 (T ivZ) (fun φ=>Df (refs ops S o) (fun _=>undef) fun u=>Ek false fun b=> ∀w,B w->Dj c u b w (runOp P ops (Xd u S) o w (dk (T b) φ w)) (refs ops S o))
      (fun φ=>Q1L S o.dst (.ref i) fun d=>Lj P r ops T B L8 tail (i+1) a d (c++[(i,[],fun (_:List Value) (_:Iv)=>φ)]) (done++[i]))
theorem Uq (P:Program) (r:Bool) (ops:List Oper) (T:(Nat->Iv)->World->World->Prop) (B:World->Prop) (L8:List Value->World->Prop) (tail:List Oper): ∀(a:List Oper) (i:Nat) (S:List Ent) (b:Kh) (done:List Nat),
 Lj P r ops T B L8 tail i a S b done=chain P r ops T B L8 tail i a S b done
 | [],i,S,b,done=>by simp only[Lj,chain,Q6o]
 | o::a,i,S,b,done=>by
  simp only[Lj,chain]
  split
  .rw[X5e,Bb,Uq]
  .split
   .cases r with
    | true=>
     dsimp only
     congr 1
     funext φ
     rw[Bb,Uq]
    | false=>
     dsimp only
     congr 1
     funext φ
     rw[Bb,Uq]
   .split
    .congr 1
     funext φ
     rw[Bb,Uq]
    .cases r with
     | true=>
      dsimp only
      congr 1
      funext φ
      rw[Bb,Uq]
     | false=>
      dsimp only
      congr 1
      funext φ
      rw[Bb,Uq]
def Y16 (ops:List Oper):Bool:=ops.any fun o=>(match o.op with | .build .. =>true | _=>false)&&decide (2<=((K0 o).filter fun s=>ops.any fun c=>Q4g c&&c.dst==some s).length)
def Y0N (ops:List Oper):Bool:=ops.any fun o=>X6O o&&(K0 o).any fun s=>ops.any fun c=>X6O c&&c.dst==some s
def Y15 (ops:List Oper):Bool:=decide (2<=(ops.filter Cu).length)&&ops.any X0F
noncomputable def X5a (P:Program) (ops:List Oper) (L8:List Value->World->Prop) (l:List Value) (w:World):Prop:=
 drR w fun T B=>X1O l fun S=>Lj P true ops T B L8 ((U3 ops (H8 ops)).drop (Mw ops (H8 ops) ops.length)) 0 ((U3 ops (H8 ops)).take (Mw ops (H8 ops) ops.length)) S [] []
noncomputable def X7A (P:Program) (ops:List Oper) (L8:List Value->World->Prop) (l:List Value) (w:World):Prop:=
 dr w fun T B=>X1O l fun S=>Lj P false ops (fun _=>T) B L8 ((U3 ops (H8 ops)).drop (Mw ops (H8 ops) ops.length)) 0 ((U3 ops (H8 ops)).take (Mw ops (H8 ops) ops.length)) S [] []
def Q5i (a b:List Nat):Bool:=a.all (b.contains ·)&&b.all (a.contains ·)
theorem Pz {a b:List Nat} (h:Q5i a b=true) (i:Nat):a.contains i=b.contains i:=by
 simp only[Q5i,Bool.and_eq_true,List.all_eq_true] at h;rw[Bool.eq_iff_iff];constructor
 .intro c;exact h.1 i (by simpa using c)
 .intro c;exact h.2 i (by simpa using c)
abbrev W5:=List (Option (List Nat×List Nat))
def W5.slots (a:W5):List (Option (List Nat)):=a.map (·.map (·.1))
theorem W5.slots_get (a:W5) (k:Nat):a.slots.getD k none=(a.getD k none).map (·.1):=by
 simp only[W5.slots,List.getD_eq_getElem?_getD,List.getElem?_map];cases a[k]? <;>rfl
noncomputable def Nw (P:Program) (a:W5) (b:List (Option (List Nat))):Nat->Code->Gh->List Value->World->Prop
 | _, .skip,Q,l,w=>Q .normal l w
 | _, .label _,Q,l,w=>Q .normal l w
 | _, .exit id,Q,l,w=>Q (.exit id) l w
 | _, .ret,Q,l,w=>Q .ret l w
 | _, .region _ ops false,Q,l,w=>Yd P ops.toList (fun l w=>Q .normal l w) ops.toList l w
 | _, .region _ ops true,Q,l,w=>match Of ops.toList l.length with
  | true=>match X4w ops.toList (H8 ops.toList) with
   | true=>sq w fun w=>Yd P ops.toList (fun l w=>Q .normal l w) (U3 ops.toList (H8 ops.toList)) l w
   | false=>match X4C ops.toList with
    | some g=>sq w fun w=>Yd P ops.toList (fun l w=>Q .normal l w) (U3 ops.toList (H8 ops.toList)) l w/\Yd P ops.toList (fun l w=>Q .normal l w) (U3 ops.toList g) l w
    | none=>match Y16 ops.toList||(Y0N ((U3 ops.toList (H8 ops.toList)).take (Mw ops.toList (H8 ops.toList) ops.toList.length))||Y15 ((U3 ops.toList (H8 ops.toList)).take (Mw ops.toList (H8 ops.toList) ops.toList.length))) with
     | true=>X5a P ops.toList (fun l w=>Q .normal l w) l w
     | false=>X7A P ops.toList (fun l w=>Q .normal l w) l w
  | false=>False
 | k, .seq x y,Q,l,w=>match a.getD k none with
  | none=>Nw P a b (k+1) x (thn (fun l w=>Nw P a b (k+1+Zw x) y Q l w) Q) l w
  | some (f,h)=>match Q5i h (C5 b (k+1) x) with
   | true=>jn w (fun J w=>Nw P a b (k+1) x (thn (fun l' w'=>J (Cp l' f) w') Q) l w)
    (fun z d w=>Q0i f h z d 0 l fun l=>Nw P a b (k+1+Zw x) y Q l w)
   | false=>False
 | k, .cond c x y,Q,l,w=>X0 (ev l c) (Nw P a b k x Q l w) (Nw P a b (k+Zw x) y Q l w)
 | k, .block id c,Q,l,w=>Nw P a b k c (Q7a id Q) l w
 | k, .loop c,Q,l,w=>match a.getD k none with
  | none=>False
  | some (f,h)=>match Q5i h (C5 b (k+1) c) with
   | true=>lp (Cp l f) w (fun e x d w=>Q0i f h x d 0 l fun l=>Nw P a b (k+1) c (thn (fun l' w'=>e (Cp l' f) w') Q) l w)
   | false=>False
 | _,_,_,_,_=>False
theorem Q4Z {next a:List Value->World->Prop} {Q b:Gh} (c: ∀l w,next l w->a l w) (d: ∀e l w,Q e l w->b e l w): ∀e l w,thn next Q e l w->thn a b e l w:=by
 intro e l w h;cases e<;>first | exact c _ _ h | exact d _ _ _ h
theorem X6C (P:Program) (m:W5) (c:Code): ∀(k:Nat) (Q j:Gh) (l:List Value) (w:World),(∀e l w,Q e l w->j e l w)->
 Nw P m m.slots k c Q l w->Sg P m.slots k c j l w:=by
 induction c with
 | skip=>intro k Q j l w g h;exact g _ _ _ h
 | label n=>intro k Q j l w g h;exact g _ _ _ h
 | exit id=>intro k Q j l w g h;exact g _ _ _ h
 | ret=>intro k Q j l w g h;exact g _ _ _ h
 | goto n=>intro k Q j l w g h;exact h.elim
 | refuse s=>intro k Q j l w g h;exact h.elim
 | scope c=>intro k Q j l w g h;exact h.elim
 | rangeFunc f p a b=>intro k Q j l w g h;exact h.elim
 | region id ops v=>
  intro k Q j l w g h;cases v with
  | true=>
   simp only[Nw] at h
   split at h
   .rename_i q
    intro t
    have A:U1 P ops.toList (fun l w=>Q .normal l w) ((Region.schedule (P.follows .mixedOrders) ops t).filterMap (ops[·]?)) l w.drew:=by
     split at h
     .rename_i W
      simp only[X4y,Ie] at h;exact X9B P ops _ l q W _ t _ h
     .split at h
      .rename_i aa M
       simp only[X4y,Ie] at h;exact X9C P ops _ l q M _ t _ h
      .split at h
       .simp only[X5a,X9F,X0u,Q8A,Uq] at h
        obtain ⟨T,B,L,N,hM,h⟩:=h;exact X2S P true ops T B _ l q N hM h (P.follows .mixedOrders) t w.drew L
       .simp only[X7A,X7y,X3M,Q8A,Uq] at h
        obtain ⟨T,B,L,N,h⟩:=h;exact X2S P false ops (fun _=>T) B _ l q (fun _=>N) (fun _ _ _ _=>Nat.le_refl _) h (P.follows .mixedOrders) t w.drew L
    refine Lk P _ _ _ (I2 ops.toList) l _ _ _ ?_ (Zo.refl _ _) (fun l w R _=>g _ _ _ R) A;intro o E d A;simp only[List.mem_filterMap] at E;obtain ⟨i,_,hi⟩:=E;simp only[I2,List.contains_eq_mem,List.mem_filterMap,decide_eq_true_eq];exact ⟨o,by simpa using Array.mem_of_getElem? hi,A⟩
   .exact h.elim
  | false=>
   simp only[Nw] at h;rw[Ie] at h;refine Lk P _ _ _ (I2 ops.toList) l _ _ _ ?_ (Zo.refl _ _) (fun l w R _=>g _ _ _ R) h;intro o E d A;simp only[I2,List.contains_eq_mem,List.mem_filterMap,decide_eq_true_eq];exact ⟨o,E,A⟩
 | seq x y r u=>
  intro k Q j l w g h;simp only[Nw,Sg] at h⊢;rw[W5.slots_get]
  split at h
  .rename_i C
   simp only[C,Option.map_none];exact r _ _ _ _ _ (Q4Z (fun l w h=>u _ _ _ _ _ g h) g) h
  .rename_i sl wr C
   simp only[C,Option.map_some]
   split at h
   .rename_i U
    obtain ⟨J,h1,M⟩:=X0I h;refine Qt J (r _ _ _ _ _ (Q4Z (fun l w h=>h) g) h1) fun z d w hz=>?_;have Y:=M z d w hz;rw[Q8W,Tu _ _ _ (Pz U)] at Y;exact u _ _ _ _ _ g Y
   .exact h.elim
 | cond c x y r u=>
  intro k Q j l w g h;exact Q8N (r k _ _ _ _ g) (u _ _ _ _ _ g) h
 | block id c X=>
  intro k Q j l w g h;refine X k _ _ _ _ ?_ h;intro e l' w' D;cases e with
  | exit ag=>simp only[Q7a] at D⊢;split<;>rename_i O<;>simp only[O,if_true,if_false] at D<;>exact g _ _ _ D
  | _=>exact g _ _ _ D
 | loop c X=>
  intro k Q j l w g h;simp only[Nw,Sg] at h⊢
  split at h
  .exact h.elim
  .rename_i sl wr C
   have V:(m.slots.getD k none).getD []=sl:=by rw[W5.slots_get,C];rfl
   split at h
   .rename_i U
    subst V;refine Q97 (fun H x d w Z=>?_) h;rw[Q8W,Tu _ _ _ (Pz U)] at Z;exact X _ _ _ _ _ (Q4Z (fun l w h=>h) g) Z
   .exact h.elim
def Q7z (P:Program) (t:TypeId) (a:Value) (w:World) (K:Value->Prop):Prop:= ∃v,(do loadVar t (<-asAddr a):Sem Value).run P w= .ok v w/\K v
theorem Q7B: ∃f:Program->TypeId->Value->World->(Value->Prop)->Prop,f=Q7z:=⟨_,rfl⟩
noncomputable def J4:Program->TypeId->Value->World->(Value->Prop)->Prop:=Classical.choose Q7B
theorem Q7A:J4=Q7z:=Classical.choose_spec Q7B
noncomputable def X1w (P:Program) (l:List Value) (K:List Value->World->Prop):List ResultVar->List Value->World->Prop
 | [],b,w=>K b.reverse w
 | .tmp t::rs,b,w=>X1w P l K rs (get l t::b) w
 | .cell a t::rs,b,w=>J4 P t (get l a) w fun v=>X1w P l K rs (v::b) w
def Q7L:List Value->Value
 | [v]=>v
 | vs=> .tuple vs.toArray
noncomputable def results (P:Program) (rs:List ResultVar) (K:Value->World->Prop) (l:List Value) (w:World):Prop:=
 X1w P l (fun vs w=>K (Q7L vs) w) rs [] w
noncomputable def X1A (P:Program) (fn:Func) (K:Value->World->Prop):Gh
 | .normal,l,w | .ret,l,w=>results P fn.results.toList K l w
 | _,_,_=>False
def X7d (K:Value->World->Prop) (e:Ending) (w:World):Prop:=match e with | .returned v=>K v w | _=>False
theorem X0B (a:Array Value) (t:Nat):a.getD t undef=get a.toList t:=by
 simp[get,List.getD_eq_getElem?_getD]
theorem X69 (vs:List Value):(if h:vs.toArray.size=1 then vs.toArray[0] else Value.tuple vs.toArray)=Q7L vs:=by
 match vs with
 | []=>rfl
 | [v]=>rfl
 | _::_::_=>rfl
theorem Q6C (P:Program) (l:List Value) (K:List Value->World->Prop) (f:ResultVar->Sem Value)
 (c: ∀t,f (.tmp t)=Pure.pure (get l t)) (d: ∀a t,f (.cell a t)=(do loadVar t (<-asAddr (get l a)))): ∀(rs:List ResultVar) (b:List Value) (w:World),X1w P l K rs b w->
 ∃vs,(rs.mapM f).run P w= .ok vs w/\K (b.reverse++vs) w
 | [],b,w,h=>⟨[],by simp,by rw[List.append_nil];exact h⟩
 | .tmp t::rs,b,w,h=>by
  obtain ⟨vs,e,g⟩:=Q6C P l K f c d rs _ w h;refine ⟨get l t::vs,?_,by simpa using g⟩
  rw[List.mapM_cons,c]
  simp[e]
 | .cell a t::rs,b,w,h=>by
  simp only[X1w,Q7A] at h;obtain ⟨v,i,h⟩:=h;obtain ⟨vs,e,g⟩:=Q6C P l K f c d rs _ w h;refine ⟨v::vs,?_,by simpa using g⟩
  rw[List.mapM_cons,d,Sem.run_bind,i]
  simp[e]
def Y0e (a:Array Value):ResultVar->Sem Value
 | .tmp t=>Pure.pure (a.getD t undef)
 | .cell b t=>do loadVar t (<-asAddr (a.getD b undef))
theorem X1z (fn:Func) (a:Array Value):Go.results fn a=(do
 let vs<-fn.results.mapM (Y0e a)
 Pure.pure (if h:vs.size=1 then vs[0] else .tuple vs)):=by
 unfold Go.results
 congr 1
theorem Q6b (P:Program) (fn:Func) (K:Value->World->Prop) (a:Array Value) (w:World) (h:results P fn.results.toList K a.toList w):
 ∃v,(Go.results fn a).run P w= .ok v w/\K v w:=by
 rw[X1z,Array.mapM_eq_mapM_toList];obtain ⟨vs,b,c⟩:=Q6C P a.toList (fun vs w=>K (Q7L vs) w) (Y0e a) (fun t=>by rw[<-X0B];rfl) (fun d t=>by rw[<-X0B];rfl) fn.results.toList [] w h
 refine ⟨Q7L vs,?_,by simpa using c⟩
 rw[Sem.run_bind,Sem.run_map,b];simp only[Result.andThen_ok,Sem.run_pure,X69]
def Q0h (fn:Func) (a:List Value):List Value:=a++List.replicate (fn.ntmps-a.length) undef
theorem X0i {P:Program} {f:FuncId} {fn:Func} {c:Code} {b:List Value} {w:World} {K:Value->World->Prop} (d:List (Option (List Nat)))
 (k:P.funcs[f]? =some fn) (j:fn.body=some c) (h:Sg P d 0 c (X1A P fn K) (Q0h fn b) w):Calls P f b.toArray w (X7d K):=by
 refine calls_of_wp k j (wp_mono (X56 P d c 0 (X1A P fn K) _ w rfl ?_) ?_)
 .have:(b.toArray++Array.replicate (fn.ntmps-b.toArray.size) undef).toList=Q0h fn b:=by simp[Q0h]
  simp only[this];exact h
 .intro e a w ⟨i,g⟩
  cases e with
  | normal=>exact ⟨i,Q6b P fn K _ _ g⟩
  | ret=>exact ⟨i,Q6b P fn K _ _ g⟩
  | _=>exact g.elim
theorem Dg {P:Program} {f:FuncId} {fn:Func} {a:List Value} {w:World} {K:Value->World->Prop}
 (i:P.funcs[f]? =some fn) (d:fn.body.isSome=true) (j:(fn.name== "runtime.NumGoroutine")=false) (h:Calls P f a.toArray w (X7d K)):Q0 P f a w K:=by
 have k:(callFunc f a.toArray).run P w= .ok (.enter f a.toArray) w:=by
  unfold callFunc;simp only[Sem.run_bind,run_program,Result.andThen_ok,i,j,Bool.false_eq_true,if_false];cases b:fn.body with
  | none=>rw[b] at d;cases d
  | some c=>simp
 unfold Q0;rw[Zf];unfold Yp;rw[k];refine h.mono fun e w' g=>?_;cases e<;>exact g
theorem Q84 {P:Program} {f:FuncId} {fn:Func} {a:List Value} {w:World} {K:Value->World->Prop}
 (i:P.funcs[f]? =some fn) (d:fn.body.isSome=true) (j:(fn.name== "runtime.NumGoroutine")=false) (h:Q0 P f a w K):Calls P f a.toArray w (X7d K):=by
 have k:(callFunc f a.toArray).run P w= .ok (.enter f a.toArray) w:=by
  unfold callFunc;simp only[Sem.run_bind,run_program,Result.andThen_ok,i,j,Bool.false_eq_true,if_false];cases b:fn.body with
  | none=>rw[b] at d;cases d
  | some c=>simp
 unfold Q0 at h;rw[Zf] at h;unfold Yp at h;rw[k] at h;refine Calls.mono h fun e w' g=>?_;cases e<;>exact g
theorem X92 {P:Program} {f:FuncId} {fn:Func} {b:List Value} {w:World} {K:Value->World->Prop} (a:W5)
 (g:P.funcs[f]? =some fn) (d:fn.body.isSome=true) (i:(fn.name== "runtime.NumGoroutine")=false)
 (h:Nw P a a.slots 0 (fn.body.getD .skip) (X1A P fn K) (Q0h fn b) w):Q0 P f b w K:=by
 refine Dg g d i ?_;obtain ⟨c,e⟩:=Option.isSome_iff_exists.1 d;rw[e] at h;exact X0i a.slots g e (X6C P a c 0 _ _ _ _ (fun _ _ _ h=>h) h)
theorem X91 {P:Program} {f:FuncId} {fn:Func} {a:List Value} {w:World} {K:Value->World->Prop} {g:Prop} (b:W5)
 (e:P.funcs[f]? =some fn) (c:fn.body.isSome=true) (i:(fn.name== "runtime.NumGoroutine")=false)
 (d:g=Nw P b b.slots 0 (fn.body.getD .skip) (X1A P fn K) (Q0h fn a) w) (h:g):Q0 P f a w K:=
 X92 b e c i (d▸h)
theorem J8 {P:Program} {f:FuncId} {first caps:List Value} {a:List Value} {w:World} {K:Value->World->Prop} (h:Q0 P f (first++a++caps) w K):J6 P (.func (.func f) first.toArray caps.toArray) a w K:=by
 simpa [J6,Q0,Deferred.ofValue,invoke,pure_bind,List.append_toArray] using h
end Go.Emb
namespace Go.Proofs.Y
noncomputable abbrev P : Program := Tryz.prog
end Go.Proofs.Y
namespace Go.Proofs.Y.F
abbrev cF : Nat := 4
abbrev aO : Nat := 8
abbrev am : Nat := 9
abbrev aQ : Nat := 10
abbrev ch : Nat := 11
abbrev au : Nat := 12
abbrev ci : Nat := 13
abbrev av : Nat := 14
abbrev c2 : Nat := 15
abbrev aP : Nat := 16
abbrev bK : Nat := 17
abbrev cy : Nat := 18
abbrev bV : Nat := 19
abbrev b8 : Nat := 20
abbrev bq : Nat := 21
abbrev d8 : Nat := 22
abbrev dt : Nat := 25
abbrev aG : Nat := 26
abbrev cl : Nat := 27
abbrev ds : Nat := 28
abbrev aK : Nat := 29
abbrev bb : Nat := 30
abbrev da : Nat := 31
abbrev c3 : Nat := 32
abbrev aH : Nat := 33
abbrev cj : Nat := 34
abbrev co : Nat := 35
abbrev bn : Nat := 36
abbrev h : Nat := 37
abbrev db : Nat := 38
abbrev bB : Nat := 39
abbrev cP : Nat := 40
abbrev dl : Nat := 41
abbrev aT : Nat := 42
abbrev bW : Nat := 43
abbrev t : Nat := 44
abbrev ac : Nat := 45
abbrev aU : Nat := 46
abbrev aw : Nat := 47
abbrev b7 : Nat := 48
abbrev aV : Nat := 49
abbrev cW : Nat := 50
abbrev dr : Nat := 51
abbrev d0 : Nat := 52
abbrev di : Nat := 53
abbrev d6 : Nat := 54
abbrev d9 : Nat := 55
abbrev j : Nat := 56
abbrev bu : Nat := 57
abbrev q : Nat := 58
abbrev bG : Nat := 59
abbrev bH : Nat := 60
abbrev bl : Nat := 61
abbrev bQ : Nat := 62
abbrev bO : Nat := 63
abbrev b : Nat := 64
abbrev bz : Nat := 65
abbrev an : Nat := 66
abbrev be : Nat := 67
abbrev bo : Nat := 68
abbrev bj : Nat := 69
abbrev a5 : Nat := 70
abbrev aE : Nat := 71
abbrev d1 : Nat := 72
abbrev bi : Nat := 73
abbrev cD : Nat := 74
abbrev s : Nat := 75
abbrev bA : Nat := 76
abbrev bT : Nat := 77
abbrev bZ : Nat := 78
abbrev cq : Nat := 79
abbrev bh : Nat := 80
abbrev cp : Nat := 81
abbrev aj : Nat := 82
abbrev cw : Nat := 83
abbrev cn : Nat := 84
abbrev a8 : Nat := 85
abbrev bg : Nat := 86
abbrev x : Nat := 87
abbrev dk : Nat := 88
abbrev d4 : Nat := 89
abbrev u : Nat := 90
abbrev aM : Nat := 91
abbrev l : Nat := 92
abbrev d5 : Nat := 93
abbrev bJ : Nat := 94
abbrev ba : Nat := 95
abbrev cM : Nat := 96
abbrev cb : Nat := 97
abbrev bv : Nat := 98
abbrev bU : Nat := 99
abbrev bs : Nat := 100
abbrev a3 : Nat := 101
abbrev f : Nat := 102
abbrev m : Nat := 103
abbrev dg : Nat := 104
abbrev d7 : Nat := 105
abbrev aa : Nat := 106
abbrev ag : Nat := 107
abbrev cB : Nat := 108
abbrev e : Nat := 109
abbrev bk : Nat := 110
abbrev z : Nat := 111
abbrev cz : Nat := 112
abbrev c : Nat := 113
abbrev a1 : Nat := 114
abbrev aJ : Nat := 115
abbrev bE : Nat := 116
abbrev ao : Nat := 117
abbrev ae : Nat := 118
abbrev ap : Nat := 119
abbrev b9 : Nat := 120
abbrev a : Nat := 121
abbrev aL : Nat := 122
abbrev cJ : Nat := 123
abbrev bt : Nat := 124
abbrev c4 : Nat := 125
abbrev bP : Nat := 126
abbrev bR : Nat := 127
abbrev bS : Nat := 128
abbrev b3 : Nat := 129
abbrev bx : Nat := 130
abbrev b0 : Nat := 131
abbrev p : Nat := 132
abbrev cX : Nat := 133
abbrev aX : Nat := 134
abbrev ak : Nat := 135
abbrev bp : Nat := 136
abbrev b5 : Nat := 137
abbrev b6 : Nat := 138
abbrev a4 : Nat := 139
abbrev dz : Nat := 140
abbrev aS : Nat := 141
abbrev c5 : Nat := 142
abbrev c6 : Nat := 143
abbrev aY : Nat := 144
abbrev cc : Nat := 145
abbrev cd : Nat := 146
abbrev c0 : Nat := 147
abbrev aI : Nat := 149
abbrev du : Nat := 150
abbrev c7 : Nat := 151
abbrev a2 : Nat := 152
abbrev c1 : Nat := 153
abbrev bI : Nat := 154
abbrev aN : Nat := 155
abbrev bf : Nat := 156
abbrev br : Nat := 157
abbrev a0 : Nat := 158
abbrev d : Nat := 159
abbrev ai : Nat := 160
abbrev cR : Nat := 161
abbrev cS : Nat := 162
abbrev ab : Nat := 163
abbrev al : Nat := 164
abbrev b1 : Nat := 165
abbrev cT : Nat := 166
abbrev aF : Nat := 167
abbrev cU : Nat := 168
abbrev aA : Nat := 169
abbrev cV : Nat := 170
abbrev ay : Nat := 171
abbrev bY : Nat := 172
abbrev cg : Nat := 173
abbrev aq : Nat := 174
abbrev bm : Nat := 175
abbrev ah : Nat := 176
abbrev af : Nat := 177
abbrev y : Nat := 178
abbrev cE : Nat := 179
abbrev k : Nat := 180
abbrev cI : Nat := 181
abbrev c9 : Nat := 182
abbrev aW : Nat := 183
abbrev i : Nat := 184
abbrev dw : Nat := 185
abbrev r : Nat := 186
abbrev dd : Nat := 187
abbrev aZ : Nat := 188
abbrev w : Nat := 189
abbrev a9 : Nat := 190
abbrev bd : Nat := 191
abbrev aR : Nat := 192
abbrev b4 : Nat := 193
abbrev d2 : Nat := 194
abbrev cm : Nat := 195
abbrev ce : Nat := 196
abbrev cH : Nat := 197
abbrev d3 : Nat := 198
abbrev dv : Nat := 199
abbrev b2 : Nat := 200
abbrev aB : Nat := 201
abbrev cK : Nat := 202
abbrev cx : Nat := 203
abbrev cN : Nat := 204
abbrev cZ : Nat := 205
abbrev g : Nat := 206
abbrev cA : Nat := 207
abbrev cv : Nat := 208
abbrev ct : Nat := 209
abbrev cf : Nat := 210
abbrev bC : Nat := 211
abbrev az : Nat := 212
abbrev bD : Nat := 213
abbrev dh : Nat := 214
abbrev ax : Nat := 215
abbrev dA : Nat := 216
abbrev cQ : Nat := 217
abbrev ar : Nat := 218
abbrev dx : Nat := 219
abbrev dB : Nat := 223
abbrev bc : Nat := 224
abbrev bF : Nat := 225
abbrev ad : Nat := 226
abbrev c8 : Nat := 227
abbrev bX : Nat := 228
abbrev de : Nat := 229
abbrev cC : Nat := 230
abbrev cO : Nat := 231
abbrev o : Nat := 232
abbrev cu : Nat := 233
abbrev cL : Nat := 234
abbrev dq : Nat := 235
abbrev n : Nat := 236
abbrev cs : Nat := 237
abbrev aD : Nat := 238
abbrev bM : Nat := 243
abbrev cG : Nat := 244
abbrev a7 : Nat := 245
abbrev dp : Nat := 246
abbrev df : Nat := 247
abbrev dj : Nat := 248
abbrev a6 : Nat := 249
abbrev bN : Nat := 255
abbrev bL : Nat := 256
abbrev v : Nat := 257
abbrev dy : Nat := 258
abbrev dc : Nat := 260
abbrev dC : Nat := 264
abbrev cY : Nat := 265
abbrev bw : Nat := 266
abbrev ca : Nat := 267
abbrev dm : Nat := 268
abbrev aC : Nat := 269
abbrev ck : Nat := 270
abbrev dn : Nat := 271
abbrev cr : Nat := 272
end Go.Proofs.Y.F
namespace Go.Proofs.Y.T
abbrev x : Nat := 0
abbrev a1 : Nat := 2
abbrev e : Nat := 3
abbrev s : Nat := 4
abbrev a2 : Nat := 5
abbrev b : Nat := 9
abbrev aF : Nat := 12
abbrev ay : Nat := 21
abbrev a5 : Nat := 22
abbrev i : Nat := 23
abbrev g : Nat := 24
abbrev a : Nat := 26
abbrev aC : Nat := 29
abbrev ae : Nat := 31
abbrev r : Nat := 32
abbrev w : Nat := 33
abbrev f : Nat := 37
abbrev a3 : Nat := 39
abbrev aj : Nat := 42
abbrev a7 : Nat := 45
abbrev l : Nat := 46
abbrev o : Nat := 55
abbrev z : Nat := 60
abbrev ac : Nat := 71
abbrev a8 : Nat := 75
abbrev n : Nat := 79
abbrev ad : Nat := 85
abbrev h : Nat := 90
abbrev p : Nat := 95
abbrev t : Nat := 104
abbrev a6 : Nat := 105
abbrev a4 : Nat := 107
abbrev j : Nat := 108
abbrev k : Nat := 109
abbrev c : Nat := 111
abbrev y : Nat := 118
abbrev q : Nat := 119
abbrev m : Nat := 121
abbrev u : Nat := 122
abbrev d : Nat := 124
abbrev af : Nat := 127
abbrev ab : Nat := 129
abbrev aw : Nat := 147
abbrev ag : Nat := 150
abbrev aa : Nat := 154
abbrev az : Nat := 164
abbrev a0 : Nat := 173
abbrev ah : Nat := 176
abbrev am : Nat := 177
abbrev aD : Nat := 196
abbrev au : Nat := 198
abbrev av : Nat := 199
abbrev a9 : Nat := 203
abbrev ak : Nat := 204
abbrev ai : Nat := 215
abbrev aq : Nat := 218
abbrev v : Nat := 222
abbrev aB : Nat := 238
abbrev ap : Nat := 240
abbrev ar : Nat := 243
abbrev an : Nat := 247
abbrev ax : Nat := 254
abbrev aE : Nat := 268
abbrev al : Nat := 271
abbrev ao : Nat := 272
abbrev aA : Nat := 283
abbrev aG : Nat := 288
end Go.Proofs.Y.T
namespace Go.Proofs.Y.G
abbrev b : Nat := 0
abbrev e : Nat := 1
abbrev d : Nat := 2
abbrev a : Nat := 3
abbrev c : Nat := 4
end Go.Proofs.Y.G
namespace Go.Proofs.Y
open Go.Emb
set_option maxRecDepth 100000
def Y5 (T:World->World->Prop) (B:World->Prop) (A:World->(Value->World->Prop)->Prop) (R:(Value->World->Prop)->Prop):Prop:=V2 T (fun φ=> ∀w,B w->A w (dk T φ w)) R
def X5 (T:World->World->Prop) (B:World->Prop) (f:Value->World->Prop) (A:Value->World->(Value->World->Prop)->Prop) (R:(Value->World->Prop)->Prop):Prop:=V2 T (fun φ=> ∀x w,B w->f x w->A x w (dk T φ w)) R
def N2 (T:World->World->Prop) (B:World->Prop) (f g:Value->World->Prop) (A:Value->Value->World->(Value->World->Prop)->Prop) (R:(Value->World->Prop)->Prop):Prop:=V2 T (fun φ=> ∀x y w,B w->f x w->g y w->A x y w (dk T φ w)) R
def Jn (T:World->World->Prop) (B:World->Prop) (f g h:Value->World->Prop) (A:Value->Value->Value->World->(Value->World->Prop)->Prop) (R:(Value->World->Prop)->Prop):Prop:=V2 T (fun φ=> ∀x y z w,B w->f x w->g y w->h z w->A x y z w (dk T φ w)) R
def L9 (T:TypeId) (v:Value) (w:World) (K:Value->World->Prop):Prop:=Qa P T w fun t w=>U8 P T t v w fun _ w=>K t w
def D0 (t:Value) (w:World) (K:Value->Value->World->Prop):Prop:=ext P t 0 w fun a w=>ext P t 1 w fun b w=>K a b w
def J1 (c:Value) (b:Bool) (w:World) (S T:TypeId) (a:Value) (i:Nat) (K:Value->World->Prop):Prop:=Q1 c b w (fieldAddr P S a i) fun e w=>Q1 c b w (Q7 P T e) K
def zhi (c:Value) (b:Bool) (w:World) (S T:TypeId) (a i:Value) (K:Value->World->Prop):Prop:=Q1 c b w (indexAddr P S a i) fun e w=>Q1 c b w (Q7 P T e) K
def X6 (S T:TypeId) (a:Value) (i:Nat) (w:World) (K:Value->World->Prop):Prop:=fieldAddr P S a i w fun e w=>Q7 P T e w K
def J3 (S T:TypeId) (a i:Value) (w:World) (K:Value->World->Prop):Prop:=indexAddr P S a i w fun e w=>Q7 P T e w K
def V1 (n:Nat) (x:Value) (w:World) (A:Value->World->Prop):Prop:=Z2 P .add T.e (.tmp n) (.const (.int .i64 1)) x (.int .i64 1) w fun t w=>A t w
def X8 (c:Value) (b:Bool) (v:Value) (w:World) (K:Value->World->Prop):Prop:=Q1 c b w (fun w J=>J v w) K
def W9 (c:Value) (A:World->(Value->World->Prop)->Prop):World->(Value->World->Prop)->Prop:=fun w=>Q1 c true w A
def Se (c:Value) (A:World->(Value->World->Prop)->Prop):World->(Value->World->Prop)->Prop:=fun w=>Q1 c false w A
def X4 (S:TypeId) (v:Value):World->(Value->World->Prop)->Prop:=U4 P .len [S] T.e [false] [v]
def X2 (o:BinOp) (T:TypeId) (n:Nat) (v:Value) (z:Int):World->(Value->World->Prop)->Prop:=Z2 P o T (.tmp n) (.const (.int .i64 z)) v (.int .i64 z)
def J9 (o:BinOp) (T:TypeId) (n:Nat) (v:Value) (z:Array UInt8):World->(Value->World->Prop)->Prop:=Z2 P o T (.tmp n) (.const (.string ⟨z⟩)) v (.string ⟨z⟩)
def X1 (o:BinOp) (T:TypeId) (n m:Nat) (u v:Value):World->(Value->World->Prop)->Prop:=Z2 P o T (.tmp n) (.tmp m) u v
abbrev zV0:Type:=World->(Value->World->Prop)->Prop
abbrev D6:Type:=Value->zV0
abbrev V9:Type:=Value->D6
abbrev Yn:Type:=Value->V9
abbrev zV4:Type:=Value->Yn
abbrev zV5:Type:=Value->zV4
theorem zr {f:FuncId} {fn:Func} {a:List Value} {w:World} {K:Value->World->Prop} {g:Prop} (b:W5) (e:P.funcs[f]? =some fn) (h:g) (c:fn.body.isSome=true:=by rfl) (i:(fn.name== "runtime.NumGoroutine")=false:=by decide) (d:g=Nw P b b.slots 0 (fn.body.getD .skip) (X1A P fn K) (Q0h fn a) w:=by kernel_rfl):Q0 P f a w K:=X91 b e c i d h
def Y0 (k:Nat):W5:=List.replicate k none
variable {w : World} {K : Value -> World -> Prop} {a0 a1 a2 a3 a4 a5 a6 a7 : Value}
def X0R:W5:=[none,none,none,none,some ([1,10],[1,3,10,11,12,13,14,15,16,17,18])]++Y0 5
def Q40:zV0:=fun w K=>B6 P T.c [(0,(.string ⟨#[79,98,106,101,99,116]⟩))] w fun i w=>B6 P T.m [(0,(.string ⟨#[119,104,97,116]⟩)),(1,(.string ⟨#[116,101,120,116]⟩))] w fun j w=>buildSlice P T.j 1 [(0,j)] w fun k w=>B6 P T.c [(0,(.string ⟨#[70,97,117,108,116]⟩)),(1,(.string ⟨#[79,98,106,101,99,116]⟩)),(6,k)] w fun l w=>buildSlice P T.i 2 [(0,i),(1,l)] w fun m w=>Q7 P T.az (.pointer (some ⟨G.b,0,none⟩)) w fun n w=>lp (α:=Value×Value) (m,(.int .i64 0)) w fun a b o w=>X2 .lss T.e 10 b.2 6 w fun c w=>X0 c (P7 P T.az n b.2 w fun d w=>B6 P T.c [(0,d),(1,(.string ⟨#[70,97,117,108,116]⟩)),(5,(.bool true))] w fun e w=>buildSlice P T.i 1 [(0,e)] w fun f w=>U4 P .append [T.i,T.i] T.i [false,false] [b.1,f] w fun g w=>X2 .add T.e 10 b.2 1 w fun h w=>a (g,h) w) (K b.1 w)
theorem X1b (h:Q40 w K):Q0 P F.di [] w K:=zr X0R Tryz.func53 h
def X0O:W5:=[none,none,none,some ([8],[2,4,8,9,10,11,12,13,14,15,16,17,18,19,20,21,22,23,24,25,26,27,28,29,30,31,32,33])]++Y0 7
def Q3W:D6:=fun L w K=>box P T.c L w fun a w=>X6 T.c T.k a 7 w fun J w=>X4 T.k J w fun M w=>lp (α:=Value) (.int .i64 0) w fun c H O w=>X1 .lss T.e 8 7 H M w fun N w=>X0 N (J3 T.k T.d J H w fun i w=>L9 T.d i w fun b w=>X6 T.d T.h b 1 w fun j w=>X4 T.h j w fun k w=>X2 .gtr T.e 14 k 32 w fun d w=>J1 d false w T.d T.u b 6 fun l w=>Q1 d false w (X4 T.u l) fun m w=>Q1 d false w (X2 .gtr T.e 19 m 32) fun n w=>pick P d (.bool true) n w fun e w=>J1 e false w T.d T.q b 5 fun o w=>Q1 e false w (X4 T.q o) fun p w=>Q1 e false w (X2 .gtr T.e 25 p 200) fun q w=>pick P e (.bool true) q w fun h w=>J1 h false w T.d T.e b 4 fun r w=>Q1 h false w (X2 .gtr T.e 30 r 64) fun s w=>pick P h (.bool true) s w fun t w=>X0 t (K (.bool true) w) (V1 8 H w c)) (X6 T.c T.h a 2 w fun u w=>X4 T.h u w fun v w=>X2 .gtr T.e 36 v 32 w fun f w=>J1 f false w T.c T.j a 6 fun y w=>Q1 f false w (X4 T.j y) fun z w=>Q1 f false w (X2 .gtr T.e 41 z 32) fun A w=>pick P f (.bool true) A w fun g w=>J1 g false w T.c T.k a 7 fun B w=>Q1 g false w (X4 T.k B) fun C w=>Q1 g false w (X2 .gtr T.e 47 C 32) fun D w=>pick P g (.bool true) D w fun E w=>K E w)
theorem X17 (h:Q3W a0 w K):Q0 P F.dg [a0] w K:=zr X0O Tryz.func104 h
def Ue:W5:=[none,none,none,some ([8],[4,5,8,9,10,11,12,13,14,15,16,17,18])]++Y0 7
def Qc:V9:=fun e f w K=>X4 T.k e w fun g w=>lp (α:=Value) (.int .i64 0) w fun a b i w=>X1 .lss T.e 8 7 b g w fun h w=>X0 h (J3 T.k T.d e b w fun c w=>J6 P f [c] w fun d w=>X0 d (K b w) (V1 8 b w a)) (K (.int .i64 (-1)) w)
theorem Uj (h:Qc a0 a1 w K):Q0 P F.i [a0,a1] w K:=zr Ue Tryz.func184 h
def P3:V9:=fun a b w K=>Q0 P F.i [a,b] w fun c w=>X2 .geq T.e 7 c 0 w fun d w=>K d w
theorem Zx (h:P3 a0 a1 w K):Q0 P F.a [a0,a1] w K:=zr (Y0 2) Tryz.func121 h
def Rs:W5:=[none,none,none,some ([8],[4,5,8,9,10,11,12,13,14,15,16,17,18])]++Y0 7
def Zu:V9:=fun e f w K=>X4 T.h e w fun g w=>lp (α:=Value) (.int .i64 0) w fun a b i w=>X1 .lss T.e 8 7 b g w fun h w=>X0 h (J3 T.h T.b e b w fun c w=>X1 .eql T.b 11 15 f c w fun d w=>X0 d (K b w) (V1 8 b w a)) (K (.int .i64 (-1)) w)
theorem Rz (h:Zu a0 a1 w K):Q0 P F.aB [a0,a1] w K:=zr Rs Tryz.func201 h
def Yt:V9:=fun a b w K=>Q0 P F.aB [a,b] w fun c w=>X2 .geq T.e 7 c 0 w fun d w=>K d w
theorem Ov (h:Yt a0 a1 w K):Q0 P F.ai [a0,a1] w K:=zr (Y0 2) Tryz.func160 h
def Tx:D6:=fun b w K=>box P T.d b w fun a w=>X6 T.d T.s a 3 w fun c w=>K c w
theorem Q7q (h:Tx a0 w K):Q0 P F.cR [a0] w K:=zr (Y0 2) Tryz.func161 h
def Ty:D6:=fun b w K=>box P T.d b w fun a w=>X6 T.d T.s a 3 w fun c w=>W2 P .not c w fun d w=>K d w
theorem Q7r (h:Ty a0 w K):Q0 P F.cS [a0] w K:=zr (Y0 2) Tryz.func162 h
def Nx:W5:=[none,none,none,some ([8],[4,5,8,9,10,11,12,13,14,15,16,17,18])]++Y0 7
def Yi:V9:=fun e f w K=>X4 T.h e w fun g w=>lp (α:=Value) (.int .i64 0) w fun a b i w=>X1 .lss T.e 8 7 b g w fun h w=>X0 h (J3 T.h T.b e b w fun c w=>J6 P f [c] w fun d w=>X0 d (K b w) (V1 8 b w a)) (K (.int .i64 (-1)) w)
theorem Ny (h:Yi a0 a1 w K):Q0 P F.y [a0,a1] w K:=zr Nx Tryz.func178 h
def Xo:V9:=fun a b w K=>Q0 P F.y [a,b] w fun c w=>X2 .geq T.e 7 c 0 w fun d w=>K d w
theorem Lc (h:Xo a0 a1 w K):Q0 P F.c [a0,a1] w K:=zr (Y0 2) Tryz.func113 h
def Ol:V9:=fun a b w K=>Q7 P T.ae b w fun c w=>J6 P c [a] w fun d w=>W2 P .not d w fun e w=>K e w
theorem Q01 (h:Ol a0 a1 w K):Q0 P F.cK [a0,a1] w K:=zr (Y0 2) Tryz.func202 h
def Hg:V9:=fun b c w K=>box P T.ae c w fun a w=>S1 P (.func F.cK) [] [a] w fun d w=>Q0 P F.c [b,d] w fun e w=>W2 P .not e w fun f w=>K f w
theorem Q1W (h:Hg a0 a1 w K):Q0 P F.ab [a0,a1] w K:=zr (Y0 2) Tryz.func163 h
def X46:W5:=[none,none,none,some ([],[4,6,9,10,11,12,13,14,15])]++Y0 6
def Q74:V9:=fun g h w K=>rng P T.b g w fun i w=>lp (α:=Unit) () w fun a k j w=>L8 P i true T.x w fun f w=>ext P f 0 w fun b w=>X0 b (ext P f 2 w fun c w=>J6 P h [c] w fun d w=>W2 P .not d w fun e w=>X0 e (K (.bool false) w) (a () w)) (K (.bool true) w)
theorem X4k (h:Q74 a0 a1 w K):Q0 P F.de [a0,a1] w K:=zr X46 Tryz.func229 h
def Q46:D6:=fun b w K=>Z2 P .geq T.ay (.tmp 3) (.const (.int .i32 65)) b (.int .i32 65) w fun a w=>X8 a true b w fun c w=>Q1 a true w (Z2 P .leq T.ay (.tmp 6) (.const (.int .i32 90)) c (.int .i32 90)) fun d w=>pick P a d (.bool false) w fun e w=>K e w
theorem X1h (h:Q46 a0 w K):Q0 P F.cN [a0] w K:=zr (Y0 2) Tryz.func204 h
def Q47:D6:=fun b w K=>Z2 P .geq T.ay (.tmp 3) (.const (.int .i32 97)) b (.int .i32 97) w fun a w=>X8 a true b w fun c w=>Q1 a true w (Z2 P .leq T.ay (.tmp 6) (.const (.int .i32 122)) c (.int .i32 122)) fun d w=>pick P a d (.bool false) w fun e w=>K e w
theorem X1i (h:Q47 a0 w K):Q0 P F.cO [a0] w K:=zr (Y0 2) Tryz.func231 h
def Q2H:D6:=fun c w K=>Q0 P F.cN [c] w fun j w=>X8 j false c w fun k w=>Q1 j false w (Q0 P F.cO [k]) fun l w=>pick P j (.bool true) l w fun b w=>X8 b false c w fun d w=>Q1 b false w (Z2 P .geq T.ay (.tmp 10) (.const (.int .i32 48)) d (.int .i32 48)) fun e w=>X8 b false e w fun a w=>X8 a true c w fun f w=>Q1 a true w (Z2 P .leq T.ay (.tmp 13) (.const (.int .i32 57)) f (.int .i32 57)) fun g w=>Q1 b false w (pick P a g (.bool false)) fun h w=>pick P b (.bool true) h w fun i w=>K i w
theorem Q9G (h:Q2H a0 w K):Q0 P F.cC [a0] w K:=zr (Y0 2) Tryz.func230 h
def Q63:D6:=fun c w K=>J9 .eql T.b 3 c #[] w fun d w=>X8 d false c w fun n w=>Q1 d false w (X4 T.b n) fun o w=>Q1 d false w (X2 .gtr T.e 7 o 32) fun p w=>pick P d (.bool true) p w fun b w=>X8 b false c w fun e w=>Q1 b false w (P7 P T.b e (.int .i64 0)) fun f w=>Q1 b false w (Z2 P .geq T.a2 (.tmp 12) (.const (.int .u8 48)) f (.int .u8 48)) fun g w=>X8 b false g w fun a w=>X8 a true c w fun h w=>Q1 a true w (P7 P T.b h (.int .i64 0)) fun i w=>Q1 a true w (Z2 P .leq T.a2 (.tmp 16) (.const (.int .u8 57)) i (.int .u8 57)) fun j w=>Q1 b false w (pick P a j (.bool false)) fun k w=>pick P b (.bool true) k w fun l w=>X0 l (K (.bool false) w) (Q0 P F.de [c,(.func (.func F.cC) #[] #[])] w fun m w=>K m w)
theorem X2u (h:Q63 a0 w K):Q0 P F.cx [a0] w K:=zr (Y0 5) Tryz.func203 h
def Q42:D6:=fun c w K=>Q0 P F.cx [c] w fun a w=>X8 a true c w fun d w=>Q1 a true w (P7 P T.b d (.int .i64 0)) fun e w=>Q1 a true w (conv P T.a2 T.ay e) fun f w=>Q1 a true w (Q0 P F.cN [f]) fun g w=>pick P a g (.bool false) w fun b w=>K b w
theorem X1d (h:Q42 a0 w K):Q0 P F.al [a0] w K:=zr (Y0 2) Tryz.func164 h
def Du:Yn:=fun k f l w K=>dr w fun b a=>Y5 b a (Q7 P T.aj f) fun j=>X5 b a j (fun e=>J6 P e [k]) fun m=>Y5 b a (Q7 P T.aj f) fun n=>Y5 b a (Q7 P T.b l) fun o=> ∀e g h i w,a w->j e w->m g w->n h w->o i w->J6 P h [i] w fun c w=>X1 .eql T.b 7 10 g c w fun d w=>K d w
theorem Q0B (h:Du a0 a1 a2 w K):Q0 P F.cZ [a0,a1,a2] w K:=zr (Y0 2) Tryz.func205 h
def Q2T:W5:=[none,none,none,some ([9],[4,5,6,9,10,11,12,13,14,15,16,17,18,19])]++Y0 7
def Sr:V9:=fun e k w K=>box P T.aj k w fun a w=>X4 T.h e w fun l w=>lp (α:=Value) (.int .i64 0) w fun b d m w=>X1 .lss T.e 9 8 d l w fun f w=>X0 f (J3 T.h T.b e d w fun g w=>L9 T.b g w fun c w=>I7 P T.h e none (some d) none w fun h w=>S1 P (.func F.cZ) [] [a,c] w fun i w=>Q0 P F.c [h,i] w fun j w=>X0 j (K (.bool false) w) (V1 9 d w b)) (K (.bool true) w)
theorem Q3e (h:Sr a0 a1 w K):Q0 P F.b1 [a0,a1] w K:=zr Q2T Tryz.func165 h
def Q6Z:D6:=fun a w K=>K a w
theorem Q7s (h:Q6Z a0 w K):Q0 P F.cT [a0] w K:=zr (Y0 2) Tryz.func166 h
def Vc:W5:=[none,none,none,some ([8],[4,5,8,9,10,11,12,13,14,15,16,17,18])]++Y0 7
def Qp:V9:=fun e f w K=>X4 T.j e w fun g w=>lp (α:=Value) (.int .i64 0) w fun a b i w=>X1 .lss T.e 8 7 b g w fun h w=>X0 h (J3 T.j T.m e b w fun c w=>J6 P f [c] w fun d w=>X0 d (K b w) (V1 8 b w a)) (K (.int .i64 (-1)) w)
theorem Vj (h:Qp a0 a1 w K):Q0 P F.k [a0,a1] w K:=zr Vc Tryz.func180 h
def T4:V9:=fun a b w K=>Q0 P F.k [a,b] w fun c w=>X2 .geq T.e 7 c 0 w fun d w=>K d w
theorem Jp (h:T4 a0 a1 w K):Q0 P F.g [a0,a1] w K:=zr (Y0 2) Tryz.func206 h
def Lu:Yn:=fun n h o w K=>box P T.m n w fun a w=>dr w fun c b=>Y5 c b (Q7 P T.ai h) fun l=>Y5 c b (Q7 P T.m a) fun m=>N2 c b l m (fun f g=>J6 P f [g]) fun p=>Y5 c b (Q7 P T.ai h) fun q=>Y5 c b (Q7 P T.m o) fun r=> ∀f g i j k w,b w->l f w->m g w->p i w->q j w->r k w->J6 P j [k] w fun d w=>X1 .eql T.b 7 10 i d w fun e w=>K e w
theorem Po (h:Lu a0 a1 a2 w K):Q0 P F.cA [a0,a1,a2] w K:=zr (Y0 2) Tryz.func207 h
def As:W5:=[none,none,none,some ([9],[4,5,6,9,10,11,12,13,14,15,16,17,18,19])]++Y0 7
def Om:V9:=fun e k w K=>box P T.ai k w fun a w=>X4 T.j e w fun l w=>lp (α:=Value) (.int .i64 0) w fun b d m w=>X1 .lss T.e 9 8 d l w fun f w=>X0 f (J3 T.j T.m e d w fun g w=>L9 T.m g w fun c w=>I7 P T.j e none (some d) none w fun h w=>S1 P (.func F.cA) [] [a,c] w fun i w=>Q0 P F.g [h,i] w fun j w=>X0 j (K (.bool false) w) (V1 9 d w b)) (K (.bool true) w)
theorem Q02 (h:Om a0 a1 w K):Q0 P F.aF [a0,a1] w K:=zr As Tryz.func167 h
def Tz:D6:=fun b w K=>box P T.m b w fun a w=>X6 T.m T.b a 0 w fun c w=>K c w
theorem Q7t (h:Tz a0 w K):Q0 P F.cU [a0] w K:=zr (Y0 2) Tryz.func168 h
def Wu:Yn:=fun n h o w K=>box P T.d n w fun a w=>dr w fun c b=>Y5 c b (Q7 P T.ah h) fun l=>Y5 c b (Q7 P T.d a) fun m=>N2 c b l m (fun f g=>J6 P f [g]) fun p=>Y5 c b (Q7 P T.ah h) fun q=>Y5 c b (Q7 P T.d o) fun r=> ∀f g i j k w,b w->l f w->m g w->p i w->q j w->r k w->J6 P j [k] w fun d w=>X1 .eql T.b 7 10 i d w fun e w=>K e w
theorem Is (h:Wu a0 a1 a2 w K):Q0 P F.cv [a0,a1,a2] w K:=zr (Y0 2) Tryz.func208 h
def Td:W5:=[none,none,none,some ([9],[4,5,6,9,10,11,12,13,14,15,16,17,18,19])]++Y0 7
def Nq:V9:=fun e k w K=>box P T.ah k w fun a w=>X4 T.k e w fun l w=>lp (α:=Value) (.int .i64 0) w fun b d m w=>X1 .lss T.e 9 8 d l w fun f w=>X0 f (J3 T.k T.d e d w fun g w=>L9 T.d g w fun c w=>I7 P T.k e none (some d) none w fun h w=>S1 P (.func F.cv) [] [a,c] w fun i w=>Q0 P F.a [h,i] w fun j w=>X0 j (K (.bool false) w) (V1 9 d w b)) (K (.bool true) w)
theorem Th (h:Nq a0 a1 w K):Q0 P F.aA [a0,a1] w K:=zr Td Tryz.func169 h
def Aa:D6:=fun b w K=>box P T.d b w fun a w=>X6 T.d T.b a 0 w fun c w=>K c w
theorem Q7u (h:Aa a0 w K):Q0 P F.cV [a0] w K:=zr (Y0 2) Tryz.func170 h
def Wr:V9:=fun b c w K=>box P T.m b w fun a w=>Q7 P T.aq c w fun d w=>Q7 P T.m a w fun e w=>J6 P d [e] w fun f w=>W2 P .not f w fun g w=>K g w
theorem Iq (h:Wr a0 a1 w K):Q0 P F.ct [a0,a1] w K:=zr (Y0 2) Tryz.func209 h
def Nn:V9:=fun b c w K=>box P T.aq c w fun a w=>S1 P (.func F.ct) [] [a] w fun d w=>Q0 P F.g [b,d] w fun e w=>W2 P .not e w fun f w=>K f w
theorem Tf (h:Nn a0 a1 w K):Q0 P F.ay [a0,a1] w K:=zr (Y0 2) Tryz.func171 h
def Q44:D6:=fun a w K=>J9 .eql T.b 3 a #[105,110,116] w fun e w=>X8 e false a w fun g w=>Q1 e false w (J9 .eql T.b 6 g #[98,111,111,108]) fun h w=>pick P e (.bool true) h w fun f w=>X8 f false a w fun b w=>Q1 f false w (J9 .eql T.b 10 b #[116,101,120,116]) fun c w=>pick P f (.bool true) c w fun d w=>K d w
theorem X1f (h:Q44 a0 w K):Q0 P F.aW [a0] w K:=zr (Y0 2) Tryz.func183 h
def Ns:V9:=fun b c w K=>X4 T.b b w fun n w=>X4 T.b c w fun o w=>X1 .geq T.e 6 8 n o w fun a w=>X8 a true b w fun d w=>X8 a true b w fun e w=>Q1 a true w (X4 T.b e) fun f w=>X8 a true c w fun g w=>Q1 a true w (X4 T.b g) fun h w=>Q1 a true w (X1 .sub T.e 13 15 f h) fun i w=>Q1 a true w (I7 P T.b d (some i) none none) fun j w=>X8 a true c w fun k w=>Q1 a true w (X1 .eql T.b 17 18 j k) fun l w=>pick P a l (.bool false) w fun m w=>K m w
theorem Tj (h:Ns a0 a1 w K):Q0 P F.ad [a0,a1] w K:=zr (Y0 2) Tryz.func226 h
def Cl:V9:=fun a b w K=>Q0 P F.ad [a,b] w fun c w=>K c w
theorem Q3y (h:Cl a0 a1 w K):Q0 P F.c8 [a0,a1] w K:=zr (Y0 2) Tryz.func227 h
def Ly:V9:=fun a f w K=>Q0 P F.ad [a,f] w fun g w=>X0 g (X4 T.b a w fun b w=>X4 T.b f w fun c w=>X1 .sub T.e 10 12 b c w fun d w=>I7 P T.b a none (some d) none w fun e w=>K e w) (K a w)
theorem Ps (h:Ly a0 a1 w K):Q0 P F.cG [a0,a1] w K:=zr (Y0 5) Tryz.func244 h
def Rk:V9:=fun a b w K=>Q0 P F.cG [a,b] w fun c w=>K c w
theorem Q2o (h:Rk a0 a1 w K):Q0 P F.bX [a0,a1] w K:=zr (Y0 2) Tryz.func228 h
def X2k:W5:=[none,none,none,some ([0,4],[0,4,5,6,7,8,9,10]),none,none,none]
def Q64:D6:=fun d w K=>lp (α:=Value×Value) (d,(.int .i64 0)) w fun a b g w=>Q0 P F.c8 [b.1,(.string ⟨#[91,93]⟩)] w fun e w=>X0 e (Q0 P F.bX [b.1,(.string ⟨#[91,93]⟩)] w fun f w=>X2 .add T.e 9 b.2 1 w fun c w=>a (f,c) w) (K (.tuple #[b.1,b.2]) w)
theorem X2v (h:Q64 a0 w K):Q0 P F.d3 [a0] w K:=zr X2k Tryz.func198 h
def Q45:D6:=fun j w K=>Q0 P F.d3 [j] w fun k w=>D0 k w fun i l w=>X2 .leq T.e 10 l 3 w fun a w=>X8 a true i w fun c w=>Q1 a true w (Q0 P F.aW [c]) fun d w=>X8 a true d w fun b w=>X8 b false i w fun e w=>Q1 b false w (Q0 P F.al [e]) fun f w=>Q1 a true w (pick P b (.bool true) f) fun g w=>pick P a g (.bool false) w fun h w=>K h w
theorem X1g (h:Q45 a0 w K):Q0 P F.a2 [a0] w K:=zr (Y0 3) Tryz.func152 h
def Q0j:D6:=fun b w K=>Q0 P F.cx [b] w fun a w=>X8 a true b w fun c w=>Q1 a true w (Q0 P F.al [c]) fun d w=>Q1 a true w (W2 P .not d) fun e w=>pick P a e (.bool false) w fun f w=>K f w
theorem Q8p (h:Q0j a0 w K):Q0 P F.cg [a0] w K:=zr (Y0 2) Tryz.func173 h
def Ab:D6:=fun d w K=>box P T.m d w fun a w=>X6 T.m T.b a 0 w fun e w=>Q0 P F.cg [e] w fun c w=>J1 c true w T.m T.b a 1 fun f w=>Q1 c true w (Q0 P F.a2 [f]) fun g w=>pick P c g (.bool false) w fun b w=>K b w
theorem Q7v (h:Ab a0 w K):Q0 P F.bY [a0] w K:=zr (Y0 2) Tryz.func172 h
def Vs:V9:=fun b c w K=>box P T.d b w fun a w=>Q7 P T.am c w fun d w=>Q7 P T.d a w fun e w=>J6 P d [e] w fun f w=>W2 P .not f w fun g w=>K g w
theorem Gk (h:Vs a0 a1 w K):Q0 P F.cf [a0,a1] w K:=zr (Y0 2) Tryz.func210 h
def Lt:V9:=fun b c w K=>box P T.am c w fun a w=>S1 P (.func F.cf) [] [a] w fun d w=>Q0 P F.a [b,d] w fun e w=>W2 P .not e w fun f w=>K f w
theorem Pn (h:Lt a0 a1 w K):Q0 P F.aq [a0,a1] w K:=zr (Y0 2) Tryz.func174 h
def Kw:V9:=fun u t w K=>box P T.v u w fun a w=>X6 T.v T.e a 0 w fun v w=>X2 .geq T.e 5 v 0 w fun f w=>J1 f true w T.v T.e a 1 fun y w=>J1 f true w T.v T.e a 0 fun g w=>Q1 f true w (X1 .gtr T.e 9 11 y g) fun h w=>pick P f h (.bool false) w fun b w=>J1 b true w T.v T.e a 1 fun i w=>Q1 b true w (Q7 P T.e t) fun j w=>Q1 b true w (X1 .leq T.e 16 17 i j) fun k w=>pick P b k (.bool false) w fun d w=>J1 d true w T.v T.e a 2 fun l w=>Q1 d true w (X2 .geq T.e 22 l 0) fun m w=>pick P d m (.bool false) w fun c w=>J1 c true w T.v T.e a 2 fun n w=>Q1 c true w (Q7 P T.e t) fun o w=>Q1 c true w (X1 .lss T.e 27 28 n o) fun p w=>pick P c p (.bool false) w fun e w=>J1 e true w T.v T.b a 3 fun q w=>Q1 e true w (Q0 P F.al [q]) fun r w=>pick P e r (.bool false) w fun s w=>K s w
theorem Q6y (h:Kw a0 a1 w K):Q0 P F.bC [a0,a1] w K:=zr (Y0 2) Tryz.func211 h
def Vd:W5:=[none,none,none,some ([8],[4,5,8,9,10,11,12,13,14,15,16,17,18])]++Y0 7
def Qq:V9:=fun e f w K=>X4 T.q e w fun g w=>lp (α:=Value) (.int .i64 0) w fun a b i w=>X1 .lss T.e 8 7 b g w fun h w=>X0 h (J3 T.q T.y e b w fun c w=>J6 P f [c] w fun d w=>X0 d (K b w) (V1 8 b w a)) (K (.int .i64 (-1)) w)
theorem Vk (h:Qq a0 a1 w K):Q0 P F.a7 [a0,a1] w K:=zr Vd Tryz.func245 h
def T5:V9:=fun a b w K=>Q0 P F.a7 [a,b] w fun c w=>X2 .geq T.e 7 c 0 w fun d w=>K d w
theorem Jq (h:T5 a0 a1 w K):Q0 P F.o [a0,a1] w K:=zr (Y0 2) Tryz.func232 h
def Ws:V9:=fun b c w K=>box P T.y b w fun a w=>Q7 P T.ar c w fun d w=>Q7 P T.y a w fun e w=>J6 P d [e] w fun f w=>W2 P .not f w fun g w=>K g w
theorem Ir (h:Ws a0 a1 w K):Q0 P F.cu [a0,a1] w K:=zr (Y0 2) Tryz.func233 h
def Np:V9:=fun b c w K=>box P T.ar c w fun a w=>S1 P (.func F.cu) [] [a] w fun d w=>Q0 P F.o [b,d] w fun e w=>W2 P .not e w fun f w=>K f w
theorem Tg (h:Np a0 a1 w K):Q0 P F.az [a0,a1] w K:=zr (Y0 2) Tryz.func212 h
def Me:W5:=[none,none,none,some ([8],[4,5,8,9,10,11,12,13,14,15,16,17,18])]++Y0 7
def Xz:V9:=fun e f w K=>X4 T.aA e w fun g w=>lp (α:=Value) (.int .i64 0) w fun a b i w=>X1 .lss T.e 8 7 b g w fun h w=>X0 h (J3 T.aA T.al e b w fun c w=>J6 P f [c] w fun d w=>X0 d (K b w) (V1 8 b w a)) (K (.int .i64 (-1)) w)
theorem Mn (h:Xz a0 a1 w K):Q0 P F.v [a0,a1] w K:=zr Me Tryz.func257 h
def Q2D:V9:=fun b c w K=>box P T.al b w fun a w=>X6 T.al T.b a 0 w fun d w=>Q7 P T.b c w fun e w=>X1 .eql T.b 5 6 d e w fun f w=>K f w
theorem Q9C (h:Q2D a0 a1 w K):Q0 P F.dy [a0,a1] w K:=zr (Y0 2) Tryz.func258 h
def Q5Y:D6:=fun b w K=>box P T.b b w fun a w=>I7 P T.ao (.pointer (some ⟨G.a,0,none⟩)) none none none w fun c w=>S1 P (.func F.dy) [] [a] w fun d w=>Q0 P F.v [c,d] w fun e w=>K e w
theorem X2p (h:Q5Y a0 w K):Q0 P F.dp [a0] w K:=zr (Y0 2) Tryz.func246 h
def Q3Y:D6:=fun p w K=>Q0 P F.dp [p] w fun m w=>X2 .lss T.e 8 m 0 w fun q w=>X0 q (K (.tuple #[(.bool false),(.bool false),(.bool false)]) w) (dr w fun f a=>Y5 f a (indexAddr P T.ao (.pointer (some ⟨G.a,0,none⟩)) m) fun i=>X5 f a i (fun b=>fieldAddr P T.al b 1) fun j=>Y5 f a (indexAddr P T.ao (.pointer (some ⟨G.a,0,none⟩)) m) fun k=>X5 f a k (fun d=>fieldAddr P T.al d 2) fun l=>X5 f a j (fun c=>Q7 P T.s c) fun n=>X5 f a l (fun e=>Q7 P T.s e) fun o=> ∀b c d e g h w,a w->i b w->j c w->k d w->l e w->n g w->o h w->K (.tuple #[g,h,(.bool true)]) w)
theorem X19 (h:Q3Y a0 w K):Q0 P F.cL [a0] w K:=zr (Y0 6) Tryz.func234 h
def Q61:D6:=fun c w K=>Q0 P F.d3 [c] w fun d w=>D0 d w fun f e w=>Q0 P F.a2 [c] w fun a w=>W2 P .not a w fun b w=>X0 b (K (.int .i64 0) w) (K e w)
theorem X2s (h:Q61 a0 w K):Q0 P F.d2 [a0] w K:=zr (Y0 6) Tryz.func194 h
def Nt:V9:=fun a b w K=>Q0 P F.cr [a,b] w fun c w=>K c w
theorem Tk (h:Nt a0 a1 w K):Q0 P F.aC [a0,a1] w K:=zr (Y0 2) Tryz.func269 h
def Q34:W5:=Y0 17++[some ([8,10],[4,8,10,11,12,13,57,58,59,60,61,62,63,64,65,66,67,68,69,70,71,72,73,74,75,76,77,78,79,80,81,82,83,84,85,86,87,88,89,90,91,92,93,94,95,96,97,98,99,100,101,102,103,104,105,106,107,108,109,110,111,112,113,114,115,116,117,118,119,120,121,122,123,124,125,126,127,128,129,130,131,132,133,134,135,136,137,138,139,140,141,142]),none,none,some ([8],[4,8,11,60,61,62,63,64,65,66,67,68,69,70,71,72,73,74,75,76,77])]++Y0 23
def Cn:V9:=fun h k w K=>X4 T.b k w fun d w=>X2 .eql T.e 17 d 0 w fun l w=>X8 l false k w fun Z w=>X8 l false h w fun aa w=>Q1 l false w (X1 .eql T.b 20 21 Z aa) fun ab w=>pick P l (.bool true) ab w fun ac w=>X0 ac (K (.int .i64 0) w) (X2 .eql T.e 25 d 1 w fun ad w=>X0 ad (P7 P T.b k (.int .i64 0) w fun ae w=>Q0 P F.aC [h,ae] w fun af w=>K af w) (X4 T.b h w fun ag w=>X1 .geq T.e 32 34 d ag w fun ah w=>X0 ah (K (.int .i64 (-1)) w) (Q7 P T.e (.pointer (some ⟨G.c,0,none⟩)) w fun ai w=>X1 .leq T.e 37 38 d ai w fun m w=>X8 m true h w fun aj w=>Q1 m true w (X4 T.b aj) fun ak w=>Q1 m true w (X2 .leq T.e 42 ak 64) fun al w=>pick P m al (.bool false) w fun am w=>X0 am (Q0 P F.cY [h,k] w fun an w=>K an w) (P7 P T.b k (.int .i64 0) w fun X w=>P7 P T.b k (.int .i64 1) w fun ao w=>X4 T.b h w fun ap w=>X1 .sub T.e 53 54 ap d w fun aq w=>X2 .add T.e 55 aq 1 w fun p w=>lp (α:=Value×Value) ((.int .i64 0),(.int .i64 0)) w fun i g d_ w=>X1 .lss T.e 57 58 g.1 p w fun ar w=>X0 ar (jn (α:=Value) w (fun r w=>P7 P T.b h g.1 w fun av w=>X1 .neq T.a2 62 63 av X w fun aw w=>X0 aw (X2 .add T.e 66 g.1 1 w fun ax w=>I7 P T.b h (some ax) (some p) none w fun ay w=>Q0 P F.aC [ay,X] w fun Y w=>X2 .lss T.e 72 Y 0 w fun az w=>X0 az (K (.int .i64 (-1)) w) (X2 .add T.e 75 Y 1 w fun a2 w=>X1 .add T.e 74 76 g.1 a2 w fun a3 w=>r a3 w)) (r g.1 w)) fun j d_ w=>X2 .add T.e 79 j 1 w fun a4 w=>P7 P T.b h a4 w fun a5 w=>X1 .eql T.a2 81 82 a5 ao w fun b w=>X8 b true h w fun a6 w=>X8 b true j w fun a7 w=>X8 b true j w fun a8 w=>X8 b true d w fun a9 w=>Q1 b true w (X1 .add T.e 87 88 a8 a9) fun ba w=>Q1 b true w (I7 P T.b a6 (some a7) (some ba) none) fun bb w=>X8 b true k w fun bc w=>Q1 b true w (X1 .eql T.b 90 91 bb bc) fun bd w=>pick P b bd (.bool false) w fun be w=>X0 be (K j w) (X2 .add T.e 95 j 1 w fun e w=>X2 .add T.e 97 g.2 1 w fun q w=>Q7 P T.e (.pointer (some ⟨G.c,0,none⟩)) w fun s w=>X1 .leq T.e 99 100 d s w fun c w=>X8 c true q w fun t w=>X8 c true e w fun u w=>Q1 c true w (Q0 P F.dC [u]) fun v w=>Q1 c true w (X1 .gtr T.e 103 105 t v) fun y w=>pick P c y (.bool false) w fun z w=>X0 z (I7 P T.b h (some e) none none w fun A w=>Q0 P F.cY [A,k] w fun n w=>X2 .geq T.e 113 n 0 w fun B w=>X0 B (X1 .add T.e 115 116 n e w fun C w=>K C w) (K (.int .i64 (-1)) w)) (Q7 P T.e (.pointer (some ⟨G.c,0,none⟩)) w fun D w=>X1 .gtr T.e 118 119 d D w fun a w=>X8 a true q w fun E w=>X8 a true e w fun H w=>Q1 a true w (Z2 P .shr T.e (.tmp 123) (.const (.int .u64 4)) H (.int .u64 4)) fun J w=>Q1 a true w (Z2 P .add T.e (.const (.int .i64 4)) (.tmp 124) (.int .i64 4) J) fun L w=>Q1 a true w (X1 .geq T.e 122 125 E L) fun M w=>pick P a M (.bool false) w fun f w=>X8 f true e w fun N w=>X8 f true p w fun O w=>Q1 f true w (X1 .lss T.e 129 130 N O) fun Q w=>pick P f Q (.bool false) w fun R w=>X0 R (I7 P T.b h (some e) none none w fun U w=>Q0 P F.dn [U,k] w fun o w=>X2 .lss T.e 138 o 0 w fun V w=>X0 V (K (.int .i64 (-1)) w) (X1 .add T.e 140 141 e o w fun W w=>K W w)) (i (e,q) w)))) (K (.int .i64 (-1)) w)))))
theorem Q3A (h:Cn a0 a1 w K):Q0 P F.ca [a0,a1] w K:=zr Q34 Tryz.func267 h
def Gx:V9:=fun j n w K=>Q0 P F.ca [j,n] w fun a w=>X2 .geq T.e 11 a 0 w fun k w=>X0 k (dr w fun i d=>Y5 i d (I7 P T.b j none (some a) none) fun l=>Y5 i d (X4 T.b n) fun g=>X5 i d g (fun b=>X1 .add T.e 17 19 a b) fun h=>X5 i d h (fun c=>I7 P T.b j (some c) none none) fun m=> ∀e b c f w,d w->l e w->g b w->h c w->m f w->K (.tuple #[e,f,(.bool true)]) w) (K (.tuple #[j,(.string ⟨#[]⟩),(.bool false)]) w)
theorem Q5M (h:Gx a0 a1 w K):Q0 P F.dm [a0,a1] w K:=zr (Y0 6) Tryz.func268 h
def Q2L:V9:=fun e f w K=>Q0 P F.dm [e,f] w fun d w=>D0 d w fun a b w=>ext P d 2 w fun c w=>K (.tuple #[a,b,c]) w
theorem Q9K (h:Q2L a0 a1 w K):Q0 P F.dc [a0,a1] w K:=zr (Y0 2) Tryz.func260 h
def Q43:D6:=fun t w K=>Q0 P F.dc [t,(.string ⟨#[46]⟩)] w fun e w=>D0 e w fun f d w=>ext P e 2 w fun g w=>W2 P .not g w fun b w=>X8 b false f w fun h w=>Q1 b false w (Q0 P F.al [h]) fun i w=>Q1 b false w (W2 P .not i) fun j w=>pick P b (.bool true) j w fun c w=>X8 c false d w fun k w=>Q1 c false w (Q0 P F.cx [k]) fun l w=>Q1 c false w (W2 P .not l) fun m w=>pick P c (.bool true) m w fun a w=>X8 a false d w fun n w=>Q1 a false w (P7 P T.b n (.int .i64 0)) fun o w=>Q1 a false w (conv P T.a2 T.ay o) fun p w=>Q1 a false w (Q0 P F.cO [p]) fun q w=>Q1 a false w (W2 P .not q) fun r w=>pick P a (.bool true) r w fun s w=>X0 s (K (.tuple #[(.string ⟨#[]⟩),(.string ⟨#[]⟩),(.int .i64 30)]) w) (K (.tuple #[f,d,(.int .i64 0)]) w)
theorem X1e (h:Q43 a0 w K):Q0 P F.dj [a0] w K:=zr (Y0 6) Tryz.func248 h
def X2j:W5:=Y0 7++[some ([27],[27,28,29])]++Y0 6
def Q5Z:V9:=fun f a w K=>J9 .eql T.b 8 f #[119,111,114,100] w fun i w=>X0 i (X4 T.b a w fun j w=>X2 .leq T.e 12 j 64 w fun e w=>X8 e true a w fun k w=>Q1 e true w (Q0 P F.bg [k]) fun l w=>pick P e l (.bool false) w fun b w=>X8 b true a w fun m w=>Q1 b true w (Q0 P F.df [m,(.string ⟨#[10]⟩)]) fun n w=>Q1 b true w (W2 P .not n) fun o w=>pick P b o (.bool false) w fun p w=>K p w) (J9 .eql T.b 8 f #[110,101,119] w fun q w=>X0 q (Q0 P F.al [a] w fun r w=>K r w) (jn (α:=Value) w (fun J w=>J9 .eql T.b 8 f #[105,115] w fun g w=>X0 g (J g w) (J9 .eql T.b 8 f #[99,97,115,116] w fun s w=>J s w)) fun N O w=>X0 N (Q0 P F.a2 [a] w fun c w=>X8 c true a w fun t w=>Q1 c true w (Q0 P F.aW [t]) fun u w=>Q1 c true w (W2 P .not u) fun v w=>pick P c v (.bool false) w fun y w=>K y w) (J9 .eql T.b 8 f #[97,114,114,97,121] w fun z w=>X0 z (Q0 P F.a2 [a] w fun d w=>X8 d true a w fun A w=>Q1 d true w (Q0 P F.d2 [A]) fun B w=>Q1 d true w (X2 .lss T.e 43 B 3) fun C w=>pick P d C (.bool false) w fun D w=>K D w) (Q0 P F.dj [a] w fun h w=>D0 h w fun L M w=>ext P h 2 w fun E w=>X2 .eql T.w 52 E 0 w fun H w=>K H w))))
theorem X2q (h:Q5Z a0 a1 w K):Q0 P F.dq [a0,a1] w K:=zr X2j Tryz.func235 h
def X0P:W5:=Y0 5++[some ([16],[16,17,18,19,20,21,22,23,24,25,26,27,28,29,30,31,32,33,34,35,36,37,38,39]),none,none,none,none]
def Q3X:D6:=fun u w K=>box P T.y u w fun a w=>X6 T.y T.b a 0 w fun v w=>Q0 P F.cL [v] w fun t w=>D0 t w fun h b w=>ext P t 2 w fun i w=>W2 P .not i w fun j w=>X0 j (K (.int .i64 40) w) (jn (α:=Value) w (fun g w=>W2 P .not h w fun c w=>J1 c true w T.y T.a1 a 1 fun k w=>Q1 c true w (X2 .neq T.a1 21 k 0) fun l w=>pick P c l (.bool false) w fun e w=>X0 e (g e w) (W2 P .not b w fun d w=>J1 d true w T.y T.b a 2 fun m w=>Q1 d true w (J9 .neq T.b 28 m #[]) fun n w=>pick P d n (.bool false) w fun f w=>X0 f (g f w) (J1 b true w T.y T.b a 0 fun o w=>J1 b true w T.y T.b a 2 fun p w=>Q1 b true w (Q0 P F.dq [o,p]) fun q w=>Q1 b true w (W2 P .not q) fun r w=>pick P b r (.bool false) w fun s w=>g s w))) fun y z w=>X0 y (K (.int .i64 41) w) (K (.int .i64 0) w))
theorem X18 (h:Q3X a0 w K):Q0 P F.dh [a0] w K:=zr X0P Tryz.func214 h
def Kx:D6:=fun b w K=>box P T.y b w fun a w=>Q7 P T.y a w fun c w=>Q0 P F.dh [c] w fun d w=>X2 .eql T.w 4 d 0 w fun e w=>K e w
theorem Q6z (h:Kx a0 w K):Q0 P F.bD [a0] w K:=zr (Y0 2) Tryz.func213 h
def Va:W5:=[none,none,none,some ([8],[4,5,8,9,10,11,12,13,14,15,16,17,18])]++Y0 7
def Qn:V9:=fun e f w K=>X4 T.u e w fun g w=>lp (α:=Value) (.int .i64 0) w fun a b i w=>X1 .lss T.e 8 7 b g w fun h w=>X0 h (J3 T.u T.v e b w fun c w=>J6 P f [c] w fun d w=>X0 d (K b w) (V1 8 b w a)) (K (.int .i64 (-1)) w)
theorem Vh (h:Qn a0 a1 w K):Q0 P F.a6 [a0,a1] w K:=zr Va Tryz.func249 h
def T3:V9:=fun a b w K=>Q0 P F.a6 [a,b] w fun c w=>X2 .geq T.e 7 c 0 w fun d w=>K d w
theorem Jo (h:T3 a0 a1 w K):Q0 P F.n [a0,a1] w K:=zr (Y0 2) Tryz.func236 h
def Wq:V9:=fun b c w K=>box P T.v b w fun a w=>Q7 P T.ap c w fun d w=>Q7 P T.v a w fun e w=>J6 P d [e] w fun f w=>W2 P .not f w fun g w=>K g w
theorem Ip (h:Wq a0 a1 w K):Q0 P F.cs [a0,a1] w K:=zr (Y0 2) Tryz.func237 h
def Nl:V9:=fun b c w K=>box P T.ap c w fun a w=>S1 P (.func F.cs) [] [a] w fun d w=>Q0 P F.n [b,d] w fun e w=>W2 P .not e w fun f w=>K f w
theorem Te (h:Nl a0 a1 w K):Q0 P F.ax [a0,a1] w K:=zr (Y0 2) Tryz.func215 h
def Q0k:D6:=fun a0 w K=>box P T.d a0 w fun a w=>X6 T.d T.b a 0 w fun t6 w=>Q0 P F.cg [t6] w fun t7 w=>W2 P .not t7 w fun i w=>J1 i false w T.d T.h a 1 fun j w=>Q1 i false w (Q0 P F.ab [j,(.func (.func F.a2) #[] #[])]) fun k w=>Q1 i false w (W2 P .not k) fun l w=>pick P i (.bool true) l w fun b w=>J1 b false w T.d T.b a 2 fun m w=>Q1 b false w (J9 .neq T.b 17 m #[]) fun n w=>X8 b false n w fun d w=>J1 d true w T.d T.b a 2 fun o w=>Q1 d true w (Q0 P F.a2 [o]) fun p w=>Q1 d true w (W2 P .not p) fun q w=>Q1 b false w (pick P d q (.bool false)) fun r w=>pick P b (.bool true) r w fun s w=>X0 s (K (.bool false) w) (X6 T.d T.s a 3 w fun t w=>X0 t (X6 T.d T.e a 4 w fun u w=>X2 .eql T.e 29 u 0 w fun e w=>J1 e true w T.d T.q a 5 fun v w=>Q1 e true w (X4 T.q v) fun y w=>Q1 e true w (X2 .eql T.e 34 y 0) fun z w=>pick P e z (.bool false) w fun f w=>J1 f true w T.d T.u a 6 fun A w=>Q1 f true w (X4 T.u A) fun B w=>Q1 f true w (X2 .eql T.e 40 B 0) fun C w=>pick P f C (.bool false) w fun D w=>K D w) (X6 T.d T.q a 5 w fun E w=>X4 T.q E w fun H w=>L9 T.e H w fun Z w=>S1 P (.func F.bC) [] [Z] w fun J w=>Q7 P T.e Z w fun L w=>X2 .gtr T.e 47 L 0 w fun c w=>J1 c true w T.d T.e a 4 fun M w=>J1 c true w T.d T.h a 1 fun N w=>Q1 c true w (X4 T.h N) fun O w=>Q1 c true w (X1 .gtr T.e 51 54 M O) fun Q w=>pick P c Q (.bool false) w fun h w=>J1 h true w T.d T.q a 5 fun R w=>Q1 h true w (Q0 P F.az [R,(.func (.func F.bD) #[] #[])]) fun U w=>pick P h U (.bool false) w fun g w=>J1 g true w T.d T.u a 6 fun V w=>X8 g true J w fun W w=>Q1 g true w (Q0 P F.ax [V,W]) fun X w=>pick P g X (.bool false) w fun Y w=>K Y w))
theorem Q8q (h:Q0k a0 w K):Q0 P F.bm [a0] w K:=zr (Y0 10) Tryz.func175 h
def Q2C:D6:=fun a0 w K=>box P T.c a0 w fun b w=>X6 T.c T.b b 0 w fun t8 w=>X6 T.c T.b b 1 w fun t w=>buildSlice P T.h 2 [(0,t8),(1,t)] w fun u w=>X6 T.c T.h b 2 w fun v w=>U4 P .append [T.h,T.h] T.h [false,false] [u,v] w fun k w=>dr w fun s r=>Y5 s r (I7 P T.h k (some (.int .i64 1)) none none) fun av=>Y5 s r (fieldAddr P T.c b 0) fun q=>X5 s r q (fun g=>Q7 P T.b g) fun aw=> ∀l g m w,r w->av l w->q g w->aw m w->Q0 P F.ai [l,m] w fun y w=>X6 T.c T.k b 7 w fun z w=>Q0 P F.a [z,(.func (.func F.cR) #[] #[])] w fun A w=>X6 T.c T.k b 7 w fun B w=>Q0 P F.a [B,(.func (.func F.cS) #[] #[])] w fun C w=>Q0 P F.ab [k,(.func (.func F.al) #[] #[])] w fun D w=>W2 P .not D w fun n w=>X8 n false y w fun E w=>pick P n (.bool true) E w fun c w=>J1 c false w T.c T.h b 2 fun H w=>Q1 c false w (Q0 P F.b1 [H,(.func (.func F.cT) #[] #[])]) fun J w=>Q1 c false w (W2 P .not J) fun L w=>pick P c (.bool true) L w fun M w=>X0 M (K (.bool false) w) (X6 T.c T.s b 3 w fun a w=>J1 a true w T.c T.s b 4 fun N w=>Q1 a true w (W2 P .not N) fun O w=>X8 a true O w fun h w=>J1 h false w T.c T.b b 1 fun Q w=>Q1 h false w (J9 .neq T.b 48 Q #[79,98,106,101,99,116]) fun R w=>Q1 a true w (pick P h (.bool true) R) fun U w=>X8 a true U w fun d w=>J1 d false w T.c T.j b 6 fun V w=>Q1 d false w (X4 T.j V) fun W w=>Q1 d false w (X2 .gtr T.e 54 W 0) fun X w=>Q1 a true w (pick P d (.bool true) X) fun Y w=>X8 a true Y w fun o w=>X8 o false C w fun Z w=>Q1 a true w (pick P o (.bool true) Z) fun aa w=>pick P a aa (.bool false) w fun ab w=>X0 ab (K (.bool false) w) (X6 T.c T.s b 4 w fun p w=>J1 p true w T.c T.s b 5 fun ac w=>pick P p ac (.bool false) w fun e w=>X8 e false A w fun ad w=>X8 e false ad w fun i w=>J1 i true w T.c T.s b 4 fun ae w=>Q1 i true w (W2 P .not ae) fun af w=>Q1 e false w (pick P i af (.bool false)) fun ag w=>pick P e (.bool true) ag w fun ah w=>X0 ah (K (.bool false) w) (X6 T.c T.j b 6 w fun ai w=>Q0 P F.aF [ai,(.func (.func F.cU) #[] #[])] w fun aj w=>W2 P .not aj w fun f w=>J1 f false w T.c T.k b 7 fun ak w=>Q1 f false w (Q0 P F.aA [ak,(.func (.func F.cV) #[] #[])]) fun al w=>Q1 f false w (W2 P .not al) fun am w=>pick P f (.bool true) am w fun an w=>X0 an (K (.bool false) w) (X6 T.c T.j b 6 w fun ao w=>Q0 P F.ay [ao,(.func (.func F.bY) #[] #[])] w fun j w=>J1 j true w T.c T.k b 7 fun ap w=>Q1 j true w (Q0 P F.aq [ap,(.func (.func F.bm) #[] #[])]) fun aq w=>pick P j aq (.bool false) w fun ar w=>K ar w))))
theorem Q9B (h:Q2C a0 w K):Q0 P F.d7 [a0] w K:=zr (Y0 15) Tryz.func105 h
def Q2B:D6:=fun b w K=>box P T.c b w fun a w=>Q7 P T.c a w fun c w=>Q0 P F.dg [c] w fun d w=>X0 d (K (.int .i64 51) w) (Q7 P T.c a w fun e w=>Q0 P F.d7 [e] w fun f w=>W2 P .not f w fun g w=>X0 g (K (.int .i64 50) w) (K (.int .i64 0) w))
theorem Q9A (h:Q2B a0 w K):Q0 P F.d6 [a0] w K:=zr (Y0 7) Tryz.func54 h
def Zt:D6:=fun a w K=>Z2 P .eql T.h (.tmp 3) (.const (.slice none 0 0)) a (.slice none 0 0) w fun b w=>X0 b (K (.slice none 0 0) w) (buildSlice P T.h 0 [] w fun c w=>U4 P .append [T.h,T.h] T.h [false,false] [c,a] w fun d w=>K d w)
theorem Ry (h:Zt a0 w K):Q0 P F.aa [a0] w K:=zr (Y0 5) Tryz.func106 h
def Xx:D6:=fun a w K=>Z2 P .eql T.j (.tmp 3) (.const (.slice none 0 0)) a (.slice none 0 0) w fun b w=>X0 b (K (.slice none 0 0) w) (buildSlice P T.j 0 [] w fun c w=>U4 P .append [T.j,T.j] T.j [false,false] [c,a] w fun d w=>K d w)
theorem Mk (h:Xx a0 w K):Q0 P F.ag [a0] w K:=zr (Y0 5) Tryz.func107 h
def Xy:D6:=fun a w K=>Z2 P .eql T.q (.tmp 3) (.const (.slice none 0 0)) a (.slice none 0 0) w fun b w=>X0 b (K (.slice none 0 0) w) (buildSlice P T.q 0 [] w fun c w=>U4 P .append [T.q,T.q] T.q [false,false] [c,a] w fun d w=>K d w)
theorem Ml (h:Xy a0 w K):Q0 P F.ah [a0] w K:=zr (Y0 5) Tryz.func176 h
def Xw:D6:=fun a w K=>Z2 P .eql T.u (.tmp 3) (.const (.slice none 0 0)) a (.slice none 0 0) w fun b w=>X0 b (K (.slice none 0 0) w) (buildSlice P T.u 0 [] w fun c w=>U4 P .append [T.u,T.u] T.u [false,false] [c,a] w fun d w=>K d w)
theorem Mj (h:Xw a0 w K):Q0 P F.af [a0] w K:=zr (Y0 5) Tryz.func177 h
def Q2G:D6:=fun B w K=>box P T.d B w fun a w=>Qa P T.d w fun r w=>dr w fun c b=>Y5 c b (fieldAddr P T.d a 1) fun u=>Y5 c b (fieldAddr P T.d a 5) fun y=>Y5 c b (fieldAddr P T.d a 6) fun A=>X5 c b u (fun k=>Q7 P T.h k) fun v=>X5 c b v (fun l=>Q0 P F.aa [l]) fun D=>X5 c b y (fun m=>Q7 P T.q m) fun z=>X5 c b z (fun n=>Q0 P F.ah [n]) fun E=>X5 c b A (fun o=>Q7 P T.u o) fun g=>Y5 c b (fieldAddr P T.d a 1) fun q=>X5 c b g (fun d=>Q0 P F.af [d]) fun p=> ∀k m o l s n t d f e w,b w->u k w->y m w->A o w->v l w->D s w->z n w->E t w->g d w->q f w->p e w->U8 P T.h f s w fun _u w=>fieldAddr P T.d a 5 w fun h w=>U8 P T.q h t w fun _u w=>fieldAddr P T.d a 6 w fun i w=>U8 P T.u i e w fun _u w=>Q7 P T.d a w fun j w=>U8 P T.d r j w fun _u w=>J4 P T.d r w fun C=>K C w
theorem Q9F (h:Q2G a0 w K):Q0 P F.cB [a0] w K:=zr (Y0 3) Tryz.func108 h
def Q9y:W5:=Y0 5++[some ([3,17],[3,5,17,18,19,20,21,22,23,24,25,26])]++Y0 6
def Q2F:D6:=fun M w K=>box P T.c M w fun a w=>Qa P T.c w fun D w=>dr w fun d c=>Y5 d c (fieldAddr P T.c a 2) fun H=>Y5 d c (fieldAddr P T.c a 6) fun L=>X5 d c H (fun y=>Q7 P T.h y) fun J=>X5 d c J (fun z=>Q0 P F.aa [z]) fun O=>X5 d c L (fun A=>Q7 P T.j A) fun k=>Y5 d c (fieldAddr P T.c a 2) fun C=>X5 d c k (fun e=>Q0 P F.ag [e]) fun B=> ∀y A z E e h g w,c w->H y w->L A w->J z w->O E w->k e w->C h w->B g w->U8 P T.h h E w fun _u w=>fieldAddr P T.c a 6 w fun l w=>U8 P T.j l g w fun _u w=>X6 T.c T.k a 7 w fun i w=>X4 T.k i w fun m w=>lp (α:=Value×Value) ((.slice none 0 0),(.int .i64 0)) w fun b j Q w=>X1 .lss T.e 17 16 j.2 m w fun n w=>X0 n (J3 T.k T.d i j.2 w fun o w=>L9 T.d o w fun f w=>Q7 P T.d f w fun p w=>Q0 P F.cB [p] w fun q w=>buildSlice P T.k 1 [(0,q)] w fun r w=>U4 P .append [T.k,T.k] T.k [false,false] [j.1,r] w fun s w=>X2 .add T.e 17 j.2 1 w fun t w=>b (s,t) w) (fieldAddr P T.c a 7 w fun u w=>U8 P T.k u j.1 w fun _u w=>Q7 P T.c a w fun v w=>U8 P T.c D v w fun _u w=>J4 P T.c D w fun N=>K N w)
theorem Q9E (h:Q2F a0 w K):Q0 P F.d9 [a0] w K:=zr Q9y Tryz.func55 h
def Lo:V9:=fun d e w K=>nilCheck P d w fun g w=>X6 T.a4 T.a6 g 1 w fun a w=>lookup P T.a6 a e true w fun b w=>D0 b w fun f c w=>K c w
theorem Fx (h:Lo a0 a1 w K):Q0 P F.j [a0,a1] w K:=zr (Y0 3) Tryz.func56 h
def Ha:V9:=fun n s w K=>Qa P T.c w fun o w=>dr w fun b a=>Y5 b a (nilCheck P n) fun q=>X5 b a q (fun k=>fieldAddr P T.a4 k 0) fun r=>Y5 b a (nilCheck P n) fun g=>X5 b a g (fun c=>fieldAddr P T.a4 c 1) fun h=>X5 b a r (fun l=>Q7 P T.i l) fun u=>X5 b a h (fun d=>Q7 P T.a6 d) fun i=>X5 b a i (fun e=>lookup P T.a6 e s false) fun m=> ∀k l c d p e f w,a w->q k w->r l w->g c w->h d w->u p w->i e w->m f w->J3 T.i T.c p f w fun j w=>U8 P T.c o j w fun _u w=>J4 P T.c o w fun t=>K t w
theorem Q1R (h:Ha a0 a1 w K):Q0 P F.e [a0,a1] w K:=zr (Y0 2) Tryz.func109 h
def Q0r:W5:=Y0 6++[some ([29],[4,6,29,30,31,32,33,34,35,36,37,38,39,40,41,42,43,44])]++Y0 7
def Ds:V9:=fun f E w K=>box P T.c E w fun a w=>X6 T.c T.b a 1 w fun H w=>Q0 P F.j [f,H] w fun i w=>W2 P .not i w fun c w=>X8 c false f w fun j w=>J1 c false w T.c T.b a 1 fun k w=>Q1 c false w (Q0 P F.e [j,k]) fun l w=>Q1 c false w (Xv P T.c l 3) fun m w=>pick P c (.bool true) m w fun d w=>X8 d false f w fun n w=>J1 d false w T.c T.b a 1 fun o w=>Q1 d false w (Q0 P F.e [n,o]) fun p w=>Q1 d false w (Xv P T.c p 5) fun q w=>pick P d (.bool true) q w fun r w=>X0 r (K (.int .i64 61) w) (X6 T.c T.h a 2 w fun g w=>X4 T.h g w fun s w=>lp (α:=Value) (.int .i64 0) w fun e D J w=>X1 .lss T.e 29 28 D s w fun t w=>X0 t (J3 T.h T.b g D w fun h w=>Q0 P F.j [f,h] w fun u w=>W2 P .not u w fun b w=>X8 b false f w fun v w=>X8 b false h w fun y w=>Q1 b false w (Q0 P F.e [v,y]) fun z w=>Q1 b false w (Xv P T.c z 3) fun A w=>Q1 b false w (W2 P .not A) fun B w=>pick P b (.bool true) B w fun C w=>X0 C (K (.int .i64 62) w) (V1 29 D w e)) (K (.int .i64 0) w))
theorem Q0z (h:Ds a0 a1 w K):Q0 P F.bu [a0,a1] w K:=zr Q0r Tryz.func57 h
def Vb:W5:=[none,none,none,some ([8],[4,5,8,9,10,11,12,13,14,15,16,17,18])]++Y0 7
def Qo:V9:=fun e f w K=>X4 T.i e w fun g w=>lp (α:=Value) (.int .i64 0) w fun a b i w=>X1 .lss T.e 8 7 b g w fun h w=>X0 h (J3 T.i T.c e b w fun c w=>J6 P f [c] w fun d w=>X0 d (K b w) (V1 8 b w a)) (K (.int .i64 (-1)) w)
theorem Vi (h:Qo a0 a1 w K):Q0 P F.q [a0,a1] w K:=zr Vb Tryz.func58 h
def Q1i:W5:=[none,none,none,some ([7],[6,7,9,10,11,12,16,17,18,19,20,21,22,23,24,25,26,27,28,29,30,31,32,33,34,35,36,37,38,39,40,41,42,43,44,45,46,47,48,49,50,51,52])]++Y0 13
def Ez:Yn:=fun O Q R w K=>buildSlice P T.h 1 [(0,Q)] w fun s w=>Rr P T.a6 none w fun k w=>lp (α:=Value) s w fun b L V w=>X4 T.h L w fun t w=>X2 .gtr T.e 17 t 0 w fun u w=>X0 u (J3 T.h T.b L (.int .i64 0) w fun d w=>I7 P T.h L (some (.int .i64 1)) none none w fun l w=>lookup P T.a6 k d true w fun v w=>D0 v w fun U c w=>X8 c false O w fun y w=>X8 c false d w fun z w=>Q1 c false w (Q0 P F.j [y,z]) fun A w=>Q1 c false w (W2 P .not A) fun B w=>pick P c (.bool true) B w fun C w=>X0 C (b l w) (mapUpdate P T.a6 k d (.int .i64 1) w fun _u w=>Q0 P F.e [O,d] w fun D w=>L9 T.c D w fun a w=>Q7 P T.c a w fun E w=>J6 P R [E] w fun H w=>X0 H (K (.bool true) w) (dr w fun j e=>Y5 j e (fieldAddr P T.c a 1) fun o=>Y5 j e (fieldAddr P T.c a 2) fun r=>X5 j e o (fun f=>Q7 P T.b f) fun p=>X5 j e p (fun g=>buildSlice P T.h 1 [(0,g)]) fun q=>X5 j e q (fun h=>U4 P .append [T.h,T.h] T.h [false,false] [l,h]) fun M=>X5 j e r (fun i=>Q7 P T.h i) fun N=> ∀f i g h m n w,e w->o f w->r i w->p g w->q h w->M m w->N n w->U4 P .append [T.h,T.h] T.h [false,false] [m,n] w fun J w=>b J w))) (K (.bool false) w)
theorem Q1Q (h:Ez a0 a1 a2 w K):Q0 P F.z [a0,a1,a2] w K:=zr Q1i Tryz.func111 h
def Lp:V9:=fun b c w K=>box P T.c b w fun a w=>X6 T.c T.b a 0 w fun d w=>X6 T.c T.b c 0 w fun e w=>X1 .eql T.b 5 7 d e w fun f w=>K f w
theorem Pj (h:Lp a0 a1 w K):Q0 P F.cz [a0,a1] w K:=zr (Y0 2) Tryz.func112 h
def Oi:Yn:=fun a b c w K=>Q7 P T.z b w fun d w=>S1 P (.func F.cz) [] [c] w fun e w=>Q0 P F.z [d,a,e] w fun f w=>K f w
theorem Az (h:Oi a0 a1 a2 w K):Q0 P F.bk [a0,a1,a2] w K:=zr (Y0 2) Tryz.func110 h
def Hb:V9:=fun i j w K=>box P T.z i w fun c w=>box P T.c j w fun a w=>S1 P (.func F.bk) [] [c,a] w fun h w=>X6 T.c T.b a 1 w fun k w=>J6 P h [k] w fun b w=>J1 b false w T.c T.h a 2 fun d w=>X8 b false h w fun e w=>Q1 b false w (Q0 P F.c [d,e]) fun f w=>pick P b (.bool true) f w fun g w=>K g w
theorem Q1S (h:Hb a0 a1 w K):Q0 P F.bG [a0,a1] w K:=zr (Y0 3) Tryz.func59 h
def Pc:W5:=[none,none,none,some ([8],[4,5,8,9,10,11,12,13,14,15,16,17,18])]++Y0 7
def Lv:V9:=fun e f w K=>X4 T.o e w fun g w=>lp (α:=Value) (.int .i64 0) w fun a b i w=>X1 .lss T.e 8 7 b g w fun h w=>X0 h (J3 T.o T.e e b w fun c w=>X1 .eql T.e 11 15 f c w fun d w=>X0 d (K b w) (V1 8 b w a)) (K (.int .i64 (-1)) w)
theorem Pp (h:Lv a0 a1 w K):Q0 P F.cE [a0,a1] w K:=zr Pc Tryz.func179 h
def Ur:V9:=fun a b w K=>Q0 P F.cE [a,b] w fun c w=>X2 .geq T.e 7 c 0 w fun d w=>K d w
theorem Fy (h:Ur a0 a1 w K):Q0 P F.aJ [a0,a1] w K:=zr (Y0 2) Tryz.func115 h
def Ar:W5:=[none,none,none,none,some ([35],[7,35,36,37,38,39,40,41,42,43,44,45,46,47]),none,none,none,none]
def Je:zV5:=fun v a1 a2 a3 a4 w K=>Q7 P T.e a1 w fun t9 w=>X1 .lss T.e 8 9 v t9 w fun d w=>Q1 d false w (Q7 P T.o a2) fun ad w=>X8 d false v w fun ae w=>Q1 d false w (Q0 P F.aJ [ad,ae]) fun af w=>pick P d (.bool true) af w fun ag w=>X0 ag (K (.tuple #[]) w) (dr w fun b a=>Y5 b a (Q7 P T.z a3) fun D=>X5 b a D (fun e=>nilCheck P e) fun E=>X5 b a E (fun f=>fieldAddr P T.a4 f 0) fun H=>X5 b a H (fun g=>Q7 P T.i g) fun J=>X5 b a J (fun h=>indexAddr P T.i h v) fun L=>X5 b a L (fun i=>fieldAddr P T.c i 1) fun M=>X5 b a M (fun j=>Q7 P T.b j) fun N=>X5 b a N (fun k=>buildSlice P T.h 1 [(0,k)]) fun ao=>Y5 b a (Q7 P T.z a3) fun O=>X5 b a O (fun l=>nilCheck P l) fun Q=>X5 b a Q (fun m=>fieldAddr P T.a4 m 0) fun R=>X5 b a R (fun n=>Q7 P T.i n) fun U=>X5 b a U (fun o=>indexAddr P T.i o v) fun V=>X5 b a V (fun p=>fieldAddr P T.c p 2) fun W=>X5 b a W (fun q=>Q7 P T.h q) fun ap=> ∀e f g h i j k y l m n o p q z w,a w->D e w->E f w->H g w->J h w->L i w->M j w->N k w->ao y w->O l w->Q m w->R n w->U o w->V p w->W q w->ap z w->U4 P .append [T.h,T.h] T.h [false,false] [y,z] w fun A w=>X4 T.h A w fun ah w=>lp (α:=Value) (.int .i64 0) w fun c x4 d_ w=>X1 .lss T.e 35 34 x4 ah w fun ai w=>X0 ai (J3 T.h T.b A x4 w fun aj w=>dr w fun b a=>Y5 b a (Q7 P T.aw a4) fun aq=>Y5 b a (Q7 P T.z a3) fun X=>X5 b a X (fun r=>nilCheck P r) fun Y=>X5 b a Y (fun s=>fieldAddr P T.a4 s 1) fun Z=>X5 b a Z (fun t=>Q7 P T.a6 t) fun aa=>X5 b a aa (fun u=>lookup P T.a6 u aj false) fun ar=> ∀B r s t u C w,a w->aq B w->X r w->Y s w->Z t w->aa u w->ar C w->J6 P B [C] w fun ax w=>V1 35 x4 w c) (Q7 P T.o a2 w fun ak w=>buildSlice P T.o 1 [(0,v)] w fun al w=>U4 P .append [T.o,T.o] T.o [false,false] [ak,al] w fun am w=>U8 P T.o a2 am w fun _u w=>K (.tuple #[]) w))
theorem Ou (h:Je a0 a1 a2 a3 a4 w K):Q0 P F.a1 [a0,a1,a2,a3,a4] w K:=zr Ar Tryz.func114 h
def Q1j:W5:=Y0 6++[some ([7],[7,10,11,12,13,14,15,16,17,18,19,20,21]),none,none,none,none]
def Hc:V9:=fun n o w K=>box P T.z n w fun d w=>box P T.e o w fun b w=>Qa P T.o w fun c w=>Qa P T.aw w fun a w=>S1 P (.func F.a1) [] [b,c,d,a] w fun q w=>U8 P T.aw a q w fun _u w=>Q7 P T.e b w fun r w=>lp (α:=Value) r w fun e m s w=>Q7 P T.z d w fun f w=>nilCheck P f w fun g w=>X6 T.a4 T.i g 0 w fun h w=>X4 T.i h w fun i w=>X1 .lss T.e 10 15 m i w fun j w=>X0 j (Q7 P T.aw a w fun k w=>J6 P k [m] w fun p w=>V1 17 m w e) (Q7 P T.o c w fun l w=>K l w)
theorem Q1T (h:Hc a0 a1 w K):Q0 P F.bH [a0,a1] w K:=zr Q1j Tryz.func60 h
def Wj:W5:=[none,some ([2,3],[2,3,7,8,9,10,11,12,13,14,15,16,17,18,19,20,21,22,23,24,25,26,27]),none,none,none]
def Xi:D6:=fun f w K=>X4 T.i f w fun r w=>X2 .sub T.e 5 r 1 w fun s w=>lp (α:=Value×Value) ((.int .i64 0),s) w fun a b u w=>X1 .lss T.e 7 8 b.1 b.2 w fun t w=>X0 t (dr w fun k e=>Y5 k e (indexAddr P T.i f b.2) fun i=>Y5 k e (indexAddr P T.i f b.1) fun j=>X5 k e i (fun c=>Q7 P T.c c) fun p=>X5 k e j (fun d=>Q7 P T.c d) fun q=> ∀c d g h w,e w->i c w->j d w->p g w->q h w->indexAddr P T.i f b.1 w fun n w=>U8 P T.c n g w fun _u w=>indexAddr P T.i f b.2 w fun o w=>U8 P T.c o h w fun _u w=>X2 .add T.e 10 b.1 1 w fun l w=>X2 .sub T.e 12 b.2 1 w fun m w=>a (l,m) w) (K (.tuple #[]) w)
theorem Wk (h:Xi a0 w K):Q0 P F.r [a0] w K:=zr Wj Tryz.func186 h
def Q2Q:W5:=[none,none,none,none,some ([5,6],[5,6,8,9,10,11,12,13,14,15,16,17,18,19,20])]++Y0 5
def So:V9:=fun c j w K=>lp (α:=Value×Value) ((.slice none 0 0),j) w fun a b l w=>Q0 P F.j [c,b.2] w fun d w=>X0 d (Q0 P F.e [c,b.2] w fun g w=>buildSlice P T.i 1 [(0,g)] w fun h w=>U4 P .append [T.i,T.i] T.i [false,false] [b.1,h] w fun i w=>Q0 P F.e [c,b.2] w fun e w=>Xv P T.c e 1 w fun f w=>a (i,f) w) (Q0 P F.r [b.1] w fun k w=>K b.1 w)
theorem Q3b (h:So a0 a1 w K):Q0 P F.b0 [a0,a1] w K:=zr Q2Q Tryz.func131 h
def Q0p:W5:=[none,none,none,none,some ([5,12],[5,7,12,13,14,15,16,17,18,19,20])]++Y0 5
def Dq:V9:=fun k l w K=>Q0 P F.b0 [k,l] w fun c w=>X4 T.i c w fun e w=>lp (α:=Value×Value) ((.slice none 0 0),(.int .i64 0)) w fun a d m w=>X1 .lss T.e 12 11 d.2 e w fun f w=>X0 f (J3 T.i T.c c d.2 w fun g w=>L9 T.c g w fun b w=>X6 T.c T.j b 6 w fun h w=>U4 P .append [T.j,T.j] T.j [false,false] [d.1,h] w fun i w=>X2 .add T.e 12 d.2 1 w fun j w=>a (i,j) w) (K d.1 w)
theorem Q0x (h:Dq a0 a1 w K):Q0 P F.a5 [a0,a1] w K:=zr Q0p Tryz.func70 h
def Oh:V9:=fun b c w K=>box P T.m b w fun a w=>X6 T.m T.b a 0 w fun d w=>Q7 P T.b c w fun e w=>X1 .eql T.b 5 6 d e w fun f w=>K f w
theorem Ay (h:Oh a0 a1 w K):Q0 P F.cI [a0,a1] w K:=zr (Y0 2) Tryz.func181 h
def Ex:Yn:=fun d e f w K=>box P T.b f w fun a w=>Q0 P F.a5 [d,e] w fun g w=>S1 P (.func F.cI) [] [a] w fun b w=>Q0 P F.k [g,b] w fun c w=>K c w
theorem Q1O (h:Ex a0 a1 a2 w K):Q0 P F.bE [a0,a1,a2] w K:=zr (Y0 2) Tryz.func116 h
def Jl:V9:=fun a b w K=>nilCheck P a w fun c w=>J3 T.an T.s c b w fun d w=>K d w
theorem Sf (h:Jl a0 a1 w K):Q0 P F.aD [a0,a1] w K:=zr (Y0 2) Tryz.func238 h
def Pd:W5:=[none,some ([0],[0,5,6,7,8,9,10,11,12,13,14,15,16,17,18,19,20]),some ([0],[0,5,6,7,8,9,10,11,12,13,14,15,16,17,18,19,20])]++Y0 5
def Lx:V9:=fun l m w K=>jn (α:=Value) w (fun k w=>lp (α:=Value) l w fun a b n w=>X4 T.b b w fun o w=>X2 .gtr T.e 6 o 0 w fun p w=>X0 p (X4 T.b b w fun c w=>X2 .sub T.e 11 c 1 w fun d w=>P7 P T.b b d w fun e w=>Q0 P F.aD [m,e] w fun f w=>W2 P .not f w fun g w=>X0 g (k b w) (X4 T.b b w fun h w=>X2 .sub T.e 18 h 1 w fun i w=>I7 P T.b b none (some i) none w fun j w=>a j w)) (k b w)) fun q n w=>K q w
theorem Pr (h:Lx a0 a1 w K):Q0 P F.ar [a0,a1] w K:=zr Pd Tryz.func218 h
def Cm:V9:=fun d c w K=>J9 .eql T.b 7 d #[] w fun t w=>X8 t false c w fun e w=>Q1 t false w (J9 .eql T.b 10 e #[]) fun f w=>pick P t (.bool true) f w fun g w=>X0 g (K d w) (X4 T.b c w fun h w=>X2 .eql T.e 15 h 1 w fun a w=>X8 a true c w fun i w=>Q1 a true w (P7 P T.b i (.int .i64 0)) fun j w=>Q1 a true w (Z2 P .lss T.a2 (.tmp 19) (.const (.int .u8 128)) j (.int .u8 128)) fun k w=>pick P a k (.bool false) w fun l w=>X0 l (P7 P T.b c (.int .i64 0) w fun m w=>Q0 P F.dA [d,m] w fun n w=>K n w) (Q0 P F.cQ [c] w fun o w=>D0 o w fun p q w=>L9 T.an p w fun b w=>X0 q (Q0 P F.ar [d,b] w fun r w=>K r w) (Q0 P F.dx [d,c] w fun s w=>K s w)))
theorem Q3z (h:Cm a0 a1 w K):Q0 P F.c9 [a0,a1] w K:=zr (Y0 12) Tryz.func182 h
def Sm:V9:=fun l c w K=>J9 .eql T.b 6 c #[110,117,108,108] w fun m w=>X0 m (K (.bool true) w) (Q0 P F.c9 [c,(.string ⟨#[91,93]⟩)] w fun k w=>Q0 P F.a2 [c] w fun a w=>X8 a true k w fun d w=>Q1 a true w (Q0 P F.aW [d]) fun e w=>X8 a true e w fun b w=>X8 b false l w fun f w=>X8 b false k w fun g w=>Q1 b false w (Q0 P F.j [f,g]) fun h w=>Q1 a true w (pick P b (.bool true) h) fun i w=>pick P a i (.bool false) w fun j w=>K j w)
theorem Q39 (h:Sm a0 a1 w K):Q0 P F.ae [a0,a1] w K:=zr (Y0 6) Tryz.func118 h
def Lq:V9:=fun c d w K=>J9 .neq T.b 4 c #[110,117,108,108] w fun a w=>Q1 a true w (Q7 P T.z d) fun e w=>X8 a true c w fun f w=>Q1 a true w (Q0 P F.ae [e,f]) fun g w=>pick P a g (.bool false) w fun b w=>K b w
theorem Pk (h:Lq a0 a1 w K):Q0 P F.ao [a0,a1] w K:=zr (Y0 2) Tryz.func117 h
def Lr:V9:=fun a b w K=>Q7 P T.ae b w fun c w=>J6 P c [a] w fun d w=>W2 P .not d w fun e w=>K e w
theorem Pl (h:Lr a0 a1 w K):Q0 P F.ap [a0,a1] w K:=zr (Y0 2) Tryz.func119 h
def Q3V:D6:=fun q w K=>box P T.d q w fun a w=>dr w fun c b=>Y5 c b (fieldAddr P T.d a 1) fun l=>Y5 c b (fieldAddr P T.d a 2) fun p=>X5 c b l (fun e=>Q7 P T.h e) fun m=>X5 c b m (fun f=>Q0 P F.dw [f,(.string ⟨#[44]⟩)]) fun n=>X5 c b n (fun g=>Z2 P .add T.b (.const (.string ⟨#[40]⟩)) (.tmp 5) (.string ⟨#[40]⟩) g) fun o=>X5 c b o (fun h=>J9 .add T.b 6 h #[41]) fun r=>X5 c b p (fun i=>Q7 P T.b i) fun s=> ∀e i f g h j k w,b w->l e w->p i w->m f w->n g w->o h w->r j w->s k w->X1 .add T.b 7 9 j k w fun d w=>K d w
theorem X16 (h:Q3V a0 w K):Q0 P F.cJ [a0] w K:=zr (Y0 2) Tryz.func123 h
def Vr:zV4:=fun W V X Y w K=>box P T.d W w fun a w=>Q7 P T.a0 V w fun Z w=>X6 T.d T.b a 0 w fun C w=>lookup P T.a0 Z C true w fun D w=>D0 D w fun E d w=>dr w fun c b=>Y5 c b (fieldAddr P T.d a 0) fun r=>Y5 c b (fieldAddr P T.d a 0) fun t=>Y5 c b (fieldAddr P T.c X 0) fun y=>Y5 c b (Q7 P T.a0 V) fun n=>X5 c b r (fun f=>Q7 P T.b f) fun s=>Y5 c b (Q7 P T.a0 Y) fun Q=>X5 c b t (fun h=>Q7 P T.b h) fun R=>Y5 c b (Q7 P T.d a) fun u=>X5 c b u (fun i=>Q0 P F.cJ [i]) fun v=>X5 c b y (fun k=>Q7 P T.b k) fun U=>N2 c b n s (fun e g=>mapEntry P T.a0 e g) fun z=>X5 c b z (fun l=>ext P l 1) fun A=>Jn c b n A v (fun e m j=>entryStore P T.a0 e m j) fun B=> ∀f h k e g o p i j q l m O w,b w->r f w->t h w->y k w->n e w->s g w->Q o w->R p w->u i w->v j w->U q w->z l w->A m w->B O w->mapUpdate P T.a0 o p q w fun _u w=>X8 d true E w fun H w=>Q1 d true w (Q7 P T.d a) fun J w=>Q1 d true w (Q0 P F.cJ [J]) fun L w=>Q1 d true w (X1 .neq T.b 29 31 H L) fun M w=>pick P d M (.bool false) w fun N w=>K N w
theorem Gj (h:Vr a0 a1 a2 a3 w K):Q0 P F.aL [a0,a1,a2,a3] w K:=zr (Y0 4) Tryz.func122 h
def Ls:Yn:=fun b c d w K=>box P T.c b w fun a w=>X6 T.c T.k a 7 w fun e w=>S1 P (.func F.aL) [] [c,a,d] w fun f w=>Q0 P F.a [e,f] w fun g w=>K g w
theorem Pm (h:Ls a0 a1 a2 w K):Q0 P F.b9 [a0,a1,a2] w K:=zr (Y0 2) Tryz.func120 h
def Q41:V9:=fun b c w K=>box P T.d b w fun a w=>X6 T.d T.b a 0 w fun d w=>Q7 P T.b c w fun e w=>X1 .eql T.b 5 6 d e w fun f w=>K f w
theorem X1c (h:Q41 a0 a1 w K):Q0 P F.dB [a0,a1] w K:=zr (Y0 2) Tryz.func223 h
def Q73:V9:=fun k l w K=>box P T.c k w fun b w=>box P T.b l w fun a w=>Qa P T.d w fun d w=>X6 T.c T.k b 7 w fun m w=>S1 P (.func F.dB) [] [a] w fun n w=>Q0 P F.i [m,n] w fun c w=>X2 .lss T.e 11 c 0 w fun f w=>X0 f (B6 P T.d [] w fun g w=>U8 P T.d d g w fun _u w=>J4 P T.d d w fun e=>K (.tuple #[e,(.bool false)]) w) (X6 T.c T.k b 7 w fun h w=>J3 T.k T.d h c w fun i w=>Q0 P F.cB [i] w fun j w=>U8 P T.d d j w fun _u w=>J4 P T.d d w fun e=>K (.tuple #[e,(.bool true)]) w)
theorem X4j (h:Q73 a0 a1 w K):Q0 P F.dd [a0,a1] w K:=zr (Y0 6) Tryz.func187 h
def Q2P:W5:=[none,none,none,some ([19],[6,8,10,11,12,13,14,15,19,20,21,22,23,24,25,26,27,28,29,30,31,32,33,34,35,36,37,38,39,40,41,42,43,44,45,46,47])]++Y0 12
def Sn:Yn:=fun n H E w K=>box P T.c H w fun e w=>Qa P T.d w fun f w=>X6 T.c T.h e 2 w fun i w=>X4 T.h i w fun o w=>lp (α:=Value) (.int .i64 0) w fun a B J w=>X1 .lss T.e 19 18 B o w fun p w=>X0 p (J3 T.h T.b i B w fun d w=>Q0 P F.e [n,d] w fun q w=>Q0 P F.dd [q,E] w fun r w=>D0 r w fun s t w=>L9 T.d s w fun b w=>X0 t (dr w fun m g=>Y5 m g (Q7 P T.d b) fun C=> ∀j w,g w->C j w->U8 P T.d f j w fun _u w=>J4 P T.d f w fun h=>K (.tuple #[d,h,(.bool true)]) w) (Q0 P F.e [n,d] w fun u w=>Q0 P F.aZ [n,u,E] w fun k w=>D0 k w fun v y w=>ext P k 2 w fun z w=>L9 T.d y w fun c w=>X0 z (dr w fun m g=>Y5 m g (Q7 P T.d c) fun D=> ∀l w,g w->D l w->U8 P T.d f l w fun _u w=>J4 P T.d f w fun h=>K (.tuple #[v,h,(.bool true)]) w) (V1 19 B w a))) (B6 P T.d [] w fun A w=>U8 P T.d f A w fun _u w=>J4 P T.d f w fun h=>K (.tuple #[(.string ⟨#[]⟩),h,(.bool false)]) w)
theorem Q3a (h:Sn a0 a1 a2 w K):Q0 P F.aZ [a0,a1,a2] w K:=zr Q2P Tryz.func188 h
def Q0q:W5:=Y0 5++[some ([26],[6,8,11,12,13,26,27,28,29,30,31,32,33,34,35,36,37,38,39,40])]++Y0 9++[some ([43],[6,8,15,16,17,18,43,44,45,46,47,48,49,50,51,52,53,54,55,56,57,58])]++Y0 8
def Dr:Yn:=fun U W V w K=>Qa P T.d w fun k w=>Q0 P F.b0 [U,W] w fun c w=>Q0 P F.r [c] w fun Y w=>X4 T.i c w fun s w=>lp (α:=Value) (.int .i64 0) w fun d N X w=>X1 .lss T.e 26 25 N s w fun t w=>X0 t (J3 T.i T.c c N w fun u w=>L9 T.c u w fun a w=>Q7 P T.c a w fun v w=>Q0 P F.dd [v,V] w fun y w=>D0 y w fun z A w=>L9 T.d z w fun f w=>X0 A (dr w fun l h=>Y5 l h (fieldAddr P T.c a 0) fun r=>X5 l h r (fun i=>Q7 P T.b i) fun O=>Y5 l h (Q7 P T.d f) fun Q=> ∀i n o w,h w->r i w->O n w->Q o w->U8 P T.d k o w fun _u w=>J4 P T.d k w fun m=>K (.tuple #[n,m,(.bool true)]) w) (V1 26 N w d)) (X4 T.i c w fun B w=>lp (α:=Value) (.int .i64 0) w fun b j X w=>X1 .lss T.e 43 42 j B w fun C w=>X0 C (J3 T.i T.c c j w fun D w=>L9 T.c D w fun e w=>Q7 P T.c e w fun E w=>Q0 P F.aZ [U,E,V] w fun p w=>D0 p w fun H J w=>ext P p 2 w fun L w=>L9 T.d J w fun g w=>X0 L (dr w fun l h=>Y5 l h (Q7 P T.d g) fun R=> ∀q w,h w->R q w->U8 P T.d k q w fun _u w=>J4 P T.d k w fun m=>K (.tuple #[H,m,(.bool true)]) w) (V1 43 j w b)) (B6 P T.d [] w fun M w=>U8 P T.d k M w fun _u w=>J4 P T.d k w fun m=>K (.tuple #[(.string ⟨#[]⟩),m,(.bool false)]) w))
theorem Q0y (h:Dr a0 a1 a2 w K):Q0 P F.bt [a0,a1,a2] w K:=zr Q0q Tryz.func124 h
def Aq:W5:=[none,none,none,some ([21],[4,6,21,22,23,24,25,26,27,28,29,30,31,32])]++Y0 9++[some ([37],[4,9,37,38,39,40,41,42,43,44,45,46])]++Y0 8++[some ([50],[4,11,50,51,52,53,54,55,56,57,58,59,60,61,62,63,64,65,66,67,68,69,70])]++Y0 15++[some ([],[4,14,15,16,17,82,83,84,85,86,87,88,89,90,91,92,93,94,95,96,97,98,99,100])]++Y0 7
def Oj:V9:=fun a0 a1 w K=>box P T.z a0 w fun t w=>box P T.c a1 w fun h w=>X6 T.c T.j h 6 w fun n w=>X4 T.j n w fun y w=>lp (α:=Value) (.int .i64 0) w fun d x3 u w=>X1 .lss T.e 21 20 x3 y w fun z w=>X0 z (J3 T.j T.m n x3 w fun A w=>L9 T.m A w fun t6 w=>Q7 P T.z t w fun B w=>X6 T.c T.b h 1 w fun C w=>X6 T.m T.b t6 0 w fun D w=>Q0 P F.bE [B,C,D] w fun E w=>X2 .geq T.e 30 E 0 w fun H w=>X0 H (K (.int .i64 64) w) (V1 21 x3 w d)) (S1 P (.func F.ao) [] [t] w fun J w=>L9 T.ae J w fun t7 w=>X6 T.c T.j h 6 w fun o w=>X4 T.j o w fun L w=>lp (α:=Value) (.int .i64 0) w fun a j u w=>X1 .lss T.e 37 36 j L w fun M w=>X0 M (J3 T.j T.m o j w fun N w=>L9 T.m N w fun t9 w=>Q7 P T.ae t7 w fun O w=>X6 T.m T.b t9 1 w fun Q w=>J6 P O [Q] w fun R w=>W2 P .not R w fun U w=>X0 U (K (.int .i64 65) w) (V1 37 j w a)) (X6 T.c T.k h 7 w fun p w=>X4 T.k p w fun V w=>lp (α:=Value) (.int .i64 0) w fun b k u w=>X1 .lss T.e 50 49 k V w fun W w=>X0 W (J3 T.k T.d p k w fun X w=>L9 T.d X w fun f w=>Q7 P T.ae t7 w fun Y w=>X6 T.d T.b f 2 w fun Z w=>J6 P Y [Z] w fun aa w=>W2 P .not aa w fun i w=>J1 i true w T.d T.b f 2 fun ab w=>Q1 i true w (J9 .neq T.b 61 ab #[]) fun ac w=>pick P i ac (.bool false) w fun e w=>J1 e false w T.d T.h f 1 fun ad w=>Q1 e false w (S1 P (.func F.ap) [] [t7]) fun ae w=>Q1 e false w (Q0 P F.c [ad,ae]) fun af w=>pick P e (.bool true) af w fun ag w=>X0 ag (K (.int .i64 65) w) (V1 50 k w b)) (Rr P T.a0 none w fun ai w=>Rr P T.a0 none w fun aj w=>Qa P T.a0 w fun m w=>Qa P T.a0 w fun g w=>U8 P T.a0 m ai w fun _u w=>U8 P T.a0 g aj w fun _u w=>Q7 P T.z t w fun ak w=>X6 T.c T.b h 0 w fun al w=>S1 P (.func F.b9) [] [m,g] w fun am w=>Q0 P F.z [ak,al,am] w fun an w=>X0 an (K (.int .i64 66) w) (X6 T.c T.s h 4 w fun ao w=>X0 ao (K (.int .i64 0) w) (Q7 P T.a0 g w fun ap w=>rng P T.a0 ap w fun q w=>lp (α:=Unit) () w fun c ba u w=>L8 P q false T.x w fun aq w=>ext P aq 0 w fun ar w=>X0 ar (X3O P q w fun av w=>ext P av 0 w fun aw w=>Q7 P T.z t w fun ax w=>X6 T.c T.b h 0 w fun ay w=>Q0 P F.bt [ax,ay,aw] w fun r w=>D0 r w fun a9 az w=>ext P r 2 w fun a2 w=>L9 T.d az w fun v w=>W2 P .not a2 w fun s w=>J1 s false w T.d T.s v 3 fun a3 w=>pick P s (.bool true) a3 w fun l w=>X0 l (K (.int .i64 67) w) (c () w)) (K (.int .i64 0) w))))))
theorem Q00 (h:Oj a0 a1 w K):Q0 P F.bl [a0,a1] w K:=zr Aq Tryz.func61 h
def X45:W5:=Y0 5++[some ([30],[2,3,4,7,8,9,30,31,32,33,34,35,36,37,38,39,40,41,42,43,44,45,46,47,48,49,50,51,52])]++Y0 10++[some ([58],[2,3,4,10,11,58,59,60,61,62,63,64,65,66,67,68,69,70,71,72,73,74,75,76,77])]++Y0 9++[some ([85],[2,3,4,12,13,14,85,86,87,88,89,90,91,92,93,94,95,96,97])]++Y0 13++[some ([114],[2,3,4,17,18,114,115,116,117,118,119,120,121,122,123,124,125,126,127,128,129,130,131,132,133])]++Y0 8
def Q72:D6:=fun a0 w K=>Q0 P F.di [] w fun aj w=>Rr P T.a6 none w fun ak w=>B6 P T.a4 [(0,aj),(1,ak)] w fun al w=>box P T.a4 al w fun a w=>nilCheck P a w fun am w=>X6 T.a4 T.i am 0 w fun an w=>X4 T.i an w fun g w=>X4 T.i a0 w fun ao w=>lp (α:=Value) (.int .i64 0) w fun i x5 d_ w=>X1 .lss T.e 30 29 x5 ao w fun ap w=>X0 ap (J3 T.i T.c a0 x5 w fun aq w=>L9 T.c aq w fun t8 w=>Q7 P T.c t8 w fun ar w=>Q0 P F.d6 [ar] w fun O w=>X2 .neq T.w 37 O 0 w fun av w=>X0 av (K (.tuple #[(.pointer none),x5,O]) w) (dr w fun c b=>Y5 c b (nilCheck P a) fun Z=>X5 c b Z (fun o=>fieldAddr P T.a4 o 0) fun aa=>X5 c b aa (fun p=>Q7 P T.i p) fun bf=>Y5 c b (Q7 P T.c t8) fun ab=>X5 c b ab (fun q=>Q0 P F.d9 [q]) fun ac=>X5 c b ac (fun r=>buildSlice P T.i 1 [(0,r)]) fun bg=> ∀o p Q q r R w,b w->Z o w->aa p w->bf Q w->ab q w->ac r w->bg R w->U4 P .append [T.i,T.i] T.i [false,false] [Q,R] w fun aw w=>nilCheck P a w fun ax w=>fieldAddr P T.a4 ax 0 w fun ay w=>U8 P T.i ay aw w fun _u w=>V1 30 x5 w i)) (nilCheck P a w fun az w=>X6 T.a4 T.i az 0 w fun U w=>X4 T.i U w fun a1 w=>lp (α:=Value) (.int .i64 0) w fun d h d_ w=>X1 .lss T.e 58 57 h a1 w fun a2 w=>X0 a2 (J3 T.i T.c U h w fun a3 w=>L9 T.c a3 w fun C w=>X6 T.c T.b C 0 w fun a4 w=>Q0 P F.j [a,a4] w fun a5 w=>X0 a5 (X1 .sub T.e 67 68 h g w fun a6 w=>K (.tuple #[(.pointer none),a6,(.int .i64 60)]) w) (dr w fun c b=>Y5 c b (nilCheck P a) fun ad=>X5 c b ad (fun s=>fieldAddr P T.a4 s 1) fun ae=>Y5 c b (fieldAddr P T.c C 0) fun af=>X5 c b ae (fun t=>Q7 P T.a6 t) fun bh=>X5 c b af (fun u=>Q7 P T.b u) fun bi=> ∀s t u V W w,b w->ad s w->ae t w->af u w->bh V w->bi W w->mapUpdate P T.a6 V W h w fun _u w=>V1 58 h w d)) (nilCheck P a w fun a7 w=>X6 T.a4 T.i a7 0 w fun a8 w=>I7 P T.i a8 (some g) none none w fun X w=>X4 T.i X w fun a9 w=>lp (α:=Value) (.int .i64 0) w fun e j d_ w=>X1 .lss T.e 85 84 j a9 w fun ba w=>X0 ba (J3 T.i T.c X j w fun bb w=>L9 T.c bb w fun ai w=>Q7 P T.c ai w fun bc w=>Q0 P F.bu [a,bc] w fun Y w=>X2 .neq T.w 93 Y 0 w fun bd w=>X0 bd (K (.tuple #[(.pointer none),j,Y]) w) (V1 85 j w e)) (nilCheck P a w fun be w=>X6 T.a4 T.i be 0 w fun y w=>I7 P T.i y (some g) none none w fun z w=>S1 P (.func F.bG) [a] [] w fun A w=>Q0 P F.q [z,A] w fun k w=>X2 .geq T.e 107 k 0 w fun B w=>X0 B (K (.tuple #[(.pointer none),k,(.int .i64 63)]) w) (Q0 P F.bH [a,g] w fun l w=>X4 T.o l w fun D w=>lp (α:=Value) (.int .i64 0) w fun f v d_ w=>X1 .lss T.e 114 113 v D w fun E w=>X0 E (J3 T.o T.e l v w fun m w=>nilCheck P a w fun H w=>X6 T.a4 T.i H 0 w fun J w=>J3 T.i T.c J m w fun L w=>Q0 P F.bl [a,L] w fun n w=>X2 .neq T.w 127 n 0 w fun M w=>X0 M (X1 .sub T.e 129 130 m g w fun N w=>K (.tuple #[(.pointer none),N,n]) w) (V1 114 v w f)) (K (.tuple #[a,(.int .i64 0),(.int .i64 0)]) w)))))
theorem X4i (h:Q72 a0 w K):Q0 P F.dt [a0] w K:=zr X45 Tryz.func25 h
def On:zV0:=fun w K=>B6 P T.y [(0,(.string ⟨#[105,110,116]⟩)),(1,(.int .i64 1))] w fun n w=>B6 P T.y [(0,(.string ⟨#[114,101,116,117,114,110]⟩))] w fun o w=>buildSlice P T.q 2 [(0,n),(1,o)] w fun p w=>B6 P T.m [(0,(.string ⟨#[120]⟩)),(1,(.string ⟨#[105,110,116]⟩))] w fun q w=>B6 P T.m [(0,(.string ⟨#[110,101,120,116]⟩)),(1,(.string ⟨#[65]⟩))] w fun r w=>buildSlice P T.j 2 [(0,q),(1,r)] w fun s w=>buildSlice P T.h 2 [(0,(.string ⟨#[105,110,116]⟩)),(1,(.string ⟨#[65]⟩))] w fun t w=>B6 P T.d [(0,(.string ⟨#[102]⟩)),(1,t),(2,(.string ⟨#[105,110,116]⟩)),(4,(.int .i64 3)),(5,p)] w fun a w=>B6 P T.y [(0,(.string ⟨#[114,101,116,117,114,110]⟩))] w fun b w=>buildSlice P T.q 1 [(0,b)] w fun c w=>B6 P T.d [(0,(.string ⟨#[103]⟩)),(4,(.int .i64 1)),(5,c)] w fun d w=>buildSlice P T.k 2 [(0,a),(1,d)] w fun e w=>B6 P T.c [(0,(.string ⟨#[65]⟩)),(1,(.string ⟨#[79,98,106,101,99,116]⟩)),(6,s),(7,e)] w fun f w=>buildSlice P T.h 1 [(0,(.string ⟨#[73]⟩))] w fun g w=>B6 P T.m [(0,(.string ⟨#[108]⟩)),(1,(.string ⟨#[65,91,93]⟩))] w fun h w=>buildSlice P T.j 1 [(0,h)] w fun i w=>B6 P T.c [(0,(.string ⟨#[66]⟩)),(1,(.string ⟨#[65]⟩)),(2,g),(6,i)] w fun j w=>B6 P T.c [(0,(.string ⟨#[73]⟩)),(1,(.string ⟨#[79,98,106,101,99,116]⟩)),(3,(.bool true)),(4,(.bool true))] w fun k w=>B6 P T.c [(0,(.string ⟨#[68]⟩)),(1,(.string ⟨#[79,98,106,101,99,116]⟩)),(4,(.bool true))] w fun l w=>buildSlice P T.i 4 [(0,f),(1,j),(2,k),(3,l)] w fun m w=>K m w
theorem Q03 (h:On w K):Q0 P F.aG [] w K:=zr (Y0 3) Tryz.func26 h
def Q1v:W5:=Y0 5++[some ([1,3],[1,3,10,11,12,13,14,15,16,17,18,19,20,21,22,23]),none,none,none,none]
def Hx:zV0:=fun w K=>B6 P T.c [(0,(.string ⟨#[79,98,106,101,99,116]⟩))] w fun k w=>B6 P T.m [(0,(.string ⟨#[119,104,97,116]⟩)),(1,(.string ⟨#[116,101,120,116]⟩))] w fun l w=>buildSlice P T.j 1 [(0,l)] w fun m w=>B6 P T.c [(0,(.string ⟨#[70,97,117,108,116]⟩)),(1,(.string ⟨#[79,98,106,101,99,116]⟩)),(6,m)] w fun n w=>buildSlice P T.i 2 [(0,k),(1,n)] w fun o w=>buildSlice P T.h 6 [(0,(.string ⟨#[78,117,108,108,70,97,117,108,116]⟩)),(1,(.string ⟨#[73,110,100,101,120,70,97,117,108,116]⟩)),(2,(.string ⟨#[67,97,115,116,70,97,117,108,116]⟩)),(3,(.string ⟨#[90,101,114,111,70,97,117,108,116]⟩)),(4,(.string ⟨#[82,111,111,109,70,97,117,108,116]⟩)),(5,(.string ⟨#[67,97,108,108,70,97,117,108,116]⟩))] w fun j w=>lp (α:=Value×Value) (o,(.int .i64 0)) w fun a b p w=>X4 T.h j w fun c w=>X1 .lss T.e 10 12 b.2 c w fun d w=>X0 d (J3 T.h T.b j b.2 w fun f w=>B6 P T.c [(0,f),(1,(.string ⟨#[70,97,117,108,116]⟩)),(5,(.bool true))] w fun g w=>buildSlice P T.i 1 [(0,g)] w fun h w=>U4 P .append [T.i,T.i] T.i [false,false] [b.1,h] w fun i w=>X2 .add T.e 14 b.2 1 w fun e w=>a (i,e) w) (K b.1 w)
theorem Q2c (h:Hx w K):Q0 P F.bQ [] w K:=zr Q1v Tryz.func62 h
def Q2Y:W5:=[none,none,none,some ([3],[2,3,4,5,6,7,8,9,10,11,12,13,14,15,16,17,18,19,20,21,22,23,24,25,26,27,28,29,30,31,32,33,34,35,36,37])]++Y0 7
def Ca:D6:=fun L w K=>box P T.c L w fun a w=>lp (α:=Value) (.int .i64 0) w fun c J Q w=>X6 T.c T.k a 7 w fun M w=>X4 T.k M w fun N w=>X1 .lss T.e 5 8 J N w fun O w=>X0 O (X6 T.c T.k a 7 w fun i w=>J3 T.k T.d i J w fun j w=>L9 T.d j w fun b w=>X6 T.d T.h b 1 w fun k w=>X4 T.h k w fun l w=>X2 .gtr T.e 19 l 32 w fun d w=>J1 d false w T.d T.u b 6 fun m w=>Q1 d false w (X4 T.u m) fun n w=>Q1 d false w (X2 .gtr T.e 24 n 32) fun o w=>pick P d (.bool true) o w fun e w=>J1 e false w T.d T.q b 5 fun p w=>Q1 e false w (X4 T.q p) fun q w=>Q1 e false w (X2 .gtr T.e 30 q 200) fun r w=>pick P e (.bool true) r w fun h w=>J1 h false w T.d T.e b 4 fun s w=>Q1 h false w (X2 .gtr T.e 35 s 64) fun t w=>pick P h (.bool true) t w fun u w=>X0 u (K (.bool true) w) (V1 10 J w c)) (X6 T.c T.h a 2 w fun v w=>X4 T.h v w fun y w=>X2 .gtr T.e 40 y 32 w fun f w=>J1 f false w T.c T.j a 6 fun z w=>Q1 f false w (X4 T.j z) fun A w=>Q1 f false w (X2 .gtr T.e 45 A 32) fun B w=>pick P f (.bool true) B w fun g w=>J1 g false w T.c T.k a 7 fun C w=>Q1 g false w (X4 T.k C) fun D w=>Q1 g false w (X2 .gtr T.e 51 D 32) fun E w=>pick P g (.bool true) E w fun H w=>K H w)
theorem Q3n (h:Ca a0 w K):Q0 P F.c4 [a0] w K:=zr Q2Y Tryz.func125 h
def Q2V:W5:=[none,none,none,some ([0,3],[0,3,4,5,6,7,8,9,10,11,12,13,14,15,16,17,18,19,20,21]),none,none,none,none]
def Sw:D6:=fun m w K=>lp (α:=Value×Value) (m,(.int .i64 0)) w fun a c q w=>X4 T.b c.1 w fun n w=>X2 .geq T.e 5 n 2 w fun b w=>X8 b true c.1 w fun o w=>X8 b true c.1 w fun p w=>Q1 b true w (X4 T.b p) fun d w=>Q1 b true w (X2 .sub T.e 10 d 2) fun e w=>Q1 b true w (I7 P T.b o (some e) none none) fun f w=>Q1 b true w (J9 .eql T.b 12 f #[91,93]) fun g w=>pick P b g (.bool false) w fun h w=>X0 h (X2 .add T.e 15 c.2 1 w fun i w=>X4 T.b c.1 w fun j w=>X2 .sub T.e 19 j 2 w fun k w=>I7 P T.b c.1 none (some k) none w fun l w=>a (l,i) w) (K c.2 w)
theorem Q3j (h:Sw a0 w K):Q0 P F.a3 [a0] w K:=zr Q2V Tryz.func101 h
def Q1q:W5:=[none,none,none,some ([4],[4,5,6,7]),none,none,none,none]
def Hq:D6:=fun b w K=>jn (α:=Value) w (fun a w=>J9 .eql T.b 3 b #[105,110,116] w fun c w=>X0 c (a c w) (J9 .eql T.b 3 b #[98,111,111,108] w fun d w=>X0 d (a d w) (J9 .eql T.b 3 b #[116,101,120,116] w fun e w=>a e w))) fun f g w=>X0 f (K (.bool true) w) (K (.bool false) w)
theorem Q25 (h:Hq a0 w K):Q0 P F.a0 [a0] w K:=zr Q1q Tryz.func158 h
def Q2W:W5:=[none,none,none,some ([3],[2,3,4,5,6,7,8,9,10,11,12,13,14,15,16,17,18,19,20,21,22,23,24,25,26,27,28,29,30,31,32,33,34,35,36,37,38,39,40,41,42,43,44,45,46,47,48,49,50])]++Y0 7
def Sy:D6:=fun g w K=>lp (α:=Value) (.int .i64 0) w fun h j d_ w=>X4 T.b g w fun t7 w=>X1 .lss T.e 5 7 j t7 w fun t8 w=>X0 t8 (P7 P T.b g j w fun k w=>Z2 P .geq T.a2 (.tmp 13) (.const (.int .u8 97)) k (.int .u8 97) w fun c w=>X8 c true g w fun l w=>X8 c true j w fun m w=>Q1 c true w (P7 P T.b l m) fun n w=>Q1 c true w (Z2 P .leq T.a2 (.tmp 18) (.const (.int .u8 122)) n (.int .u8 122)) fun o w=>pick P c o (.bool false) w fun a w=>X8 a false g w fun p w=>X8 a false j w fun q w=>Q1 a false w (P7 P T.b p q) fun r w=>Q1 a false w (Z2 P .geq T.a2 (.tmp 24) (.const (.int .u8 65)) r (.int .u8 65)) fun s w=>X8 a false s w fun d w=>X8 d true g w fun t w=>X8 d true j w fun u w=>Q1 d true w (P7 P T.b t u) fun v w=>Q1 d true w (Z2 P .leq T.a2 (.tmp 29) (.const (.int .u8 90)) v (.int .u8 90)) fun y w=>Q1 a false w (pick P d y (.bool false)) fun z w=>pick P a (.bool true) z w fun A w=>W2 P .not A w fun b w=>X8 b true j w fun B w=>Q1 b true w (X2 .eql T.e 36 B 0) fun C w=>X8 b true C w fun e w=>X8 e false g w fun D w=>X8 e false j w fun E w=>Q1 e false w (P7 P T.b D E) fun H w=>Q1 e false w (Z2 P .lss T.a2 (.tmp 41) (.const (.int .u8 48)) H (.int .u8 48)) fun J w=>Q1 b true w (pick P e (.bool true) J) fun L w=>X8 b true L w fun f w=>X8 f false g w fun M w=>X8 f false j w fun N w=>Q1 f false w (P7 P T.b M N) fun O w=>Q1 f false w (Z2 P .gtr T.a2 (.tmp 47) (.const (.int .u8 57)) O (.int .u8 57)) fun Q w=>Q1 b true w (pick P f (.bool true) Q) fun R w=>pick P b R (.bool false) w fun U w=>X0 U (K (.bool false) w) (V1 9 j w h)) (X4 T.b g w fun V w=>X2 .geq T.e 52 V 1 w fun i w=>X8 i true g w fun W w=>Q1 i true w (X4 T.b W) fun X w=>Q1 i true w (X2 .leq T.e 56 X 32) fun Y w=>pick P i Y (.bool false) w fun Z w=>K Z w)
theorem Q3l (h:Sy a0 w K):Q0 P F.b2 [a0] w K:=zr Q2W Tryz.func200 h
def Ho:D6:=fun b w K=>Q0 P F.b2 [b] w fun a w=>X8 a true b w fun c w=>Q1 a true w (P7 P T.b c (.int .i64 0)) fun d w=>Q1 a true w (Z2 P .leq T.a2 (.tmp 7) (.const (.int .u8 90)) d (.int .u8 90)) fun e w=>pick P a e (.bool false) w fun f w=>K f w
theorem Q23 (h:Ho a0 w K):Q0 P F.d [a0] w K:=zr (Y0 2) Tryz.func159 h
def Hr:D6:=fun d w K=>Q0 P F.a3 [d] w fun m w=>X4 T.b d w fun n w=>Z2 P .mul T.e (.const (.int .i64 2)) (.tmp 10) (.int .i64 2) m w fun e w=>X1 .sub T.e 9 11 n e w fun f w=>I7 P T.b d none (some f) none w fun c w=>X2 .leq T.e 14 m 3 w fun a w=>X8 a true c w fun g w=>Q1 a true w (Q0 P F.a0 [g]) fun h w=>X8 a true h w fun b w=>X8 b false c w fun i w=>Q1 b false w (Q0 P F.d [i]) fun j w=>Q1 a true w (pick P b (.bool true) j) fun k w=>pick P a k (.bool false) w fun l w=>K l w
theorem Q26 (h:Hr a0 w K):Q0 P F.f [a0] w K:=zr (Y0 4) Tryz.func102 h
def Dv:D6:=fun b w K=>Q0 P F.b2 [b] w fun a w=>X8 a true b w fun c w=>Q1 a true w (P7 P T.b c (.int .i64 0)) fun d w=>Q1 a true w (Z2 P .geq T.a2 (.tmp 7) (.const (.int .u8 97)) d (.int .u8 97)) fun e w=>pick P a e (.bool false) w fun f w=>K f w
theorem Q0C (h:Dv a0 w K):Q0 P F.w [a0] w K:=zr (Y0 2) Tryz.func189 h
def Hn:V9:=fun c d w K=>X4 T.b c w fun n w=>X1 .lss T.e 5 7 d n w fun b w=>X8 b true c w fun e w=>X8 b true d w fun f w=>Q1 b true w (P7 P T.b e f) fun g w=>Q1 b true w (Z2 P .geq T.a2 (.tmp 12) (.const (.int .u8 128)) g (.int .u8 128)) fun h w=>pick P b h (.bool false) w fun a w=>X8 a true c w fun i w=>X8 a true d w fun j w=>Q1 a true w (P7 P T.b i j) fun k w=>Q1 a true w (Z2 P .lss T.a2 (.tmp 18) (.const (.int .u8 192)) k (.int .u8 192)) fun l w=>pick P a l (.bool false) w fun m w=>K m w
theorem Q22 (h:Hn a0 a1 w K):Q0 P F.s [a0,a1] w K:=zr (Y0 2) Tryz.func75 h
end Go.Proofs.Y
