/- Parts of a proof about the given program: its functions as texts of their own, what each computes, plain laws of that. The conditions of each stand in its statement. -/
import Derived.WalkKit
import Derived.KernelRfl
import Derived.Test.YtlfdfcejjgidpaaGreatDoorProg
set_option linter.unnecessarySimpa false
set_option linter.defProp false
set_option linter.unusedSectionVars false
set_option linter.unusedVariables false
set_option linter.unusedSimpArgs false
namespace Go.Emb
theorem Q7 {p:Prop} (h:p:=by assumption):p:=h
theorem Q4 {p:Prop} (h:p:=by omega):p:=h
theorem M5 {p:Prop} (h:p:=by decide):p:=h
theorem U5 {p:Prop} (h:p:=by simp):p:=h
theorem X3 {p:Prop} (h:p:=by kernel_rfl):p:=h
def Ye (P:Program) (s:Sem Next) (w:World) (K:Value->World->Prop):Prop:=
 match s.run P w with
 | .ok (.value v) w'=>K v w'
 | .ok .skip w'=>K undef w'
 | .ok (.enter f a) w'=>Calls P f a w' fun e b=>match e with | .returned v=>K v b | _=>False
 | .ok (.row row a) w'=>Rows P row a w' K
 | _=>False
theorem X3T: ∃f:Program->Sem Next->World->(Value->World->Prop)->Prop,f=Ye:=⟨_,rfl⟩
noncomputable def op:Program->Sem Next->World->(Value->World->Prop)->Prop:=Classical.choose X3T
theorem Zw:op=Ye:=Classical.choose_spec X3T
theorem X6z {P:Program} {o:Oper} {a:Act} {w:World} {next:Act->World->Prop} {Q:Exit->Act->World->Prop}
 (h:op P (execOp a.eval o) w (fun v w=>next (a.put o.dst v) w)):o.wp P a w next Q:=by
 unfold Oper.wp;rw[Zw] at h;unfold Ye at h;cases c:(execOp a.eval o).run P w with
 | halt x w'=>rw[c] at h;exact h.elim
 | ok n w'=>
  rw[c] at h;cases n<;>simp only at h<;>try exact h.elim
  .exact h
  .exact h
  .refine Calls.mono h fun e d b=>?_
   cases e<;>first | exact b | exact b.elim
  .exact h
theorem Ex {P:Program} {s:Sem Next} {K b:Value->World->Prop} {w:World} (a: ∀v w,K v w->b v w) (h:op P s w K):op P s w b:=by
 rw[Zw] at*;unfold Ye at*;cases d:s.run P w with
 | halt x w'=>rw[d] at h;exact h.elim
 | ok n w'=>
  rw[d] at h;cases n<;>simp only at h⊢ <;>try exact h.elim
  .exact a _ _ h
  .exact a _ _ h
  .refine Calls.mono h fun e f c=>?_
   cases e<;>first | exact a _ _ c | exact c.elim
  .exact h.mono a
def sv (s:Sem Value):Sem Next:=do Pure.pure (.value (<-s))
def su (s:Sem Unit):Sem Next:=do s;Pure.pure .skip
variable (P : Program)
noncomputable def pick (c a b:Value) (w:World) (K:Value->World->Prop):Prop:=op P (do Pure.pure (.value (if<-asBool c then a else b))) w K
noncomputable def Qh (e:TypeId) (w:World) (K:Value->World->Prop):Prop:=op P (sv (Instr.alloc e true (.tuple #[]))) w K
noncomputable def box (e:TypeId) (x:Value) (w:World) (K:Value->World->Prop):Prop:=op P (sv (Instr.box e x)) w K
noncomputable def D7 (t:TypeId) (a:List (Nat×Value)) (w:World) (K:Value->World->Prop):Prop:=op P (sv (Instr.build t a.toArray)) w K
noncomputable def buildSlice (t:TypeId) (n:Nat) (a:List (Nat×Value)) (w:World) (K:Value->World->Prop):Prop:=op P (sv (Instr.buildSlice t n a.toArray)) w K
noncomputable def Q9 (t:TypeId) (a:Value) (w:World) (K:Value->World->Prop):Prop:=op P (sv (Instr.loadAt t a)) w K
noncomputable def M3 (t:TypeId) (a x:Value) (w:World) (K:Value->World->Prop):Prop:=op P (su (Instr.storeAt t a x)) w K
noncomputable def nilCheck (x:Value) (w:World) (K:Value->World->Prop):Prop:=op P (execOp (fun _=>x) {dst:=none,op:= .nilCheck (.const x),type:=0,pos:= "",after:= #[],guard:=none}) w K
noncomputable def Y5 (o:BinOp) (t:TypeId) (a b:Operand) (x y:Value) (w:World) (K:Value->World->Prop):Prop:=op P (sv (do eqGuard o t a b x y;Go.binOp o t x y)) w K
noncomputable def V1 (o:UnOp) (x:Value) (w:World) (K:Value->World->Prop):Prop:=op P (sv (Op.unary o x)) w K
noncomputable def conv (s d:TypeId) (x:Value) (w:World) (K:Value->World->Prop):Prop:=op P (sv (Go.convert s d x)) w K
noncomputable def X4J (t:TypeId) (x:Value) (w:World) (K:Value->World->Prop):Prop:=op P (sv (Instr.makeInterface t x)) w K
noncomputable def O8 (f:Fn) (first caps:List Value) (w:World) (K:Value->World->Prop):Prop:=op P (sv (Instr.makeFunc f first.toArray caps.toArray)) w K
noncomputable def Oz (t:TypeId) (r:Option Value) (w:World) (K:Value->World->Prop):Prop:=op P (sv (Instr.makeMap t r)) w K
noncomputable def Q2t (t:TypeId) (n c:Value) (w:World) (K:Value->World->Prop):Prop:=op P (sv (Instr.makeSlice t n c)) w K
noncomputable def I9 (t:TypeId) (x:Value) (b a c:Option Value) (w:World) (K:Value->World->Prop):Prop:=op P (sv (Instr.sliceAt t x b a c)) w K
noncomputable def fieldAddr (t:TypeId) (x:Value) (f:Nat) (w:World) (K:Value->World->Prop):Prop:=op P (sv (Instr.fieldAt t x f)) w K
noncomputable def Nk (t:TypeId) (x:Value) (f:Nat) (w:World) (K:Value->World->Prop):Prop:=op P (sv (Instr.field t x f)) w K
noncomputable def indexAddr (t:TypeId) (x i:Value) (w:World) (K:Value->World->Prop):Prop:=op P (sv (Instr.indexAt t x i)) w K
noncomputable def B3 (t:TypeId) (x i:Value) (w:World) (K:Value->World->Prop):Prop:=op P (sv (Instr.index t x i)) w K
noncomputable def lookup (t:TypeId) (x i:Value) (ok:Bool) (w:World) (K:Value->World->Prop):Prop:=op P (sv (Instr.lookup t x i ok)) w K
noncomputable def mapUpdate (t:TypeId) (m k x:Value) (w:World) (K:Value->World->Prop):Prop:=op P (su (Instr.mapUpdate t m k x)) w K
noncomputable def mapEntry (t:TypeId) (m k:Value) (w:World) (K:Value->World->Prop):Prop:=op P (sv (Instr.mapEntry t m k)) w K
noncomputable def entryStore (t:TypeId) (m s x:Value) (w:World) (K:Value->World->Prop):Prop:=op P (su (Instr.entryStore t m s x)) w K
noncomputable def rng (t:TypeId) (x:Value) (w:World) (K:Value->World->Prop):Prop:=op P (sv (Instr.range t x)) w K
noncomputable def V0 (b:Value) (a:Bool) (t:TypeId) (w:World) (K:Value->World->Prop):Prop:=op P (sv (Instr.next b a t)) w K
noncomputable def X07 (a:Value) (w:World) (K:Value->World->Prop):Prop:=op P (sv (Instr.entry a)) w K
noncomputable def pnc (x:Value) (w:World) (K:Value->World->Prop):Prop:=op P (sv (Instr.panic x)) w K
noncomputable def ext (x:Value) (i:Nat) (w:World) (K:Value->World->Prop):Prop:=op P (sv (Instr.extract x i)) w K
noncomputable def V9 (b:Builtin) (a:List TypeId) (t:TypeId) (cs:List Bool) (xs:List Value) (w:World) (K:Value->World->Prop):Prop:=op P (Go.builtin b a.toArray t cs.toArray xs.toArray) w K
noncomputable def Q0 (f:FuncId) (xs:List Value) (w:World) (K:Value->World->Prop):Prop:=op P (callFunc f xs.toArray) w K
noncomputable def Y8 (f:Value) (xs:List Value) (w:World) (K:Value->World->Prop):Prop:=op P (do let d<-Deferred.ofValue f xs.toArray;invoke d.target d.args) w K
def get (l:List Value) (t:Nat):Value:=l.getD t undef
def ev (l:List Value):Operand->Value
 | .tmp t=>get l t
 | .const v=>v
 | .global g=> .pointer (some ⟨g,0,none⟩)
 | .func f=> .func (.func f) #[] #[]
def put (l:List Value) (d:Option Tmp) (v:Value):List Value:=
 match d with
 | some d=>l.set d v
 | none=>l
def evs (l:List Value) (xs:Array Operand):List Value:=xs.toList.map (ev l)
def evp (l:List Value) (xs:Array (Nat×Operand)):List (Nat×Value):=xs.toList.map fun p=>(p.1,ev l p.2)
def evo (l:List Value) (x:Option Operand):Option Value:=match x with | some x=>some (ev l x) | none=>none
def isC:Operand->Bool | .const _=>true | _=>false
noncomputable def Ep (P:Program) (l:List Value) (o:Oper) (c:Call) (w:World) (K:Value->World->Prop):Prop:=
 match c.callee with
 | .builtin b=>V9 P b c.argTypes.toList o.type (c.args.toList.map isC) (evs l c.args) w K
 | .value (.func f)=>Q0 P f (evs l c.args) w K
 | .value f=>Y8 P (ev l f) (evs l c.args) w K
 | _=>op P (execOp (ev l) o) w K
noncomputable def L7 (P:Program) (l:List Value) (o:Oper) (w:World) (K:Value->World->Prop):Prop:=
 match o.op with
 | .move x=>K (ev l x) w
 | .assign x=>K (ev l x) w
 | .pick c a b=>pick P (ev l c) (ev l a) (ev l b) w K
 | .alloc e=>Qh P e w K
 | .box e x=>box P e (ev l x) w K
 | .build t h=>D7 P t (evp l h) w K
 | .buildSlice t n h=>buildSlice P t n (evp l h) w K
 | .load t a=>Q9 P t (ev l a) w K
 | .store t a x=>M3 P t (ev l a) (ev l x) w K
 | .nilCheck x=>nilCheck P (ev l x) w K
 | .binOp op t x y _=>Y5 P op t x y (ev l x) (ev l y) w K
 | .unOp op _ x=>V1 P op (ev l x) w K
 | .convert s d x=>conv P s d (ev l x) w K
 | .makeInterface t x=>X4J P t (ev l x) w K
 | .makeFunc f first caps=>O8 P f (evs l first) (evs l caps) w K
 | .makeMap t r=>Oz P t (evo l r) w K
 | .makeSlice t n c=>Q2t P t (ev l n) (ev l c) w K
 | .slice t x q p u=>I9 P t (ev l x) (evo l q) (evo l p) (evo l u) w K
 | .fieldAddr t x f=>fieldAddr P t (ev l x) f w K
 | .field t x f=>Nk P t (ev l x) f w K
 | .indexAddr t x i=>indexAddr P t (ev l x) (ev l i) w K
 | .index t x i=>B3 P t (ev l x) (ev l i) w K
 | .lookup t x i ok=>lookup P t (ev l x) (ev l i) ok w K
 | .mapUpdate t m k x=>mapUpdate P t (ev l m) (ev l k) (ev l x) w K
 | .insert t m k x=>mapUpdate P t (ev l m) (ev l k) (ev l x) w K
 | .mapEntry t m k=>mapEntry P t (ev l m) (ev l k) w K
 | .entryStore t m s x=>entryStore P t (ev l m) (ev l s) (ev l x) w K
 | .range t x=>rng P t (ev l x) w K
 | .next g j=>V0 P (ev l g) j o.type w K
 | .extract x i=>ext P (ev l x) i w K
 | .entry g=>X07 P (ev l g) w K
 | .panic x=>pnc P (ev l x) w K
 | .call c=>Ep P l o c w K
 | _=>op P (execOp (ev l) o) w K
theorem Q9R {α β:Type} (f:α->β) (a:Array α):a.map f=(a.toList.map f).toArray:=by rw[<-Array.toList_map,Array.toArray_toList]
theorem X4v (l:List Value) (x:Option Operand):x.map (ev l)=evo l x:=by cases x<;>rfl
theorem Q7c {P:Program} {l:List Value} {o:Oper} {c:Call} {K e:Value->World->Prop} {w:World} (d: ∀v w,K v w->e v w) (h:Ep P l o c w K):Ep P l o c w e:=by
 obtain ⟨a,g,i⟩:=c;cases a with
 | builtin b=>exact Ex d h
 | invoke r m=>exact Ex d h
 | value f=>cases f<;>(simp only[Ep,Y8,Q0] at h⊢;exact Ex d h)
theorem P5 {P:Program} {l:List Value} {o:Oper} {K b:Value->World->Prop} {w:World} (a: ∀v w,K v w->b v w) (h:L7 P l o w K):L7 P l o w b:=by
 obtain ⟨d,p,e,pos,c,g⟩:=o;cases p<;>first | exact a _ _ h | exact Q7c a h | exact Ex a h | (simp only[L7] at h⊢;exact Ex a h)
theorem Q8C {P:Program} {l:List Value} {o:Oper} {K:Value->World->Prop} {w:World} (h:L7 P l o w K):op P (execOp (ev l) o) w K:=by
 unfold L7 at h
 split at h<;>rename_i a
 all_goals first
  | exact h
  | (unfold execOp;rw[a];exact h)
  | (unfold execOp;rw[a];simp only[Q9R,X4v];exact h)
  | (unfold execOp;rw[a,Zw];exact h)
  | skip
 rename_i c;unfold Ep at h
 split at h<;>rename_i b
 .unfold execOp;rw[a];simp only[resolve,b,Q9R]
  simp only[pure_bind,invoke];unfold V9 at h;simp only[Array.toArray_toList] at h;refine (congrArg (fun z=>op P (builtin _ c.argTypes o.type (List.toArray z) _) w K) (List.map_congr_left (fun x _=>?_))).mp h;cases x<;>rfl
 .unfold execOp;rw[a];simp only[resolve,b,Q9R]
  simp only[ev,Deferred.ofValue,pure_bind,invoke]
  simpa [Q0,evs] using h
 .unfold execOp;rw[a];simp only[resolve,b,Q9R]
  exact h
 .exact h
def Oq (v:Value) (b:Bool) (w:World) (a:World->(Value->World->Prop)->Prop) (J:Value->World->Prop):Prop:=
 match v with
 | .bool c=>if c=b then a w J else J undef w
 | _=>J undef w
theorem X1F: ∃f:Value->Bool->World->(World->(Value->World->Prop)->Prop)->(Value->World->Prop)->Prop,f=Oq:=⟨_,rfl⟩
noncomputable def Q1:Value->Bool->World->(World->(Value->World->Prop)->Prop)->(Value->World->Prop)->Prop:=Classical.choose X1F
theorem Rh:Q1=Oq:=Classical.choose_spec X1F
def Q3Z (v:Value) (t e:Prop):Prop:=
 match v with
 | .bool true=>t
 | .bool false=>e
 | _=>False
theorem X1p: ∃f:Value->Prop->Prop->Prop,f=Q3Z:=⟨_,rfl⟩
noncomputable def X0:Value->Prop->Prop->Prop:=Classical.choose X1p
theorem Q7a:X0=Q3Z:=Classical.choose_spec X1p
noncomputable def Z2 (P:Program) (ops:List Oper) (next:List Value->World->Prop):List Oper->List Value->World->Prop
 | [],l,w=>next l w
 | o::a,l,w=>
  match o.guard with
  | none=>L7 P l o w (fun v w=>Z2 P ops next a (put l o.dst v) w)
  | some (j,b)=>match (ops[j]?).bind (·.dst) with
   | some d=>Q1 (get l d) b w (L7 P l o) (fun v w=>Z2 P ops next a (put l o.dst v) w)
   | none=>Z2 P ops next a (put l o.dst undef) w
def Tup:Nat->Type
 | 0=>Unit
 | 1=>Value
 | n+2=>Value×Tup (n+1)
def Em (l:List Value):(a:List Nat)->Tup a.length
 | []=>()
 | [s]=>get l s
 | s::t::r=>(get l s,Em l (t::r))
def Sp (i:Nat) (e:Value):(a:List Nat)->Tup a.length->Value
 | [],_=>e
 | [s],x=>if s=i then x else e
 | s::t::r,x=>if s=i then x.1 else Sp i e (t::r) x.2
def H2 (a b:List Nat) (x:Tup a.length) (d:Nat->Value):Nat->List Value->List Value
 | _,[]=>[]
 | i,v::l=>Sp i (if b.contains i then d i else v) a x::H2 a b x d (i+1) l
def X3Q (α:Type) (x0:α) (w:World) (a:(α->World->Prop)->α->(Nat->Value)->World->Prop):Prop:=
 ∃(I:α->World->Prop) (μ:α->World->Nat),I x0 w/\ ∀x d w,I x w->a (fun b w'=>I b w'/\μ b w'<μ x w) x d w
theorem X3S: ∃f:(α:Type)->α->World->((α->World->Prop)->α->(Nat->Value)->World->Prop)->Prop,f=X3Q:=⟨_,rfl⟩
noncomputable def lp {α:Type}:α->World->((α->World->Prop)->α->(Nat->Value)->World->Prop)->Prop:=Classical.choose X3S α
theorem X3R {α:Type} (x0:α) (w:World) (a:(α->World->Prop)->α->(Nat->Value)->World->Prop):lp x0 w a=X3Q α x0 w a:=
 congrFun (congrFun (congrFun (congrFun (Classical.choose_spec X3S) α) x0) w) a
def X3M (α:Type) (w:World) (A:(α->World->Prop)->World->Prop) (B:α->(Nat->Value)->World->Prop):Prop:=
 ∃I:α->World->Prop,A I w/\ ∀x d w,I x w->B x d w
theorem X3O: ∃f:(α:Type)->World->((α->World->Prop)->World->Prop)->(α->(Nat->Value)->World->Prop)->Prop,f=X3M:=⟨_,rfl⟩
noncomputable def jn {α:Type}:World->((α->World->Prop)->World->Prop)->(α->(Nat->Value)->World->Prop)->Prop:=Classical.choose X3O α
theorem X3N {α:Type} (w:World) (A:(α->World->Prop)->World->Prop) (B:α->(Nat->Value)->World->Prop):jn w A B=X3M α w A B:=
 congrFun (congrFun (congrFun (congrFun (Classical.choose_spec X3O) α) w) A) B
theorem Xg {α:Type} {w:World} {A:(α->World->Prop)->World->Prop} {B:α->(Nat->Value)->World->Prop} (I:α->World->Prop) (h:A I w) (a: ∀x d w,I x w->B x d w):jn w A B:=by
 rw[X3N];exact ⟨I,h,a⟩
theorem Q7u {α:Type} {w:World} {A:(α->World->Prop)->World->Prop} {B:α->(Nat->Value)->World->Prop} (h:jn w A B): ∃I:α->World->Prop,A I w/\ ∀x d w,I x w->B x d w:=by
 rw[X3N] at h;exact h
theorem Uc {α:Type} {x0:α} {w:World} {a:(α->World->Prop)->α->(Nat->Value)->World->Prop} (I:α->World->Prop) (μ:α->World->Nat) (c:I x0 w)
 (e: ∀x d w,I x w->a (fun b w'=>I b w'/\μ b w'<μ x w) x d w):lp x0 w a:=by
 rw[X3R];exact ⟨I,μ,c,e⟩
theorem X1O {α:Type} {x0:α} {w:World} {a:(α->World->Prop)->α->(Nat->Value)->World->Prop} (h:lp x0 w a):
 ∃(I:α->World->Prop) (μ:α->World->Nat),I x0 w/\ ∀x d w,I x w->a (fun b w'=>I b w'/\μ b w'<μ x w) x d w:=by
 rw[X3R] at h;exact h
def R9 (ops:List Oper):List Nat:=ops.filterMap (·.dst)
def Xh:Code->Nat
 | .seq a b=>Xh a+Xh b+1
 | .cond _ a b=>Xh a+Xh b
 | .block _ c=>Xh c
 | .loop c=>Xh c+1
 | .scope c=>Xh c
 | _=>0
def O4 (d:List (Option (List Nat))):Nat->Code->List Nat
 | _, .region _ ops _=>R9 ops.toList
 | k, .seq a b=>(d.getD k none).getD []++(O4 d (k+1) a++O4 d (k+1+Xh a) b)
 | k, .cond _ a b=>O4 d k a++O4 d (k+Xh a) b
 | k, .block _ c=>O4 d k c
 | k, .loop c=>(d.getD k none).getD []++O4 d (k+1) c
 | k, .scope c=>O4 d k c
 | _,_=>[]
abbrev Rq:=Exit->List Value->World->Prop
def thn (next:List Value->World->Prop) (Q:Rq):Rq
 | .normal,a,w=>next a w
 | e,a,w=>Q e a w
def Q4k (id:Nat) (Q:Rq):Rq
 | .exit b,a,w=>if b=id then Q .normal a w else Q (.exit b) a w
 | e,a,w=>Q e a w
noncomputable def Dl (P:Program) (a:List (Option (List Nat))):Nat->Code->Rq->List Value->World->Prop
 | _, .skip,Q,l,w=>Q .normal l w
 | _, .label _,Q,l,w=>Q .normal l w
 | _, .exit id,Q,l,w=>Q (.exit id) l w
 | _, .ret,Q,l,w=>Q .ret l w
 | _, .region _ ops false,Q,l,w=>Z2 P ops.toList (fun l w=>Q .normal l w) ops.toList l w
 | _, .region _ ops true,Q,l,w=> ∀t,Z2 P ops.toList (fun l w=>Q .normal l w) ((Region.schedule (P.follows .mixedOrders) ops t).filterMap (ops[·]?)) l w.drew
 | k, .seq x y,Q,l,w=>match a.getD k none with
  | none=>Dl P a (k+1) x (thn (fun l w=>Dl P a (k+1+Xh x) y Q l w) Q) l w
  | some e=>jn w (fun J w=>Dl P a (k+1) x (thn (fun l' w'=>J (Em l' e) w') Q) l w)
   (fun z d w=>Dl P a (k+1+Xh x) y Q (H2 e (O4 a (k+1) x) z d 0 l) w)
 | k, .cond c x y,Q,l,w=>X0 (ev l c) (Dl P a k x Q l w) (Dl P a (k+Xh x) y Q l w)
 | k, .block id c,Q,l,w=>Dl P a k c (Q4k id Q) l w
 | k, .loop c,Q,l,w=>
  lp (Em l ((a.getD k none).getD [])) w (fun b x d w=>Dl P a (k+1) c (thn (fun l' w'=>b (Em l' ((a.getD k none).getD [])) w') Q) (H2 ((a.getD k none).getD []) (O4 a (k+1) c) x d 0 l) w)
 | _,_,_,_,_=>False
theorem X10 {ops:List Oper} {l:List Value} {o:Oper} {j:Nat} {b:Bool} (e:o.guard=some (j,b)) {d:Nat} (a:(ops[j]?).bind (·.dst)=some d):
 Region.wanted o (yielded ops.toArray l.toArray)=true↔get l d= .bool b:=by
 unfold Region.wanted yielded;rw[e];simp only[List.getElem?_toArray];rw[a];simp only[Option.bind_some,get,List.getD_eq_getElem?_getD]
 have key: ∀x:Option Value,((match x with | some (.bool c)=>some c | _=>none)==some b)=true↔x.getD undef= .bool b:=by
  intro x;cases x with
  | none=>simp[undef]
  | some v=>cases v<;>simp
 exact key _
theorem Q9c {ops:List Oper} {l:List Value} {o:Oper} {j:Nat} {b:Bool} (c:o.guard=some (j,b)) (a:(ops[j]?).bind (·.dst)=none):
 Region.wanted o (yielded ops.toArray l.toArray)=false:=by
 unfold Region.wanted yielded;rw[c];simp only[List.getElem?_toArray];rw[a];rfl
theorem Mu {v:Value} {b:Bool} {a:World->(Value->World->Prop)->Prop} {J:Value->World->Prop} {w:World} (h:Q1 v b w a J):
 (v= .bool b/\a w J)\/(v≠ .bool b/\J undef w):=by
 rw[Rh] at h;unfold Oq at h
 split at h
 .split at h
  .rename_i c;subst c;exact .inl ⟨rfl,h⟩
  .rename_i c;exact .inr ⟨by simp[c],h⟩
 .rename_i d;exact .inr ⟨d b,h⟩
theorem Q1y {v:Value} {b:Bool} {a:World->(Value->World->Prop)->Prop} {J:Value->World->Prop} {w:World}
 (h:(v= .bool b/\a w J)\/(v≠ .bool b/\J undef w)):Q1 v b w a J:=by
 rw[Rh];unfold Oq
 split
 .split
  .rename_i c;subst c
   rcases h with h | h
   .exact h.2
   .exact absurd rfl h.1
  .rename_i c
   rcases h with h | h
   .exact absurd (Value.bool.inj h.1) c
   .exact h.2
 .rename_i d
  rcases h with h | h
  .exact absurd h.1 (d b)
  .exact h.2
theorem Q5d (a:Act):a.eval=ev a.tmps.toList:=by
 funext x
 cases x<;>simp[Act.eval,ev,get,List.getD_eq_getElem?_getD]
theorem X0z (a:Act) (d:Option Tmp) (v:Value):(a.put d v).tmps.toList=put a.tmps.toList d v:=by
 cases d<;>simp[Act.put,put]
theorem X0y (a:Act) (d:Option Tmp) (v:Value):(a.put d v).defers=a.defers:=by
 cases d<;>simp[Act.put]
def lift (Q:Rq):Exit->Act->World->Prop:=fun e a w=>a.defers=[]/\Q e a.tmps.toList w
theorem Q1c (P:Program) (ops:Array Oper) (Q:Exit->Act->World->Prop) (next:List Value->World->Prop)
 (u: ∀a w,a.defers=[]->next a.tmps.toList w->Q .normal a w) (is:List Nat) (s: ∀i∈is,i<ops.size):
 ∀(a:Act) (w:World),a.defers=[]->Z2 P ops.toList next (is.filterMap (ops[·]?)) a.tmps.toList w->wpOps P ops Q is a w:=by
 induction is with
 | nil=>intro a w o h;exact u a w o h
 | cons i is y=>
  intro a w o h;have p:=s i U5;have k:ops[i]? =some ops[i]:=by simp[p]
  rw[List.filterMap_cons,k] at h;simp only[Z2] at h;simp only[wpOps,k];have q:ops.toList.toArray=ops:=by simp
  have r:a.tmps.toList.toArray=a.tmps:=by simp
  have f: ∀{v w},Z2 P ops.toList next (is.filterMap (ops[·]?)) (put a.tmps.toList ops[i].dst v) w->wpOps P ops Q is (a.put ops[i].dst v) w:=by
   intro v w e;refine y (fun j t=>s j (by simp[t])) _ _ (by rw[X0y];exact o) ?_
   rw[X0z];exact e
  have m:L7 P a.tmps.toList ops[i] w (fun v w=>Z2 P ops.toList next (is.filterMap (ops[·]?)) (put a.tmps.toList ops[i].dst v) w)->
   ops[i].wp P a w (wpOps P ops Q is) Q:=by
   intro h;refine X6z ?_;rw[Q5d];exact Ex (fun v w e=>f e) (Q8C h)
  split at h
  .rename_i n
   rw[if_pos (by simp[Region.wanted,n])]
   exact .inl (m h)
  .rename_i j b n
   split at h
   .rename_i d c
    have g:=X10 (ops:=ops.toList) (l:=a.tmps.toList) n c;rw[q,r] at g
    rcases Mu h with ⟨e,h⟩ | ⟨e,h⟩
    .rw[if_pos (g.2 e)];exact .inl (m h)
    .rw[if_neg (fun h=>e (g.1 h))];exact f h
   .rename_i c
    have g:=Q9c (ops:=ops.toList) (l:=a.tmps.toList) n c;rw[q,r] at g;rw[if_neg (by rw[g];simp)];exact f h
theorem Q0o (ops:Array Oper):(List.range ops.size).filterMap (ops[·]?)=ops.toList:=by
 apply List.ext_getElem?;intro i;rw[<-Array.length_toList]
 have: ∀l:List Oper,(List.range l.length).filterMap (l[·]?)=l:=by
  intro l
  induction l with
  | nil=>rfl
  | cons x l a=>
   rw[List.length_cons,List.range_succ_eq_map,List.filterMap_cons];simp only[List.getElem?_cons_zero,List.filterMap_map]
   congr 1
 have h:=this ops.toList;simp only[Array.getElem?_toList] at h;rw[h]
theorem Q3j (b:Bool) (ops:Array Oper) (t:Nat): ∀i∈Region.schedule b ops t,i<ops.size:=by
 have key: ∀m c t a e,(∀i∈e,i<ops.size)-> ∀i∈Region.linearise.go m ops c t a e,i<ops.size:=by
  intro m c
  induction c with
  | zero=>intro t a e h i d;simp[Region.linearise.go] at d;exact h i d
  | succ c g=>
   intro t a e h i d;simp only[Region.linearise.go] at d
   split at d
   .rename_i j f
    refine g _ _ _ ?_ i d;intro k hk
    rcases List.mem_cons.1 hk with rfl | hk
    .have:=List.mem_of_getElem? f
     simp only[List.mem_filter,List.mem_range] at this;exact this.1
    .exact h k hk
   .simp at d;exact h i d
 intro i d;unfold Region.schedule at d
 split at d
 .exact key _ _ _ _ _ U5 i d
 .exact key _ _ _ _ _ U5 i d
def Qz (W:List Nat) (l l':List Value):Prop:=l'.length=l.length/\ ∀i,W.contains i=false->l'[i]? =l[i]?
theorem Qz.refl (W:List Nat) (l:List Value):Qz W l l:=⟨rfl,fun _ _=>rfl⟩
theorem Qz.trans {W:List Nat} {a b c:List Value} (h:Qz W a b) (k:Qz W b c):Qz W a c:=
 ⟨k.1.trans h.1,fun i d=>(k.2 i d).trans (h.2 i d)⟩
theorem Ci (a c:List Nat) (x:Tup a.length) (d:Nat->Value) (l:List Value): ∀i,(H2 a c x d i l).length=l.length:=by
 induction l with
 | nil=>intro i;rfl
 | cons v l b=>intro i;simp[H2,b]
theorem Fk (a b:List Nat) (x:Tup a.length) (d:Nat->Value) (l:List Value): ∀i j,(H2 a b x d i l)[j]? =(l[j]?).map fun v=>Sp (i+j) (if b.contains (i+j) then d (i+j) else v) a x:=by
 induction l with
 | nil=>intro i j;simp[H2]
 | cons v l c=>
  intro i j;cases j with
  | zero=>simp[H2]
  | succ j=>simp only[H2,List.getElem?_cons_succ,c];rw[show i+1+j=i+(j+1) from by omega]
theorem Ll (i:Nat) (e:Value): ∀(b:List Nat) (x:Tup b.length),b.contains i=false->Sp i e b x=e
 | [],_,_=>rfl
 | [s],x,h=>by
  have a: ¬s=i:=by intro a;subst a;simp at h
  exact if_neg a
 | s::t::r,x,h=>by
  simp only[Sp]
  split
  .rename_i a;subst a;simp at h
  .refine Ll i e (t::r) x.2 ?_
   simp only[List.contains_cons,Bool.or_eq_false_iff] at h⊢;exact h.2
theorem Q8m (l:List Value) (i:Nat) (e c:Value): ∀(b:List Nat),b.contains i=true->Sp i e b (Em l b)=get l i
 | [],h=>by simp at h
 | [s],h=>by
  simp only[List.contains_cons,List.contains_nil,Bool.or_false,beq_iff_eq] at h;subst h;simp[Sp,Em]
 | s::t::r,h=>by
  simp only[Sp,Em]
  split
  .rename_i a;subst a;rfl
  .rename_i a
   refine Q8m l i e c (t::r) ?_;simp only[List.contains_cons,Bool.or_eq_true,beq_iff_eq] at h⊢
   rcases h with h | h
   .exact absurd h.symm a
   .exact h
theorem Po (a c:List Nat) (l l':List Value) (j:l'.length=l.length)
 (h: ∀i,a.contains i=false->c.contains i=false->l'[i]? =l[i]?):l'=H2 a c (Em l' a) (get l') 0 l:=by
 apply List.ext_getElem?;intro i;rw[Fk];simp only[Nat.zero_add];cases d:l[i]? with
 | none=>
  have:=List.getElem?_eq_none_iff.1 d;simp only[Option.map_none];exact List.getElem?_eq_none Q4
 | some v=>
  have m:i<l.length:=(List.getElem?_eq_some_iff.1 d).1
  have g:l'[i]? =some (get l' i):=by
   simp only[get,List.getD_eq_getElem?_getD];rw[List.getElem?_eq_getElem Q4];rfl
  rw[g];simp only[Option.map_some,Option.some.injEq]
  by_cases k:a.contains i=true
  .rw[Q8m l' i _ undef a k]
  .have b:a.contains i=false:=by simpa using k
   rw[Ll _ _ _ _ b]
   by_cases e:c.contains i=true
   .rw[if_pos e]
   .have f:c.contains i=false:=by simpa using e
    rw[if_neg e];have:=h i b f;rw[g,d] at this;exact Option.some.inj this
theorem Q5O {v:Value} {t e b a:Prop} (d:t->b) (c:e->a) (h:X0 v t e):X0 v b a:=by
 rw[Q7a] at*;unfold Q3Z at*
 split at h
 .exact d h
 .exact c h
 .exact h.elim
theorem Uk (P:Program) (c:List Oper) (next b:List Value->World->Prop) (W:List Nat) (k:List Value): ∀(ops:List Oper) (l:List Value) (w:World),
 (∀o∈ops,∀d,o.dst=some d->W.contains d=true)->Qz W k l->(∀l w,next l w->Qz W k l->b l w)->Z2 P c next ops l w->Z2 P c b ops l w
 | [],l,w,_,j,p,h=>p l w h j
 | o::f,l,w,q,j,p,h=>by
  have g: ∀v,Qz W k (put l o.dst v):=by
   intro v;cases t:o.dst with
   | none=>exact j
   | some d=>
    have s:=q o U5 d t;refine j.trans ⟨by simp[put],fun i r=>?_⟩
    have:d≠i:=by intro e;subst e;rw[s] at r;cases r
    simp[put,this]
  have a: ∀v w,Z2 P c next f (put l o.dst v) w->Z2 P c b f (put l o.dst v) w:=fun v w y=>
   Uk P c next b W k f _ w (fun o u=>q o (by simp[u])) (g v) p y
  simp only[Z2] at h⊢
  split at h
  .exact P5 a h
  .split at h
   .refine Q1y ((Mu h).imp (fun ⟨m,n⟩=>⟨m,P5 a n⟩) (fun ⟨m,n⟩=>⟨m,a _ _ n⟩))
   .exact a _ _ h
theorem Q67 {α:Type} {x0:α} {c b:(α->World->Prop)->α->(Nat->Value)->World->Prop} {w:World}
 (f: ∀a x d w,c a x d w->b a x d w) (h:lp x0 w c):lp x0 w b:=by
 obtain ⟨I,μ,e,g⟩:=X1O h;exact Uc I μ e fun x d w i=>f _ _ _ _ (g x d w i)
theorem A8 {a b:List Nat} {i:Nat} (h:a.contains i=true):(a++b).contains i=true:=by simp at h⊢;exact .inl h
theorem S9 {a b:List Nat} {i:Nat} (h:b.contains i=true):(a++b).contains i=true:=by simp at h⊢;exact .inr h
theorem Q5R (P:Program) (q:List (Option (List Nat))) (c:Code): ∀(k:Nat) (Q A:Rq) (W:List Nat) (m l:List Value) (w:World),
 (∀i,(O4 q k c).contains i=true->W.contains i=true)->Qz W m l->
 (∀e l w,Q e l w->Qz W m l->A e l w)->Dl P q k c Q l w->Dl P q k c A l w:=by
 induction c with
 | skip=>intro k Q A W m l w _ g j h;exact j _ _ _ h g
 | label n=>intro k Q A W m l w _ g j h;exact j _ _ _ h g
 | exit id=>intro k Q A W m l w _ g j h;exact j _ _ _ h g
 | ret=>intro k Q A W m l w _ g j h;exact j _ _ _ h g
 | goto n=>intro k Q A W m l w _ g j h;exact h.elim
 | refuse s=>intro k Q A W m l w _ g j h;exact h.elim
 | scope c=>intro k Q A W m l w _ g j h;exact h.elim
 | rangeFunc f p a b=>intro k Q A W m l w _ g j h;exact h.elim
 | region id ops L=>
  intro k Q A W m l w B g j h
  have O: ∀o∈ops.toList,∀d,o.dst=some d->W.contains d=true:=by
   intro o R d hd;refine B d ?_;simp only[O4,R9,List.contains_eq_mem,List.mem_filterMap,decide_eq_true_eq];exact ⟨o,R,hd⟩
  cases L with
  | false=>exact Uk P _ _ _ W m _ _ _ O g (fun l w X g=>j _ _ _ X g) h
  | true=>
   intro t;refine Uk P _ _ _ W m _ _ _ ?_ g (fun l w X g=>j _ _ _ X g) (h t);intro o R;simp only[List.mem_filterMap] at R;obtain ⟨i,_,r⟩:=R;exact O o (by simpa using Array.mem_of_getElem? r)
 | seq x y D E=>
  intro k Q A W m l w B g j h;have Z: ∀i,(O4 q (k+1) x).contains i=true->W.contains i=true:=fun i r=>B i (S9 (A8 r));have hy: ∀i,(O4 q (k+1+Xh x) y).contains i=true->W.contains i=true:=fun i r=>B i (S9 (S9 r));simp only[Dl] at h⊢
  split at h
  .refine D _ _ _ W m l w Z g ?_ h
   intro e l' w' C u;cases e with
   | normal=>exact E _ _ _ W m l' w' hy u j C
   | _=>exact j _ _ _ C u
  .rename_i sl Y
   obtain ⟨J,M,N⟩:=Q7u h;refine Xg J (D _ _ _ W m l w Z g ?_ M) fun z d w hz=>?_
   .intro e l' w' C u
    cases e with
    | normal=>exact C
    | _=>exact j _ _ _ C u
   .refine E _ _ _ W m _ w hy (g.trans ⟨Ci _ _ _ _ _ _,fun i r=>?_⟩) j (N z d w hz)
    rw[Fk]
    have M:sl.contains i=false:=by
     cases H:sl.contains i with
     | false=>rfl
     | true=>rw[B i (A8 (by rw[Y];exact H))] at r;cases r
    have N:(O4 q (k+1) x).contains i=false:=by
     cases H:(O4 q (k+1) x).contains i with
     | false=>rfl
     | true=>rw[Z i H] at r;cases r
    simp only[Nat.zero_add];cases hl:l[i]? with
    | none=>rfl
    | some v=>simp only[Option.map_some,Ll _ _ _ _ M,N,Bool.false_eq_true,if_false]
 | cond c x y D E=>
  intro k Q A W m l w B g j h;exact Q5O (D k _ _ W m l w (fun i r=>B i (A8 r)) g j) (E _ _ _ W m l w (fun i r=>B i (S9 r)) g j) h
 | block id c ih=>
  intro k Q A W m l w B g j h;refine ih k _ _ W m l w B g ?_ h;intro e l' w' C u;cases e with
  | exit ah=>simp only[Q4k] at C⊢;split<;>rename_i V<;>simp only[V,if_true,if_false] at C<;>exact j _ _ _ C u
  | _=>exact j _ _ _ C u
 | loop c ih=>
  intro k Q A W m l w B g j h;refine Q67 (fun U x d w hb=>?_) h;refine ih _ _ _ W m _ _ (fun i r=>B i (S9 r)) ?_ ?_ hb
  .refine g.trans ⟨Ci _ _ _ _ _ _,fun i r=>?_⟩
   rw[Fk]
   have M:((q.getD k none).getD []).contains i=false:=by
    cases H:((q.getD k none).getD []).contains i with
    | false=>rfl
    | true=>rw[B i (A8 H)] at r;cases r
   have N:(O4 q (k+1) c).contains i=false:=by
    cases H:(O4 q (k+1) c).contains i with
    | false=>rfl
    | true=>rw[B i (S9 H)] at r;cases r
   simp only[Nat.zero_add];cases hl:l[i]? with
   | none=>rfl
   | some v=>simp only[Option.map_some,Ll _ _ _ _ M,N,Bool.false_eq_true,if_false]
  .intro e l' w' C u
   cases e with
   | normal=>exact C
   | _=>exact j _ _ _ C u
theorem X1q (P:Program) (g:List (Option (List Nat))) (c:Code): ∀(k:Nat) (Q:Rq) (a:Act) (w:World),
 a.defers=[]->Dl P g k c Q a.tmps.toList w->c.wp P (lift Q) a w:=by
 induction c with
 | skip=>intro k Q a w j h;exact wp_skip ⟨j,h⟩
 | label n=>intro k Q a w j h;exact wp_label ⟨j,h⟩
 | exit id=>intro k Q a w j h;exact wp_exit ⟨j,h⟩
 | ret=>intro k Q a w j h;exact wp_ret ⟨j,h⟩
 | goto n=>intro k Q a w j h;exact h.elim
 | refuse s=>intro k Q a w j h;exact h.elim
 | scope c=>intro k Q a w j h;exact h.elim
 | rangeFunc f p a b=>intro k Q a w j h;exact h.elim
 | region id ops A=>
  intro k Q a w j h;cases A with
  | false=>
   refine wp_region (Q1c P ops _ _ (fun a w j h=>⟨j,h⟩) _ U5 a w j ?_);rw[Q0o];exact h
  | true=>
   refine wp_region_draw fun t=>?_;exact Q1c P ops _ _ (fun a w j h=>⟨j,h⟩) _ (Q3j _ _ _) a _ j (h t)
 | seq x y r u=>
  intro k Q a w j h;simp only[Dl] at h
  split at h
  .refine wp_seq (wp_mono (r _ _ a w j h) ?_)
   intro e o w' ⟨m,q⟩;cases e with
   | normal=>exact u _ _ o w' m q
   | _=>exact ⟨m,q⟩
  .rename_i Y ad
   obtain ⟨J,L,B⟩:=Q7u h;have H:=Q5R P g x (k+1) _ (fun e l' w'=>thn (fun l' w'=>J (Em l' Y) w') Q e l' w'/\Qz (O4 g (k+1) x) a.tmps.toList l') (O4 g (k+1) x) a.tmps.toList a.tmps.toList w (fun _ h=>h) (Qz.refl _ _) (fun e l w h N=>⟨h,N⟩) L;refine wp_seq (wp_mono (r (k+1) _ a w j H) ?_);intro e o w' ⟨m,q,C⟩;cases e with
   | normal=>
    refine u (k+1+Xh x) _ o w' m ?_;rw[Po Y (O4 g (k+1) x) a.tmps.toList o.tmps.toList C.1 (fun i _ h=>C.2 i h)];exact B _ _ _ q
   | _=>exact ⟨m,q⟩
 | cond c x y r u=>
  intro k Q a w j h;simp only[Dl,Q7a,Q3Z] at h
  split at h
  .rename_i W
   exact wp_cond_true (by rw[Q5d];exact W) (r _ _ _ _ j h)
  .rename_i W
   exact wp_cond_false (by rw[Q5d];exact W) (u _ _ _ _ j h)
  .exact h.elim
 | block id c X=>
  intro k Q a w j h;refine wp_block (wp_mono (X k _ a w j h) ?_);intro e o w' ⟨m,q⟩;cases e with
  | exit ae=>
   simp only[Q4k,Exit.inBlock] at q⊢
   split<;>rename_i V<;>simp only[V,if_true,if_false] at q<;>exact ⟨m,q⟩
  | _=>exact ⟨m,q⟩
 | loop c X=>
  intro k Q a w j h;obtain ⟨I,μ,h0,hr⟩:=X1O h;refine wp_loop (fun o w'=>o.defers=[]/\(∃d,o.tmps.toList=H2 ((g.getD k none).getD []) (O4 g (k+1) c) (Em o.tmps.toList ((g.getD k none).getD [])) d 0 a.tmps.toList)/\I (Em o.tmps.toList ((g.getD k none).getD [])) w') (fun o w'=>μ (Em o.tmps.toList ((g.getD k none).getD [])) w') ⟨j,⟨get a.tmps.toList,Po _ _ _ _ rfl (fun _ _ _=>rfl)⟩,h0⟩ ?_;intro z w1 ⟨U,⟨d1,v⟩,M⟩;have O:=hr _ d1 w1 M;dsimp only at O;rw[<-v] at O;have R:=Q5R P g c (k+1) _ (fun e l' w'=>thn (fun l' w'=>I (Em l' ((g.getD k none).getD [])) w'/\μ (Em l' ((g.getD k none).getD [])) w'<μ (Em z.tmps.toList ((g.getD k none).getD [])) w1) Q e l' w'/\Qz (O4 g (k+1) c) z.tmps.toList l') (O4 g (k+1) c) z.tmps.toList z.tmps.toList w1 (fun _ h=>h) (Qz.refl _ _) (fun e l w h N=>⟨h,N⟩) O;refine wp_mono (X _ _ z w1 U R) ?_;intro e Z w2 ⟨E,B,D⟩;cases e with
  | normal=>
   refine ⟨⟨E,⟨get Z.tmps.toList,Po _ _ _ _ ?_ ?_⟩,B.1⟩,B.2⟩
   .rw[D.1,v,Ci]
   .intro i L H
    rw[D.2 i H,v,Fk];simp only[Nat.zero_add,Ll _ _ _ _ L,H,Bool.false_eq_true,if_false,Option.map_id']
  | _=>exact ⟨E,B⟩
def X0T:List Value->Nat->Value->(List Value->Prop)->Prop
 | [],_,_,k=>k []
 | _::l,0,v,k=>k (v::l)
 | x::l,n+1,v,k=>X0T l n v (fun l'=>k (x::l'))
def Q5o (l:List Value) (d:Option Tmp) (v:Value) (k:List Value->Prop):Prop:=
 match d with
 | some d=>X0T l d v k
 | none=>k l
def X0e:List Value->Nat->(Value->Prop)->Prop
 | [],_,k=>k undef
 | x::_,0,k=>k x
 | _::l,n+1,k=>X0e l n k
def evK (l:List Value) (o:Operand) (k:Value->Prop):Prop:=
 match o with
 | .tmp t=>X0e l t k
 | .const v=>k v
 | .global g=>k (.pointer (some ⟨g,0,none⟩))
 | .func f=>k (.func (.func f) #[] #[])
def Q4P (i:Nat) (e:Value):(a:List Nat)->Tup a.length->(Value->Prop)->Prop
 | [],_,k=>k e
 | [s],x,k=>if s=i then k x else k e
 | s::t::r,x,k=>if s=i then k x.1 else Q4P i e (t::r) x.2 k
def Im (a b:List Nat) (x:Tup a.length) (d:Nat->Value):Nat->List Value->(List Value->Prop)->Prop
 | _,[],k=>k []
 | i,v::l,k=>match b.contains i with
  | true=>Q4P i (d i) a x (fun u=>Im a b x d (i+1) l (fun l'=>k (u::l')))
  | false=>Q4P i v a x (fun u=>Im a b x d (i+1) l (fun l'=>k (u::l')))
theorem X52 (l:List Value): ∀(n:Nat) (v:Value) (k:List Value->Prop),X0T l n v k=k (l.set n v):=by
 induction l with
 | nil=>intro n v k;rfl
 | cons x l a=>intro n v k;cases n with
  | zero=>rfl
  | succ n=>simp only[X0T,a,List.set_cons_succ]
theorem Q9z (l:List Value) (d:Option Tmp) (v:Value) (k:List Value->Prop):Q5o l d v k=k (put l d v):=by
 cases d with
 | none=>rfl
 | some d=>exact X52 l d v k
theorem X4D (l:List Value): ∀(n:Nat) (k:Value->Prop),X0e l n k=k (get l n):=by
 induction l with
 | nil=>intro n k;rfl
 | cons x l a=>intro n k;cases n with
  | zero=>rfl
  | succ n=>simp only[X0e,a];rfl
theorem X5H (l:List Value) (o:Operand) (k:Value->Prop):evK l o k=k (ev l o):=by
 cases o with
 | tmp t=>exact X4D l t k
 | _=>rfl
theorem Q2a (i:Nat) (e:Value) (k:Value->Prop): ∀(a:List Nat) (x:Tup a.length),Q4P i e a x k=k (Sp i e a x)
 | [],_=>rfl
 | [s],x=>by
  by_cases h:s=i
  .exact (if_pos h).trans (congrArg k (if_pos h).symm)
  .exact (if_neg h).trans (congrArg k (if_neg h).symm)
 | s::t::r,x=>by
  by_cases h:s=i
  .exact (if_pos h).trans (congrArg k (if_pos h).symm)
  .exact ((if_neg h).trans (Q2a i e k (t::r) x.2)).trans (congrArg k (if_neg h).symm)
theorem Q5Y (a c:List Nat) (x:Tup a.length) (d:Nat->Value) (l:List Value): ∀(i:Nat) (k:List Value->Prop),Im a c x d i l k=k (H2 a c x d i l):=by
 induction l with
 | nil=>intro i k;rfl
 | cons v l b=>
  intro i k;simp only[Im,H2]
  split
  .rename_i h;rw[Q2a,b,if_pos h]
  .rename_i h;rw[Q2a,b,if_neg (by rw[h];simp)]
theorem Fj (b c a:List Nat) (h: ∀i,c.contains i=a.contains i) (x:Tup b.length) (d:Nat->Value) (l:List Value): ∀i,H2 b c x d i l=H2 b a x d i l:=by
 induction l with
 | nil=>intro i;rfl
 | cons v l e=>intro i;simp only[H2,e,h]
noncomputable def T5 (P:Program) (ops:List Oper) (next:List Value->World->Prop):List Oper->List Value->World->Prop
 | [],l,w=>next l w
 | o::a,l,w=>
  match o.guard with
  | none=>match o.op with
   | .move x=>evK l x fun v=>Q5o l o.dst v fun l=>T5 P ops next a l w
   | .assign x=>evK l x fun v=>Q5o l o.dst v fun l=>T5 P ops next a l w
   | _=>L7 P l o w (fun v w=>Q5o l o.dst v fun l=>T5 P ops next a l w)
  | some (j,b)=>match (ops[j]?).bind (·.dst) with
   | some d=>Q1 (get l d) b w (L7 P l o) (fun v w=>Q5o l o.dst v fun l=>T5 P ops next a l w)
   | none=>Q5o l o.dst undef fun l=>T5 P ops next a l w
theorem Se (P:Program) (ops:List Oper) (next:List Value->World->Prop) (os:List Oper): ∀(l:List Value) (w:World),T5 P ops next os l w=Z2 P ops next os l w:=by
 induction os with
 | nil=>intro l w;rfl
 | cons o c a=>
  intro l w;obtain ⟨dst,p,e,pos,d,g⟩:=o;cases g with
  | none=>cases p<;>simp only[T5,Z2,Q9z,X5H,a,L7]
  | some q=>obtain ⟨j,b⟩:=q;simp only[T5,Z2,Q9z,a]
def Wv (T:World->World->Prop) (φ:Value->World->Prop):Prop:= ∀v w w',φ v w->T w w'->φ v w'
def dk (T:World->World->Prop) (φ:Value->World->Prop) (w:World):Value->World->Prop:=fun v w'=>T w w'/\φ v w'
def Q7f (T:World->World->Prop) (A:(Value->World->Prop)->Prop) (a:(Value->World->Prop)->Prop):Prop:=
 ∃φ,Wv T φ/\A φ/\a φ
theorem X1s: ∃f:(World->World->Prop)->((Value->World->Prop)->Prop)->((Value->World->Prop)->Prop)->Prop,f=Q7f:=⟨_,rfl⟩
noncomputable def J8:(World->World->Prop)->((Value->World->Prop)->Prop)->((Value->World->Prop)->Prop)->Prop:=Classical.choose X1s
theorem X1r:J8=Q7f:=Classical.choose_spec X1s
def X06 (w:World) (A:(World->World->Prop)->(World->Prop)->Prop):Prop:= ∃T B,B w.drew/\(∀w w',B w->T w w'->B w')/\A T B
theorem X3F: ∃f:World->((World->World->Prop)->(World->Prop)->Prop)->Prop,f=X06:=⟨_,rfl⟩
noncomputable def dr:World->((World->World->Prop)->(World->Prop)->Prop)->Prop:=Classical.choose X3F
theorem X3E:dr=X06:=Classical.choose_spec X3F
theorem Q43 {w:World} {A:(World->World->Prop)->(World->Prop)->Prop} (T:World->World->Prop) (B:World->Prop) (h:B w.drew) (b: ∀w w',B w->T w w'->B w') (a:A T B):dr w A:=by
 rw[X3E];exact ⟨T,B,h,b,a⟩
theorem H4 {T:World->World->Prop} {A a:(Value->World->Prop)->Prop} (φ:Value->World->Prop) (c:Wv T φ) (h:A φ) (b:a φ):J8 T A a:=by
 rw[X1r];exact ⟨φ,c,h,b⟩
def Q5a (T:World->World->Prop) (A a:(List Value->Value->World->Prop)->Prop):Prop:=
 ∃φ,(∀xs,Wv T (φ xs))/\A φ/\a φ
theorem Q9r: ∃f:(World->World->Prop)->((List Value->Value->World->Prop)->Prop)->((List Value->Value->World->Prop)->Prop)->Prop,f=Q5a:=⟨_,rfl⟩
noncomputable def Q7g:(World->World->Prop)->((List Value->Value->World->Prop)->Prop)->((List Value->Value->World->Prop)->Prop)->Prop:=Classical.choose Q9r
theorem Q9q:Q7g=Q5a:=Classical.choose_spec Q9r
theorem X4p {T:World->World->Prop} {A a:(List Value->Value->World->Prop)->Prop} (φ:List Value->Value->World->Prop) (c: ∀xs,Wv T (φ xs)) (h:A φ) (b:a φ):Q7g T A a:=by
 rw[Q9q];exact ⟨φ,c,h,b⟩
abbrev Iv:=Nat×Nat
def Ap (a:Nat->Iv):Prop:= ∀i j,i≠j->(a i).2<=(a j).1\/(a j).2<=(a i).1
def dkR (T:World->World->Prop) (φ:Iv->Value->World->Prop) (w:World):Value->World->Prop:=fun v w'=>T w w'/\φ (w.heap.size,w'.heap.size) v w'
def Q59 (T:(Nat->Iv)->World->World->Prop) (j:Nat) (A a:(Iv->Value->World->Prop)->Prop):Prop:=
 ∃φ,(∀b,Ap b->Wv (T b) (φ (b j)))/\A φ/\a φ
theorem Q9p: ∃f:((Nat->Iv)->World->World->Prop)->Nat->((Iv->Value->World->Prop)->Prop)->((Iv->Value->World->Prop)->Prop)->Prop,f=Q59:=⟨_,rfl⟩
noncomputable def X2K:((Nat->Iv)->World->World->Prop)->Nat->((Iv->Value->World->Prop)->Prop)->((Iv->Value->World->Prop)->Prop)->Prop:=Classical.choose Q9p
theorem X4o:X2K=Q59:=Classical.choose_spec Q9p
def Q58 (T:(Nat->Iv)->World->World->Prop) (A a:(Value->World->Prop)->Prop):Prop:=
 ∃φ,(∀b,Ap b->Wv (T b) φ)/\A φ/\a φ
theorem Q9o: ∃f:((Nat->Iv)->World->World->Prop)->((Value->World->Prop)->Prop)->((Value->World->Prop)->Prop)->Prop,f=Q58:=⟨_,rfl⟩
noncomputable def X2J:((Nat->Iv)->World->World->Prop)->((Value->World->Prop)->Prop)->((Value->World->Prop)->Prop)->Prop:=Classical.choose Q9o
theorem X4n:X2J=Q58:=Classical.choose_spec Q9o
def Q3x (T:(Nat->Iv)->World->World->Prop) (A a:(List Value->Value->World->Prop)->Prop):Prop:=
 ∃φ,(∀xs b,Ap b->Wv (T b) (φ xs))/\A φ/\a φ
theorem Q7h: ∃f:((Nat->Iv)->World->World->Prop)->((List Value->Value->World->Prop)->Prop)->((List Value->Value->World->Prop)->Prop)->Prop,f=Q3x:=⟨_,rfl⟩
noncomputable def X04:((Nat->Iv)->World->World->Prop)->((List Value->Value->World->Prop)->Prop)->((List Value->Value->World->Prop)->Prop)->Prop:=Classical.choose Q7h
theorem X2L:X04=Q3x:=Classical.choose_spec Q7h
def Q7i (w:World) (A:((Nat->Iv)->World->World->Prop)->(World->Prop)->Prop):Prop:= ∃T B,B w.drew/\(∀a w w',B w->T a w w'->B w')/\(∀a w w',T a w w'->w.heap.size<=w'.heap.size)/\A T B
theorem X1t: ∃f:World->(((Nat->Iv)->World->World->Prop)->(World->Prop)->Prop)->Prop,f=Q7i:=⟨_,rfl⟩
noncomputable def drR:World->(((Nat->Iv)->World->World->Prop)->(World->Prop)->Prop)->Prop:=Classical.choose X1t
theorem X5E:drR=Q7i:=Classical.choose_spec X1t
def Nc:Bool->((Nat->Iv)->Prop)->Prop
 | false,k=>k fun _=>(0,0)
 | true,k=> ∀a:Nat->Iv,Ap a->k a
def OkI:Bool->(Nat->Iv)->Prop
 | false,a=>a=fun _=>(0,0)
 | true,a=>Ap a
def Ek:Bool->World->Nat
 | false,_=>0
 | true,w=>w.heap.size
theorem Q6X {r:Bool} {k:(Nat->Iv)->Prop} (h:Nc r k) {b:Nat->Iv} (a:OkI r b):k b:=by
 cases r with
 | false=>have a:b=_:=a;subst a;exact h
 | true=>exact h b a
def Fb (r:Bool) (a:Nat->Iv) (w:World):Prop:=OkI r a/\ ∀q,(a q).2<=Ek r w
theorem Fb.init {r:Bool} {w:World}:Fb r (fun _=>(0,0)) w:=⟨by cases r<;>first | rfl | exact fun _ _ _=> .inl (Nat.le_refl _),fun _=>Nat.zero_le _⟩
theorem Fb.step {r:Bool} {c:Nat->Iv} {w w':World} (h:Fb r c w) (g:Ek r w<=Ek r w') (q:Nat):Fb r (fun n=>if n=q then (Ek r w,Ek r w') else c n) w':=by
 obtain ⟨a,d⟩:=h;refine ⟨?_,fun n=>?_⟩
 .cases r with
  | false=>
   have a:c=_:=a;subst a
   funext n
   simp[Ek]
  | true=>
   intro i j b;have a:Ap c:=a;simp only
   by_cases e:i=q
   .subst e
    rw[if_pos rfl,if_neg (Ne.symm b)];exact .inr (d j)
   .rw[if_neg e]
    by_cases f:j=q
    .subst f
     rw[if_pos rfl];exact .inl (d i)
    .rw[if_neg f]
     exact a i j b
 .simp only
  split
  .exact Nat.le_refl _
  .exact Nat.le_trans (d n) g
noncomputable def runOp (P:Program) (ops:List Oper) (l:List Value) (o:Oper) (w:World) (K:Value->World->Prop):Prop:=
 match o.guard with
 | none=>L7 P l o w K
 | some (j,b)=>match (ops[j]?).bind (·.dst) with
  | some d=>Q1 (get l d) b w (L7 P l o) K
  | none=>False
inductive Ent where
  | val (v : Value)
  | ref (j : Nat)
def Ent.at (u:Nat->Value):Ent->Value
 | .val v=>v
 | .ref j=>u j
def K0 (u:Nat->Value) (S:List Ent):List Value:=S.map (Ent.at u)
def getE:List Ent->Nat->Ent
 | [],_=> .val undef
 | x::_,0=>x
 | _::l,n+1=>getE l n
def entOf (S:List Ent):Operand->Ent
 | .tmp t=>getE S t
 | .const v=> .val v
 | .global g=> .val (.pointer (some ⟨g,0,none⟩))
 | .func f=> .val (.func (.func f) #[] #[])
def mv (o:Oper):Option Operand:=
 match o.guard with
 | some _=>none
 | none=>match o.op with
  | .move x=>some x
  | .assign x=>some x
  | _=>none
def Q3O:List Ent->Nat->Ent->List Ent
 | [],_,_=>[]
 | _::l,0,e=>e::l
 | x::l,n+1,e=>x::Q3O l n e
def putE (S:List Ent) (d:Option Nat) (e:Ent):List Ent:=
 match d with
 | some d=>Q3O S d e
 | none=>S
def C3 (o:Oper):List Nat:=o.op.operands.toList.filterMap fun | .tmp t=>some t | _=>none
def H5 (ops:List Oper) (o:Oper):List Nat:=
 match o.guard with
 | none=>[]
 | some (j,_)=>match (ops[j]?).bind (·.dst) with | some d=>[d] | none=>[]
def Q2l:List Nat->List Nat
 | []=>[]
 | x::l=>x::(Q2l l).filter (fun y=> !(y==x))
def Q6L:Ent->List Nat
 | .ref j=>[j]
 | .val _=>[]
def Q2v (S:List Ent):List Nat->List Nat
 | []=>[]
 | s::l=>Q6L (getE S s)++Q2v S l
def refs (ops:List Oper) (S:List Ent) (o:Oper):List Nat:=Q2l (Q2v S (H5 ops o++C3 o))
def Lt:List Nat->(Nat->Value)->((Nat->Value)->Prop)->Prop
 | [],u,k=>k u
 | j::a,u,k=> ∀t:Value,Lt a (fun n=>if n=j then t else u n) k
abbrev Sv:=List (Nat×List Nat×(List Value->Iv->Value->World->Prop))
def Wl:Sv->Nat->Option (List Nat×(List Value->Iv->Value->World->Prop))
 | [],_=>none
 | (i,φ)::l,j=>if i=j then some φ else Wl l j
def Lw (c:Sv) (u:Nat->Value) (b:Nat->Iv) (w:World) (a:Prop):List Nat->Prop
 | []=>a
 | j::d=>match Wl c j with
  | some ([],φ)=>φ [] (b j) (u j) w->Lw c u b w a d
  | _=>Lw c u b w a d
def Q2o (c:Sv) (u:Nat->Value) (b:Nat->Iv) (w:World) (a:Prop):List Nat->Prop
 | []=>a
 | j::d=>match Wl c j with
  | some (R,φ)=>φ (R.map u) (b j) (u j) w->Q2o c u b w a d
  | none=>Q2o c u b w a d
def Q7r (o:Oper):Bool:=match o.op with | .store .. =>true | _=>false
def Q1C (o:Oper):Bool:=match o.op with | .call c=>(match c.callee with | .value (.func _)=>true | _=>false) | _=>false
def X73 (o:Oper):Bool:=match o.op with | .build .. =>true | _=>false
def X2T (o:Oper):Bool:=match o.op with | .call c=>(match c.callee with | .builtin .append=>true | _=>false) | _=>false
def Eu (o:Oper):Bool:=match o.op with | .alloc .. =>true | _=>false
def X0r (r:Bool) (o:Oper):Bool:=match r with | true=>Q1C o||X2T o||Eu o | false=>false
abbrev ivZ:Nat->Iv:=fun _=>(0,0)
def X0s (r:Bool) (o:Oper):Bool:=match r with | true=>Q7r o||X73 o | false=>Q7r o
noncomputable def chain (P:Program) (r:Bool) (ops:List Oper) (T:(Nat->Iv)->World->World->Prop) (B:World->Prop) (V0:List Value->World->Prop) (tail:List Oper):Nat->List Oper->List Ent->Sv->List Nat->Prop
 | _,[],S,c,done=>Lt done (fun _=>undef) fun u=>Nc r fun b=> ∀w,B w->Q2o c u b w (T5 P ops V0 tail (K0 u S) w) done
 | i,o::a,S,c,done=>
  match mv o with
  | some x=>chain P r ops T B V0 tail (i+1) a (putE S o.dst (entOf S x)) c done
  | none=>match X0s r o with
   | true=>match r with
    | true=>X04 T (fun φ=>Lt (refs ops S o) (fun _=>undef) fun u=>Nc true fun b=> ∀w,B w->Lw c u b w (runOp P ops (K0 u S) o w (dk (T b) (φ ((refs ops S o).map u)) w)) (refs ops S o))
     (fun φ=>chain P r ops T B V0 tail (i+1) a (putE S o.dst (.ref i)) (c++[(i,refs ops S o,fun xs (_:Iv)=>φ xs)]) (done++[i]))
    | false=>Q7g (T ivZ) (fun φ=>Lt (refs ops S o) (fun _=>undef) fun u=>Nc false fun b=> ∀w,B w->Lw c u b w (runOp P ops (K0 u S) o w (dk (T b) (φ ((refs ops S o).map u)) w)) (refs ops S o))
     (fun φ=>chain P r ops T B V0 tail (i+1) a (putE S o.dst (.ref i)) (c++[(i,refs ops S o,fun xs (_:Iv)=>φ xs)]) (done++[i]))
   | false=>match X0r r o with
    | true=>X2K T i (fun φ=>Lt (refs ops S o) (fun _=>undef) fun u=>Nc r fun b=> ∀w,B w->Lw c u b w (runOp P ops (K0 u S) o w (dkR (T b) φ w)) (refs ops S o))
     (fun φ=>chain P r ops T B V0 tail (i+1) a (putE S o.dst (.ref i)) (c++[(i,[],fun (_:List Value)=>φ)]) (done++[i]))
    | false=>match r with
     | true=>X2J T (fun φ=>Lt (refs ops S o) (fun _=>undef) fun u=>Nc true fun b=> ∀w,B w->Lw c u b w (runOp P ops (K0 u S) o w (dk (T b) φ w)) (refs ops S o))
      (fun φ=>chain P r ops T B V0 tail (i+1) a (putE S o.dst (.ref i)) (c++[(i,[],fun (_:List Value) (_:Iv)=>φ)]) (done++[i]))
     | false=>J8 (T ivZ) (fun φ=>Lt (refs ops S o) (fun _=>undef) fun u=>Nc false fun b=> ∀w,B w->Lw c u b w (runOp P ops (K0 u S) o w (dk (T b) φ w)) (refs ops S o))
      (fun φ=>chain P r ops T B V0 tail (i+1) a (putE S o.dst (.ref i)) (c++[(i,[],fun (_:List Value) (_:Iv)=>φ)]) (done++[i]))
def Yu:Op->Bool
 | .ready _ | .waits _ | .sliceToArrayPointer .. | .makeChan .. | .typeAssert .. | .go _ | .defer _ | .send .. | .recv .. | .select .. =>false
 | .call c=>match c.callee with | .invoke .. =>false | _=>true
 | _=>true
theorem Fg {l l':List Value} {x:Option Operand} (h: ∀y∈x.toArray,ev l y=ev l' y):evo l x=evo l' x:=by
 cases x with
 | none=>rfl
 | some y=>simp only[evo];rw[h y U5]
theorem Q1e {l l':List Value} {xs:Array Operand} (h: ∀y∈xs,ev l y=ev l' y):evs l xs=evs l' xs:=by
 unfold evs;exact List.map_congr_left fun y a=>h y (by simpa using a)
theorem Q5V {l l':List Value} {xs:Array (Nat×Operand)} (h: ∀y∈(xs.toList.map (·.2)).toArray,ev l y=ev l' y):evp l xs=evp l' xs:=by
 unfold evp;refine List.map_congr_left fun y a=>?_;rw[h y.2 (by simp;exact ⟨y.1,by simpa using a⟩)]
theorem Hh {P:Program} {l l':List Value} {o:Oper} (q:Yu o.op=true) (h: ∀x∈o.op.operands,ev l x=ev l' x):L7 P l o=L7 P l' o:=by
 obtain ⟨d,p,D,pos,B,g⟩:=o
 funext w K
 cases p with
 | call c=>
  obtain ⟨j,i,C⟩:=c;have k:evs l i=evs l' i:=Q1e fun y e=>h y (by simp[Op.operands,Call.operands];exact .inr e)
  cases j with
  | invoke r m=>simp[Yu] at q
  | builtin b=>simp only[L7,Ep,k]
  | value f=>
   have s:ev l f=ev l' f:=h f (by simp[Op.operands,Call.operands])
   cases f<;>simp only[L7,Ep,k,s]
 | build t A=>simp only[L7];rw[Q5V h]
 | buildSlice t n A=>simp only[L7];rw[Q5V h]
 | makeFunc f a b=>
  simp only[L7];rw[Q1e (xs:=a) fun y e=>h y (by simp[Op.operands];exact .inl e),Q1e (xs:=b) fun y e=>h y (by simp[Op.operands];exact .inr e)]
 | makeMap t r=>simp only[L7];rw[Fg h]
 | slice t x v u z=>
  simp only[L7];rw[h x (by simp[Op.operands]),Fg (x:=v) fun y e=>h y (by simp[Op.operands] at e⊢;simp[e]),Fg (x:=u) fun y e=>h y (by simp[Op.operands] at e⊢;simp[e]),Fg (x:=z) fun y e=>h y (by simp[Op.operands] at e⊢;simp[e])]
 | _=>first
  | (simp[Yu] at q;done)
  | (simp only[Op.operands,List.mem_toArray,List.mem_cons,List.not_mem_nil,or_false,forall_eq_or_imp,forall_eq] at h;simp only[L7,h];done)
  | rfl
def Pi:List Oper->List Nat->List Nat
 | [],acc=>acc
 | o::a,acc=>Pi a (acc++[(o.after.toList.filter (Region.binds .any)).foldl (fun s e=>s ||| 2 ^ e.on ||| acc.getD e.on 0) 0])
def Xa (a b:Oper):Bool:=
 match a.dst with
 | some d=>(C3 b).contains d||b.dst==some d
 | none=>false
def Q56 (a:List Nat) (ops:List Oper):Bool:=
 ops.zipIdx.all fun (o,j)=>ops.zipIdx.all fun (q,i)=> !(decide (i<j))|| !(Xa q o||Xa o q)||(a.getD j 0).testBit i
def Vq (ops:List Oper):Bool:=
 ops.zipIdx.all fun (o,i)=>Yu o.op&&(o.after.toList.filter (Region.binds .any)).all (fun e=>decide (e.on<i))&&
  match o.guard with | none=>true | some (j,_)=>(o.after.toList.filter (Region.binds .any)).any (fun e=>e.on==j)
def Q6M (m:Region.Mode) (ops:List Oper):List Nat->List Nat->Bool
 | [],_=>true
 | j::L,seen=>((ops[j]?.map fun o=>o.after.toList).getD []).all (fun e=> !Region.binds m e||seen.contains e.on)&&Q6M m ops L (j::seen)
def Qd (m:Region.Mode) (ops:List Oper) (L:List Nat):Bool:=
 Q6M m ops L []&&(List.range ops.length).all (L.contains ·)&&ops.all (fun o=>o.after.toList.all fun e=> !Region.binds m e||decide (e.on<ops.length))
def X3q (m:Region.Mode) (ops:List Oper):Nat->List Nat->List Nat->List Nat
 | 0,_,seen=>seen.reverse
 | n+1,a,seen=>
  match a.find? (fun j=>((ops[j]?.map fun o=>o.after.toList).getD []).all (fun e=> !Region.binds m e||seen.contains e.on)) with
  | some j=>X3q m ops n (a.erase j) (j::seen)
  | none=>seen.reverse
def Ys:List Nat->Bool
 | []=>true
 | x::l=> !l.contains x&&Ys l
def Qg (ops:List Oper) (j:Nat):List Nat:=(ops[j]?.map fun o=>(o.after.toList.filter (Region.binds .any)).map (·.on)).getD []
def Sw (ops:List Oper) (L:List Nat):Prop:= ∀b j a,L=b++j::a-> ∀i∈Qg ops j,i∈b
theorem Q7n (f:Edge->Nat) (l:List Edge): ∀(s i:Nat),(l.foldl (fun s e=>s ||| 2 ^ e.on ||| f e) s).testBit i=true->
 s.testBit i=true\/ ∃e∈l,e.on=i\/(f e).testBit i=true:=by
 induction l with
 | nil=>intro s i h;exact .inl h
 | cons e l c=>
  intro s i h
  rcases c _ _ h with h | ⟨a,b,h⟩
  .simp only[Nat.testBit_or,Bool.or_eq_true] at h
   rcases h with (h | h) | h
   .exact .inl h
   .rw[Nat.testBit_two_pow] at h
    exact .inr ⟨e,by simp, .inl (by simpa using h)⟩
   .exact .inr ⟨e,by simp, .inr h⟩
  .exact .inr ⟨a,by simp[b],h⟩
theorem Q5N (a:List Oper): ∀(b:List Oper) (acc:List Nat),acc.length+b.length=a.length->(∀k,acc.length<=k->a[k]? =b[k-acc.length]?)->
 (∀j i,j<acc.length->(acc.getD j 0).testBit i=true-> ∃k∈Qg a j,k=i\/(k<j/\(acc.getD k 0).testBit i=true))->
 (∀j,j<a.length-> ∀k∈Qg a j,k<j)->
 ∀j i,j<a.length->((Pi b acc).getD j 0).testBit i=true-> ∃k∈Qg a j,k=i\/(k<j/\((Pi b acc).getD k 0).testBit i=true)
 | [],acc,q,_,c,_=>by
  intro j i t h;exact c j i (by simp at q;omega) h
 | o::b,acc,q,f,c,p=>by
  have z:a[acc.length]? =some o:=by rw[f _ (Nat.le_refl _)];simp
  refine Q5N a b _ (by simp at q⊢;omega) ?_ ?_ p
  .intro k g
   simp only[List.length_append,List.length_cons,List.length_nil] at g⊢;rw[f k Q4];obtain ⟨m,y⟩: ∃m,k-acc.length=m+1:=⟨k-acc.length-1,by omega⟩
   rw[y,List.getElem?_cons_succ]
   congr 1;omega
  .intro j i t h
   simp only[List.length_append,List.length_cons,List.length_nil] at t
   have d: ∀k,k<acc.length->(acc++[(o.after.toList.filter (Region.binds .any)).foldl (fun s e=>s ||| 2 ^ e.on ||| acc.getD e.on 0) 0]).getD k 0=acc.getD k 0:=by
    intro k g;simp only[List.getD_eq_getElem?_getD];rw[List.getElem?_append_left g]
   by_cases n:j<acc.length
   .rw[d j n] at h
    obtain ⟨k,g,h⟩:=c j i n h;exact ⟨k,g,h.imp id fun ⟨u,v⟩=>⟨u,by rw[d k Q4];exact v⟩⟩
   .have r:j=acc.length:=by omega
    subst r;simp only[List.getD_eq_getElem?_getD,List.getElem?_append_right (Nat.le_refl _),Nat.sub_self,List.getElem?_cons_zero,Option.getD_some] at h
    rcases Q7n (fun e=>acc.getD e.on 0) _ _ _ (by simpa only[List.getD_eq_getElem?_getD] using h) with h | ⟨e,w,h⟩
    .simp at h
    .have l:e.on∈Qg a acc.length:=by
      unfold Qg;rw[z];simp only[Option.map_some,Option.getD_some,List.mem_map];exact ⟨e,w,rfl⟩
     refine ⟨e.on,l,h.imp id fun h=>?_⟩;have g:=p acc.length (by simp at q;omega) _ l
     exact ⟨g,by rw[d _ g];exact h⟩
theorem Pm {ops:List Oper} (h:Vq ops=true): ∀j,j<ops.length-> ∀k∈Qg ops j,k<j:=by
 intro j b k a;simp only[Vq,List.all_eq_true,Bool.and_eq_true] at h;unfold Qg at a;rw[List.getElem?_eq_getElem b] at a;simp only[Option.map_some,Option.getD_some,List.mem_map] at a;obtain ⟨e,c,rfl⟩:=a;have:=(h (ops[j],j) (by rw[List.mem_zipIdx_iff_getElem?];simp[b])).1.2 e c
 simpa using this
theorem Q8c {ops:List Oper} (l:Vq ops=true) {L:List Nat} (n:Sw ops L): ∀(j:Nat),j<ops.length-> ∀i b a,L=b++j::a->((Pi ops []).getD j 0).testBit i=true->i∈b:=by
 intro j
 induction j using Nat.strongRecOn with
 | _ j o=>
  intro d i b a f g;obtain ⟨k,m,h⟩:=Q5N ops ops [] U5 U5 (by intro j i d;simp at d) (Pm l) j i d g
  have c:=n b j a f k m
  rcases h with rfl | ⟨e,h⟩
  .exact c
  .obtain ⟨p,q,rfl⟩:=List.append_of_mem c
   have:=o k e Q4 i p (q++j::a) (by rw[f];simp) h
   exact List.mem_append_left _ this
theorem Lx: ∀(n:Nat) (a:List Nat),(∀k,k<n->k∈a)->n<=a.length
 | 0,_,_=>Nat.zero_le _
 | n+1,a,h=>by
  have b:=Lx n (a.erase n) fun k e=>(List.mem_erase_of_ne Q4).2 (h k Q4);have c:=List.length_erase_of_mem (h n Q4);have d:=List.length_pos_of_mem (h n Q4);omega
theorem H6: ∀(n:Nat) (l:List Nat),l.Nodup->(∀k∈l,k<n)->l.length<=n
 | 0,l,_,h=>by
  cases l with
  | nil=>simp
  | cons x l=>exact absurd (h x U5) Q4
 | n+1,l,c,h=>by
  by_cases b:n∈l
  .have g:=H6 n (l.erase n) (c.erase n) fun k a=>by
    have d:=h k (List.mem_of_mem_erase a);have f:k≠n:=fun e=>by subst e;exact (List.Nodup.not_mem_erase c) a
    omega
   have d:=List.length_erase_of_mem b;have f:=List.length_pos_of_mem b;omega
  .have:=H6 n l c fun k a=>by
    have d:=h k a;have f:k≠n:=fun e=>by subst e;exact b a
    omega
   omega
theorem X1c {m:Region.Mode} {e:Edge} (h:Region.binds .any e=true):Region.binds m e=true:=by
 unfold Region.binds at h⊢;cases a:e.ground<;>rw[a] at h<;>first | rfl | (exact absurd h (by simp<;>rfl)) | (simp at h;cases h)
theorem X0u {m:Region.Mode} {ops:List Oper} {L:List Nat} (h:Qd m ops L=true) (k:Nat) (b:k<ops.length): ∀e∈(ops[k]?.map fun o=>o.after.toList).getD [],Region.binds m e=true->e.on<ops.length:=by
 intro e a c;simp only[Qd,Bool.and_eq_true,List.all_eq_true] at h;rw[List.getElem?_eq_getElem b] at a;have:=h.2 ops[k] (List.getElem_mem b) e (by simpa using a)
 rw[c] at this
 simpa using this
theorem Q8b {m:Region.Mode} {ops:List Oper} {L:List Nat} (h:Qd m ops L=true): ∀k,k<ops.length->k∈L:=by
 intro k a;simp only[Qd,Bool.and_eq_true,List.all_eq_true] at h
 simpa using h.1.2 k (by simpa using a)
theorem Q9t (m:Region.Mode) (ops:Array Oper) (R:Vq ops.toList=true) (U:List Nat) (O:Qd m ops.toList U=true): ∀(fuel t:Nat) (listed:Array Bool) (a:List Nat),
 fuel+a.length=ops.size->listed.size=ops.size->(∀i,i<ops.size->(listed.getD i true=true↔i∈a))->a.Nodup->(∀i∈a,i<ops.size)->Sw ops.toList a.reverse->
 (Region.linearise.go m ops fuel t listed a).Nodup/\(Region.linearise.go m ops fuel t listed a).length=ops.size/\Sw ops.toList (Region.linearise.go m ops fuel t listed a)
 | 0,t,listed,a,hf,_,_,hn,_,hr=>by
  simp only[Region.linearise.go];exact ⟨List.pairwise_reverse.2 (hn.imp fun h=>Ne.symm h),by simp;omega,hr⟩
 | fuel+1,t,listed,a,hf,M,C,hn,D,hr=>by
  -- one that isn't listed may come
  have X: ∃k,k<ops.size/\k∉a:=by
   refine Classical.byContradiction fun ad=>?_;have u: ∀k,k<ops.size->k∈a:=fun k hk=>Classical.byContradiction fun h=>ad ⟨k,hk,h⟩;have:=Lx ops.size a u;omega
  simp only[Region.linearise.go]
  split
  .rename_i i hi
   have l:=List.mem_of_getElem? hi;simp only[List.mem_filter,List.mem_range,Bool.and_eq_true,Bool.not_eq_true'] at l;obtain ⟨c,v,n⟩:=l;have H:i∉a:=fun h=>by rw[(C i c).2 h] at v;cases v
   refine Q9t m ops R U O fuel _ _ _ (by simp;omega) (by simp[M]) ?_ (List.nodup_cons.2 ⟨H,hn⟩) ?_ ?_
   .intro j hj
    by_cases p:i=j
    .subst p;simp[Array.getD,M,c]
    .have:(listed.setIfInBounds i true).getD j true=listed.getD j true:=by
      simp only[Array.getD_eq_getD_getElem?];rw[Array.getElem?_setIfInBounds_ne p]
     rw[this,C j hj]
     simp[Ne.symm p]
   .intro j hj
    rcases List.mem_cons.1 hj with rfl | hj
    .exact c
    .exact D j hj
   .rw[List.reverse_cons]
    intro af j N V k hk
    rcases List.eq_nil_or_concat N with rfl | ⟨r,x,rfl⟩
    .have hh:=List.append_inj' V rfl
     obtain ⟨h1,h2⟩:=hh;simp only[List.cons.injEq,and_true] at h2;subst h2;subst h1;have Z:=hk;unfold Qg at hk;rw[show ops.toList[i]? =some ops[i] by simp[c]] at hk
     simp only[Option.map_some,Option.getD_some,List.mem_map,List.mem_filter] at hk;obtain ⟨e,⟨f,W⟩,rfl⟩:=hk;rw[show ops[i]? =some ops[i] by simp[c]] at n
     simp only[Option.map_some,Option.getD_some,Array.all_eq_true'] at n;have h4:=n e (by simpa using f)
     simp only[Bool.or_eq_true,Bool.not_eq_true'] at h4
     rcases h4 with h4 | h4
     .rw[X1c W] at h4;cases h4
     .have an:=Pm R i (by simpa using c) e.on Z
      have:listed.getD e.on true=true:=by
       simp only[Array.getD_eq_getD_getElem?] at h4⊢;rw[Array.getElem?_eq_getElem Q4] at h4⊢
       simpa using h4
      simpa using (C e.on Q4).1 this
    .rw[List.concat_eq_append,<-List.cons_append,<-List.append_assoc] at V
     have hh:=List.append_inj' V rfl;exact hr af j r hh.1 k hk
  .rename_i q
   exfalso
   obtain ⟨k0,y,z⟩:=X;have s:=O;simp only[Qd,Bool.and_eq_true] at s
   -- every number of L0 that is none of an operation's has no edges: it may stand there, but isn't looked at
   have g: ∃k,k<ops.size/\k∉a/\ ∀e∈(ops.toList[k]?.map fun o=>o.after.toList).getD [],Region.binds m e=true->e.on∈a\/ops.size<=e.on:=by
    -- the first of L0 that is an operation's number and isn't listed
    have key: ∀(L b:List Nat),Q6M m ops.toList L b=true->(∀k∈b,k∈a\/ops.size<=k)->(∃k∈L,k<ops.size/\k∉a)->
     ∃k,k<ops.size/\k∉a/\ ∀e∈(ops.toList[k]?.map fun o=>o.after.toList).getD [],Region.binds m e=true->e.on∈a\/ops.size<=e.on:=by
     intro L
     induction L with
     | nil=>rintro b _ _ ⟨k,hk,_⟩;simp at hk
     | cons j L ih=>
      rintro b h hs ⟨k,hk,ab,B⟩;simp only[Q6M,Bool.and_eq_true,List.all_eq_true] at h
      by_cases hj:j∈a\/ops.size<=j
      .refine ih (j::b) h.2 (fun x hx=>by rcases List.mem_cons.1 hx with rfl | hx;exact hj;exact hs x hx) ⟨k,?_,ab,B⟩
       rcases List.mem_cons.1 hk with rfl | hk
       .rcases hj with hj | hj
        .exact absurd hj B
        .omega
       .exact hk
      .have Y:j<ops.size:=by
        refine Nat.lt_of_not_le fun h=>hj (.inr h)
       refine ⟨j,Y,fun h=>hj (.inl h),fun e R Q=>?_⟩;have:=h.1 e R;rw[Q] at this;exact hs _ (by simpa using this)
    exact key U [] s.1.1 U5 ⟨k0,Q8b O k0 (by simpa using y),y,z⟩
   obtain ⟨k,d,aa,A⟩:=g
   by_cases w:k∈(List.range ops.size).filter fun i=> !listed.getD i true&&((ops[i]?).map (·.after.all fun e=> !Region.binds m e||listed.getD e.on false)).getD false
   .have J:=List.length_pos_of_mem w
    have:=List.getElem?_eq_none_iff.1 q;have:=Nat.mod_lt t J;omega
   .refine w ?_
    simp only[List.mem_filter,List.mem_range,Bool.and_eq_true,Bool.not_eq_true'];refine ⟨d,?_,?_⟩
    .cases hc:listed.getD k true with
     | false=>rfl
     | true=>exact absurd ((C k d).1 hc) aa
    .rw[show ops[k]? =some ops[k] by simp[d]]
     simp only[Option.map_some,Option.getD_some,Array.all_eq_true'];intro e f;simp only[Bool.or_eq_true,Bool.not_eq_true'];cases Q:Region.binds m e with
     | false=>exact .inl rfl
     | true=>
      right;rw[show ops.toList[k]? =some ops[k] by simp[d]] at A
      rcases A e (by simpa using f) Q with h | h
      .have E:=D _ h
       have:=(C e.on E).2 h;simp only[Array.getD_eq_getD_getElem?] at this⊢;rw[Array.getElem?_eq_getElem Q4] at this⊢
       simpa using this
      .exact absurd h (by
        have:=X0u O k (by simpa using d) e (by rw[show ops.toList[k]? =some ops[k] by simp[d]];simpa using f) Q
        simp at this;omega)
theorem Q6G (b:Bool) (ops:Array Oper) (t:Nat) (d:Vq ops.toList=true) (f: ∀m,∃L,Qd m ops.toList L=true):
 (Region.schedule b ops t).Nodup/\(Region.schedule b ops t).length=ops.size/\Sw ops.toList (Region.schedule b ops t):=by
 have key: ∀m t,(Region.linearise m ops t).Nodup/\(Region.linearise m ops t).length=ops.size/\Sw ops.toList (Region.linearise m ops t):=by
  intro m t;obtain ⟨L,c⟩:=f m;refine Q9t m ops d L c _ _ _ _ U5 U5 ?_ List.nodup_nil U5 ?_
  .intro i e;simp[Array.getD,e]
  .intro g j a h;simp at h
 unfold Region.schedule
 split<;>exact key _ _
theorem Zl: ∀(ops:List Oper),Ys (R9 ops)=true-> ∀(i j:Nat) (a b:Oper) (d:Nat),ops[i]? =some a->ops[j]? =some b->a.dst=some d->b.dst=some d->i=j
 | [],_,i,j,a,b,d,h,_,_,_=>by simp at h
 | o::c,g,i,j,a,b,d,m,n,p,r=>by
  have f: ∀(k:Nat) (q:Oper),c[k]? =some q->q.dst=some d->d∈R9 c:=by
   intro k q s v;simp only[R9,List.mem_filterMap];exact ⟨q,List.mem_of_getElem? s,v⟩
  have l:Ys (R9 c)=true:=by
   simp only[R9,List.filterMap_cons] at g
   split at g
   .exact g
   .simp only[Ys,Bool.and_eq_true] at g;exact g.2
  have e:o.dst=some d->d∉R9 c:=by
   intro u;simp only[R9,List.filterMap_cons,u,Ys,Bool.and_eq_true,Bool.not_eq_true'] at g;intro t;have:=g.1;simp only[List.contains_eq_mem,decide_eq_false_iff_not] at this;exact this t
  cases i with
  | zero=>
   simp only[List.getElem?_cons_zero,Option.some.injEq] at m;subst m;cases j with
   | zero=>rfl
   | succ j=>exact absurd (f j b (by simpa using n) r) (e p)
  | succ i=>
   cases j with
   | zero=>
    simp only[List.getElem?_cons_zero,Option.some.injEq] at n;subst n;exact absurd (f i a (by simpa using m) p) (e r)
   | succ j=>rw[Zl c l i j a b d (by simpa using m) (by simpa using n) p r]
theorem Pp (u:Nat->Value): ∀(S:List Ent) (s:Nat),get (K0 u S) s=(getE S s).at u
 | [],s=>by simp[K0,get,getE,Ent.at]
 | e::S,0=>rfl
 | e::S,s+1=>Pp u S s
theorem Iw: ∀(S:List Ent) (s:Nat),getE S s=(S[s]?).getD (.val undef)
 | [],s=>by simp[getE]
 | e::S,0=>rfl
 | e::S,s+1=>by simp only[getE,List.getElem?_cons_succ];exact Iw S s
theorem Q2y: ∀(S:List Ent) (n:Nat) (e:Ent),Q3O S n e=S.set n e
 | [],n,e=>by simp[Q3O]
 | x::S,0,e=>rfl
 | x::S,n+1,e=>by simp only[Q3O,List.set_cons_succ,Q2y S n e]
theorem Q68 {x:Nat}: ∀{l:List Nat},x∈l->x∈Q2l l
 | y::l,h=>by
  simp only[Q2l,List.mem_cons,List.mem_filter]
  by_cases e:x=y
  .exact .inl e
  .exact .inr ⟨Q68 ((List.mem_cons.1 h).resolve_left e),by simpa using e⟩
theorem Ff {x:Nat}: ∀{l:List Nat},x∈Q2l l->x∈l
 | y::l,h=>by
  simp only[Q2l,List.mem_cons,List.mem_filter] at h⊢;exact h.imp id fun h=>Ff h.1
theorem Q69 {S:List Ent} {j:Nat}: ∀{l:List Nat} {s:Nat},s∈l->getE S s= .ref j->j∈Q2v S l
 | x::l,s,h,e=>by
  simp only[Q2v,List.mem_append]
  rcases List.mem_cons.1 h with rfl | h
  .left;rw[e];simp[Q6L]
  .right;exact Q69 h e
theorem Fz {S:List Ent} {j:Nat}: ∀{l:List Nat},j∈Q2v S l-> ∃s∈l,getE S s= .ref j
 | x::l,h=>by
  simp only[Q2v,List.mem_append] at h
  rcases h with h | h
  .refine ⟨x,by simp,?_⟩
   cases a:getE S x with
   | val v=>rw[a] at h;simp[Q6L] at h
   | ref k=>rw[a] at h;simp[Q6L] at h;rw[h]
  .obtain ⟨s,b,e⟩:=Fz h
   exact ⟨s,by simp[b],e⟩
theorem Q3p: ∀(a:List Nat) (c u:Nat->Value) (k:(Nat->Value)->Prop),Lt a c k-> ∃b,k b/\ ∀x,(x∈a->b x=u x)/\(x∉a->b x=c x)
 | [],c,u,k,h=>⟨c,h,fun x=>⟨fun h=>by simp at h,fun _=>rfl⟩⟩
 | j::a,c,u,k,h=>by
  obtain ⟨b,g,d⟩:=Q3p a _ u k (h (u j));refine ⟨b,g,fun x=>⟨fun hx=>?_,fun hx=>?_⟩⟩
  .by_cases f:x∈a
   .exact (d x).1 f
   .rw[(d x).2 f]
    rcases List.mem_cons.1 hx with rfl | hx
    .simp
    .exact absurd hx f
  .rw[(d x).2 (fun h=>hx (List.mem_cons_of_mem _ h))]
   have:x≠j:=fun e=>hx (by simp[e])
   simp[this]
theorem Q3B {f:Sv} {u:Nat->Value} {e:Nat->Iv} {w:World} {a:Prop}: ∀{d:List Nat},Lw f u e w a d->(∀j∈d,∀φ,Wl f j=some ([],φ)->φ [] (e j) (u j) w)->a
 | [],h,_=>h
 | j::d,h,c=>by
  simp only[Lw] at h
  split at h
  .rename_i φ g
   exact Q3B (h (c j U5 φ g)) fun k b=>c k (by simp[b])
  .exact Q3B h fun k b=>c k (by simp[b])
theorem Q1A {f:Sv} {u:Nat->Value} {e:Nat->Iv} {w:World} {a:Prop}: ∀{d:List Nat},Q2o f u e w a d->(∀j∈d,∀R φ,Wl f j=some (R,φ)->φ (R.map u) (e j) (u j) w)->a
 | [],h,_=>h
 | j::d,h,c=>by
  simp only[Q2o] at h
  split at h
  .rename_i R φ g
   exact Q1A (h (c j U5 R φ g)) fun k b=>c k (by simp[b])
  .exact Q1A h fun k b=>c k (by simp[b])
theorem Ts {a:Sv} {i j:Nat} {φ:List Nat×(List Value->Iv->Value->World->Prop)} (h:i≠j):Wl (a++[(i,φ)]) j=Wl a j:=by
 induction a with
 | nil=>simp[Wl,h]
 | cons p a b=>obtain ⟨k,ψ⟩:=p;simp only[List.cons_append,Wl,b]
theorem Dd {a:Sv} {i:Nat} {φ:List Nat×(List Value->Iv->Value->World->Prop)} (h:Wl a i=none):Wl (a++[(i,φ)]) i=some φ:=by
 induction a with
 | nil=>simp[Wl]
 | cons p a c=>
  obtain ⟨k,ψ⟩:=p;simp only[Wl] at h
  split at h
  .cases h
  .rename_i b;simp only[List.cons_append,Wl,b,if_false];exact c h
def Bh (S:List Ent) (i:Nat) (o:Oper):Ent:=match mv o with | some x=>entOf S x | none=> .ref i
def O9 (S:List Ent):Nat->List Oper->List Ent
 | _,[]=>S
 | i,o::a=>O9 (putE S o.dst (Bh S i o)) (i+1) a
theorem Q6m: ∀(a:List Oper) (S:List Ent) (i k:Nat) (o:Oper),a[k]? =some o->
 O9 S i (a.take (k+1))=putE (O9 S i (a.take k)) o.dst (Bh (O9 S i (a.take k)) (i+k) o)
 | [],_,_,_,_,h=>by simp at h
 | x::a,S,i,0,o,h=>by
  simp only[List.getElem?_cons_zero,Option.some.injEq] at h;subst h
  simp[O9]
 | x::a,S,i,k+1,o,h=>by
  simp only[List.getElem?_cons_succ] at h;have:=Q6m a (putE S x.dst (Bh S i x)) (i+1) k o h;simp only[List.take_succ_cons,O9];rw[this,show i+1+k=i+(k+1) from by omega]
def Je (S:List Ent) (D:List Nat):Prop:= ∀e∈S,∀j,e= .ref j->j∈D
theorem Je.getE {S:List Ent} {D:List Nat} (h:Je S D) {s j:Nat} (e:Go.Emb.getE S s= .ref j):j∈D:=by
 rw[Iw] at e;cases a:S[s]? with
 | none=>rw[a] at e;cases e
 | some x=>rw[a] at e;exact h x (List.mem_of_getElem? a) j e
theorem Je.putE {S:List Ent} {D:List Nat} (h:Je S D) (d:Option Nat) {e:Ent} (c: ∀j,e= .ref j->j∈D):Je (Go.Emb.putE S d e) D:=by
 cases d with
 | none=>exact h
 | some d=>
  intro x a j b;simp only[Go.Emb.putE,Q2y] at a
  rcases List.mem_or_eq_of_mem_set a with a | rfl
  .exact h x a j b
  .exact c j b
theorem Je.mono {S:List Ent} {D D':List Nat} (h:Je S D) (a: ∀j∈D,j∈D'):Je S D':=fun e b j c=>a j (h e b j c)
theorem Je.entOf {S:List Ent} {D:List Nat} (h:Je S D) (x:Operand) {j:Nat} (e:Go.Emb.entOf S x= .ref j):j∈D:=by
 cases x with
 | tmp t=>exact h.getE e
 | _=>cases e
theorem X00 {S:List Ent} {D:List Nat} (h:Je S D) {u a:Nat->Value} (c: ∀j∈D,a j=u j):K0 a S=K0 u S:=by
 unfold K0;refine List.map_congr_left fun e b=>?_;cases e with
 | val v=>rfl
 | ref j=>exact c j (h _ b j rfl)
theorem Q3g {P:Program} {ops:List Oper} {l l':List Value} {o:Oper} (e:Yu o.op=true) (h: ∀s∈H5 ops o++C3 o,get l s=get l' s):runOp P ops l o=runOp P ops l' o:=by
 funext w K
 unfold runOp
 rw[Hh e fun x f=>by
  cases x with
  | tmp s=>exact h s (List.mem_append_right _ (by simp only[C3,List.mem_filterMap];exact ⟨.tmp s,by simpa using f,rfl⟩))
  | _=>rfl]
 cases a:o.guard with
 | none=>rfl
 | some q=>
  obtain ⟨j,b⟩:=q;simp only;cases c:(ops[j]?).bind (·.dst) with
  | none=>rfl
  | some d=>simp only;rw[h d (List.mem_append_left _ (by simp[H5,a,c]))]
theorem Q4H {P:Program} {ops:List Oper} {l:List Value} {o:Oper} {w:World} {K d:Value->World->Prop} (c: ∀v w,K v w->d v w) (h:runOp P ops l o w K):runOp P ops l o w d:=by
 unfold runOp at*
 split at h
 .exact P5 c h
 .split at h
  .exact Q1y ((Mu h).imp (fun ⟨a,b⟩=>⟨a,P5 c b⟩) (fun ⟨a,b⟩=>⟨a,c _ _ b⟩))
  .exact h.elim
theorem Q40 {P:Program} {ops:List Oper} {V0:List Value->World->Prop} {o:Oper} {a:List Oper} {l:List Value} {w:World}
 (h:runOp P ops l o w (fun v w=>Z2 P ops V0 a (put l o.dst v) w)):Z2 P ops V0 (o::a) l w:=by
 simp only[Z2];unfold runOp at h;cases e:o.guard with
 | none=>simp only[e] at h⊢;exact h
 | some q=>
  obtain ⟨j,b⟩:=q;simp only[e] at h⊢
  split at h
  .rename_i d c
   first | exact h | (simp only[c];exact h) | (rw[c];exact h)
  .exact h.elim
structure Whole (P : Program) (r : Bool) (ops : List Oper) (T : (Nat -> Iv) -> World -> World -> Prop) (B : World -> Prop) (V0 : List Value -> World -> Prop) (tail : List Oper) (Φ : Nat -> (Nat -> Value) -> Iv -> World -> Prop) (S : List Ent) (i : Nat) (rest : List Oper) (D : List Nat) : Prop where
  stable : ∀ k o, rest[k]? = some o -> mv o = none -> ∀ u iv w w', OkI r iv -> Φ (i + k) u (iv (i + k)) w -> T iv w w' -> Φ (i + k) u (iv (i + k)) w'
  loc : ∀ k o, rest[k]? = some o -> mv o = none -> ∀ u u', (∀ r ∈ (i + k) :: refs ops (O9 S i (rest.take k)) o, u r = u' r) -> Φ (i + k) u = Φ (i + k) u'
  run : ∀ k o, rest[k]? = some o -> mv o = none -> Yu o.op = true -> ∀ u iv w, OkI r iv -> B w -> (∀ j ∈ refs ops (O9 S i (rest.take k)) o, Φ j u (iv j) w) ->
    runOp P ops (K0 u (O9 S i (rest.take k))) o w (fun v w' => T iv w w' /\ ∀ u', (∀ r ∈ refs ops (O9 S i (rest.take k)) o, u' r = u r) -> u' (i + k) = v -> Φ (i + k) u' (Ek r w, Ek r w') w')
  last : ∀ u iv w, OkI r iv -> B w -> (∀ j ∈ D, Φ j u (iv j) w) -> (∀ k o, rest[k]? = some o -> mv o = none -> Φ (i + k) u (iv (i + k)) w) -> Z2 P ops V0 tail (K0 u (O9 S i rest)) w
theorem Q1a (P:Program) (r:Bool) (ops:List Oper) (T:(Nat->Iv)->World->World->Prop) (B:World->Prop) (V0:List Value->World->Prop) (tail:List Oper): ∀(l:List Oper) (i:Nat) (S:List Ent) (t:Sv) (done:List Nat),
 Je S done->(∀j,j∈done->j<i/\ ∃φ,Wl t j=some φ)->(∀j φ,Wl t j=some φ->j<i/\ ∀r∈φ.1,r∈done)->chain P r ops T B V0 tail i l S t done->
 ∃Φ:Nat->(Nat->Value)->Iv->World->Prop,(∀j R φ,Wl t j=some (R,φ)->Φ j=fun u p w=>φ (R.map u) p (u j) w)/\Whole P r ops T B V0 tail Φ S i l done
 | [],i,S,t,done,O,X,N,h=>by
  refine ⟨fun j u p w=>match Wl t j with | some (R,φ)=>φ (R.map u) p (u j) w | none=>True,fun j R φ hj=>by simp[hj],⟨by simp,by simp,by simp,?_⟩⟩
  intro u b w y hB J _;obtain ⟨C,m,d⟩:=Q3p done _ u _ h
  have n:=Q1A (Q6X m y w hB) fun j hj R φ V=>by
   have:=J j hj;simp only[V] at this;rw[(d j).1 hj,show R.map C=R.map u from List.map_congr_left fun r g=>(d r).1 ((N j _ V).2 r g)];exact this
  rw[X00 O fun j hj=>(d j).1 hj,Se] at n;exact n
 | o::l,i,S,t,done,O,X,N,h=>by
  simp only[chain] at h;cases z:mv o with
  | some x=>
   simp only[z] at h;have f:Bh S i o=entOf S x:=by simp[Bh,z]
   obtain ⟨Φ,m,d⟩:=Q1a P r ops T B V0 tail l (i+1) _ t done (O.putE _ fun j hj=>O.entOf x hj) (fun j hj=>⟨by have:=(X j hj).1;omega,(X j hj).2⟩) (fun j φ hj=>⟨by have:=(N j φ hj).1;omega,(N j φ hj).2⟩) h
   refine ⟨Φ,m,⟨?_,?_,?_,?_⟩⟩
   .intro k q c a
    cases k with
    | zero=>simp only[List.getElem?_cons_zero,Option.some.injEq] at c;subst c;rw[z] at a;cases a
    | succ k=>have:=d.stable k q (by simpa using c) a;rwa [show i+1+k=i+(k+1) from by omega] at this
   .intro k q c a u C Q
    cases k with
    | zero=>simp only[List.getElem?_cons_zero,Option.some.injEq] at c;subst c;rw[z] at a;cases a
    | succ k=>
     simp only[List.take_succ_cons,O9,f] at Q;have:=d.loc k q (by simpa using c) a u C (by rwa [show i+1+k=i+(k+1) from by omega])
     rwa [show i+1+k=i+(k+1) from by omega] at this
   .intro k q c a D u b w y hB g
    cases k with
    | zero=>simp only[List.getElem?_cons_zero,Option.some.injEq] at c;subst c;rw[z] at a;cases a
    | succ k=>
     simp only[List.take_succ_cons,O9,f] at g⊢;have:=d.run k q (by simpa using c) a D u b w y hB g
     rwa [show i+1+k=i+(k+1) from by omega] at this
   .intro u b w y hB J Z
    simp only[O9,f];refine d.last u b w y hB J fun k q c a=>?_;have:=Z (k+1) q (by simpa using c) a
    rwa [show i+(k+1)=i+1+k from by omega] at this
  | none=>
   have h': ∃(R:List Nat) (φ:List Value->Iv->Value->World->Prop),(∀r∈R,r∈refs ops S o)/\(∀xs b,OkI r b->Wv (T b) (φ xs (b i)))/\
    (Lt (refs ops S o) (fun _=>undef) fun u=>Nc r fun b=> ∀w,B w->Lw t u b w (runOp P ops (K0 u S) o w (fun v w'=>T b w w'/\φ (R.map u) (Ek r w,Ek r w') v w')) (refs ops S o))/\
    chain P r ops T B V0 tail (i+1) l (putE S o.dst (.ref i)) (t++[(i,R,φ)]) (done++[i]):=by
    cases L:X0s r o with
    | true=>
     cases r with
     | true=>
      simp only[z,L,X2L,Q3x] at h;obtain ⟨φ,m,d,n⟩:=h;exact ⟨_,fun xs _=>φ xs,fun _ h=>h,fun xs b e=>m xs b e,d,n⟩
     | false=>
      simp only[z,L,Q9q,Q5a] at h;obtain ⟨φ,m,d,n⟩:=h;exact ⟨_,fun xs _=>φ xs,fun _ h=>h,fun xs b e=>by have e:b=_:=e;subst e;exact m xs,d,n⟩
    | false=>
     cases Y:X0r r o with
     | true=>
      simp only[z,L,Y,X4o,Q59] at h;obtain ⟨φ,m,d,n⟩:=h;cases r with
      | false=>cases Y
      | true=>exact ⟨[],fun _=>φ,by simp,fun _ b e=>m b e,d,n⟩
     | false=>
      cases r with
      | true=>
       simp only[z,L,Y,X4n,Q58] at h;obtain ⟨φ,m,d,n⟩:=h;exact ⟨[],fun _ _=>φ,by simp,fun _ b e=>m b e,d,n⟩
      | false=>
       simp only[z,L,Y,X1r,Q7f] at h;obtain ⟨φ,m,d,n⟩:=h;exact ⟨[],fun _ _=>φ,by simp,fun _ b e=>by have e:b=_:=e;subst e;exact m,d,n⟩
   clear h;obtain ⟨R,φ,W,ad,U,h⟩:=h'
   have ac: ∀r∈refs ops S o,r∈done:=fun r g=>by
    obtain ⟨s,_,he⟩:=Fz (Ff g);exact O.entOf (.tmp s) he
   have f:Bh S i o= .ref i:=by simp[Bh,z]
   have A:Wl t i=none:=by
    cases J:Wl t i with
    | none=>rfl
    | some ψ=>have:=(N i ψ J).1;omega
   obtain ⟨Φ,m,d⟩:=Q1a P r ops T B V0 tail l (i+1) _ (t++[(i,R,φ)]) (done++[i])
    ((O.mono fun j hj=>List.mem_append_left _ hj).putE _ fun j hj=>by cases hj;simp)
    (fun j hj=>by
     rcases List.mem_append.1 hj with hj | hj
     .obtain ⟨n,ψ,H⟩:=X j hj
      exact ⟨by omega,ψ,by rw[Ts Q4];exact H⟩
     .simp at hj;subst hj;exact ⟨by omega,(R,φ),Dd A⟩)
    (fun j ψ hj=>by
     by_cases e:i=j
     .subst e
      rw[Dd A] at hj;cases hj;exact ⟨by omega,fun r g=>List.mem_append_left _ (ac r (W r g))⟩
     .rw[Ts e] at hj
      obtain ⟨n,H⟩:=N j ψ hj;exact ⟨by omega,fun r g=>List.mem_append_left _ (H r g)⟩) h
   have M:Φ i=fun u p w=>φ (R.map u) p (u i) w:=m i R φ (Dd A);have E: ∀j R' ψ,Wl t j=some (R',ψ)->Φ j=fun u p w=>ψ (R'.map u) p (u j) w:=fun j R' ψ hj=>m j R' ψ (by rw[Ts (by have:=(N j _ hj).1;omega)];exact hj)
   refine ⟨Φ,E,⟨?_,?_,?_,?_⟩⟩
   .intro k q c a
    cases k with
    | zero=>
     intro u b w w' y ha hT;rw[Nat.add_zero,M] at ha⊢;exact ad _ b y _ _ _ ha hT
    | succ k=>have:=d.stable k q (by simpa using c) a;rwa [show i+1+k=i+(k+1) from by omega] at this
   .intro k q c a u C Q
    cases k with
    | zero=>
     simp only[List.getElem?_cons_zero,Option.some.injEq] at c;subst c;simp only[List.take_zero,O9,Nat.add_zero] at Q;rw[Nat.add_zero,M]
     funext p w
     show φ (R.map u) p (u i) w=φ (R.map C) p (C i) w
     rw[show R.map u=R.map C from List.map_congr_left fun r g=>Q r (List.mem_cons_of_mem _ (W r g)),Q i U5]
    | succ k=>
     simp only[List.take_succ_cons,O9,f] at Q;have:=d.loc k q (by simpa using c) a u C (by rwa [show i+1+k=i+(k+1) from by omega])
     rwa [show i+1+k=i+(k+1) from by omega] at this
   .intro k q c a D u b w y hB g
    cases k with
    | zero=>
     simp only[List.getElem?_cons_zero,Option.some.injEq] at c;subst c;simp only[List.take_zero,O9,Nat.add_zero] at g⊢;obtain ⟨C,n,H⟩:=Q3p _ _ u _ U
     have h5:=Q3B (Q6X n y w hB) fun j hj ψ hψ=>by
      have h6:=g j hj;rw[E j [] ψ hψ] at h6;rw[(H j).1 hj];exact h6
     rw[Q3g D (l':=K0 u S)] at h5
     .refine Q4H ?_ h5
      rintro v w' ⟨hT,hf⟩;refine ⟨hT,fun u2 ae hi=>?_⟩;rw[M]
      show φ (R.map u2) (Ek r w,Ek r w') (u2 i) w'
      rw[hi,show R.map u2=R.map C from List.map_congr_left fun r g=>by rw[ae r (W r g),(H r).1 (W r g)]]
      exact hf
     .intro s L
      rw[Pp,Pp];cases he:getE S s with
      | val v=>rfl
      | ref j=>exact (H j).1 (Q68 (Q69 L he))
    | succ k=>
     simp only[List.take_succ_cons,O9,f] at g⊢;have:=d.run k q (by simpa using c) a D u b w y hB g
     rwa [show i+1+k=i+(k+1) from by omega] at this
   .intro u b w y hB J Z
    simp only[O9,f];refine d.last u b w y hB (fun j hj=>?_) fun k q c a=>?_
    .rcases List.mem_append.1 hj with hj | hj
     .exact J j hj
     .simp at hj;subst hj
      have:=Z 0 o U5 z
      simpa using this
    .have:=Z (k+1) q (by simpa using c) a
     rwa [show i+(k+1)=i+1+k from by omega] at this
def Xj (os:List Oper) (S0:List Ent) (q:Nat):Ent:=
 match os[q]? with
 | some o=>Bh (O9 S0 0 (os.take q)) q o
 | none=> .val undef
theorem Q9J {os:List Oper} {S0:List Ent} {q:Nat} {o:Oper} (h:os[q]? =some o):O9 S0 0 (os.take (q+1))=putE (O9 S0 0 (os.take q)) o.dst (Xj os S0 q):=by
 rw[Q6m os S0 0 q o h]
 simp[Xj,h]
theorem Q8W (S:List Ent) (d:Option Nat) (e:Ent):(putE S d e).length=S.length:=by
 cases d with
 | none=>rfl
 | some d=>simp[putE,Q2y]
theorem Q04 (os:List Oper) (S0:List Ent): ∀q,q<=os.length->(O9 S0 0 (os.take q)).length=S0.length
 | 0,_=>by simp[O9]
 | q+1,h=>by rw[Q9J (List.getElem?_eq_getElem Q4),Q8W,Q04 os S0 q Q4]
theorem Bp {os:List Oper} {S0:List Ent} (u:Ys (R9 os)=true) (t: ∀d∈R9 os,d<S0.length): ∀q,q<=os.length->
 (∀p,p<q-> ∀o d,os[p]? =some o->o.dst=some d->(O9 S0 0 (os.take q))[d]? =some (Xj os S0 p))/\
  (∀s,(∀p,p<q-> ∀o,os[p]? =some o->o.dst≠some s)->(O9 S0 0 (os.take q))[s]? =S0[s]?)
 | 0,_=>⟨fun p k=>absurd k Q4,fun s _=>by simp[O9]⟩
 | q+1,h=>by
  obtain ⟨n,r⟩:=Bp u t q Q4;have j:os[q]? =some os[q]:=List.getElem?_eq_getElem Q4;have i:=Q04 os S0 q Q4;rw[Q9J j];cases a:os[q].dst with
  | none=>
   refine ⟨fun p k o d c b=>?_,fun s l=>r s fun p k=>l p Q4⟩
   by_cases e:p=q
   .subst e;rw[j] at c;cases c;rw[a] at b;cases b
   .exact n p Q4 o d c b
  | some g=>
   have m:g<S0.length:=t g (by simp only[R9,List.mem_filterMap];exact ⟨os[q],List.getElem_mem _,a⟩)
   simp only[putE,Q2y];refine ⟨fun p k o d c b=>?_,fun s l=>?_⟩
   .by_cases e:p=q
    .subst e;rw[j] at c;cases c;rw[a] at b;cases b
     rw[List.getElem?_set_self (by rw[i];exact m)]
    .have f:g≠d:=by
      rintro rfl;exact e (Zl os u p q o os[q] g c j b a)
     rw[List.getElem?_set_ne f];exact n p Q4 o d c b
   .have f:g≠s:=fun e=>l q Q4 os[q] j (by rw[a,e])
    rw[List.getElem?_set_ne f];exact r s fun p k=>l p Q4
def Ow (os:List Oper) (p:Nat):Bool:=
 match os[p]? with
 | some o=>match mv o with
  | some (.tmp s)=> !(R9 os).contains s
  | some _=>true
  | none=>false
 | none=>false
theorem X61 {P:Program} {o:Oper} {x:Operand} (h:mv o=some x) (l:List Value) (w:World) (K:Value->World->Prop):o.guard=none/\L7 P l o w K=K (ev l x) w:=by
 unfold mv at h
 split at h
 .cases h
 .rename_i b
  refine ⟨b,?_⟩
  split at h
  .rename_i y a;cases h;simp only[L7,a]
  .rename_i y a;cases h;simp only[L7,a]
  .cases h
theorem Q8D {P:Program} {ops:List Oper} {V0:List Value->World->Prop} {o:Oper} {c a:List Oper} {l l':List Value} {w:World} (p:Yu o.op=true) (n: ∀s∈H5 ops o++C3 o,get l' s=get l s)
 (f: ∀v w,Z2 P ops V0 c (put l o.dst v) w->Z2 P ops V0 a (put l' o.dst v) w) (h:Z2 P ops V0 (o::c) l w):Z2 P ops V0 (o::a) l' w:=by
 have m:L7 P l' o=L7 P l o:=Hh p fun x r=>by
  cases x with
  | tmp s=>exact n s (List.mem_append_right _ (by simp only[C3,List.mem_filterMap];exact ⟨.tmp s,by simpa using r,rfl⟩))
  | _=>rfl
 simp only[Z2] at h⊢;cases e:o.guard with
 | none=>simp only[e] at h⊢;rw[m];exact P5 f h
 | some q=>
  obtain ⟨j,b⟩:=q;simp only[e] at h⊢;cases k:(ops[j]?).bind (·.dst) with
  | none=>simp only[k] at h⊢;exact f _ _ h
  | some d=>
   simp only[k] at h⊢;rw[n d (List.mem_append_left _ (by simp[H5,e,k])),m]
   exact Q1y ((Mu h).imp (fun ⟨g,i⟩=>⟨g,P5 f i⟩) (fun ⟨g,i⟩=>⟨g,f _ _ i⟩))
structure At (os : List Oper) (l0 : List Value) (pre : List Nat) (l : List Value) (u : Nat -> Value) : Prop where
  len : l.length = l0.length
  done : ∀ p ∈ pre, ∀ o d, os[p]? = some o -> o.dst = some d -> l[d]? = some ((Xj os (l0.map .val) p).at u)
  rest : ∀ s, (∀ p ∈ pre, ∀ o, os[p]? = some o -> o.dst ≠ some s) -> l[s]? = l0[s]?
  refs : ∀ p ∈ pre, ∀ r, Xj os (l0.map .val) p = .ref r -> r ∈ pre /\ ∃ o, os[r]? = some o /\ mv o = none
theorem X6Z {P:Program} {r0:Bool} {ops os:List Oper} {T:(Nat->Iv)->World->World->Prop} {B:World->Prop} {V0:List Value->World->Prop} {m:Nat} {C:List Value} {Φ:Nat->(Nat->Value)->Iv->World->Prop}
 (bit:Nat->Nat->Bool) (bz: ∀o∈os,Yu o.op=true) (hn:Ys (R9 os)=true) (hd: ∀d∈R9 os,d<C.length)
 (ae: ∀p q a b,p<q->os[p]? =some a->os[q]? =some b->(Xa a b||Xa b a)=true->bit p q=true)
 (hg: ∀q o j b,os[q]? =some o->o.guard=some (j,b)-> ∃p,p<q/\os[p]? =ops[j]? /\bit p q=true)
 (hm:m<=os.length) (an: ∀q,m<=q->q<os.length-> ∀p,p<q->bit p q=true\/(p<m/\Ow os p=true))
 (hT: ∀iv w w',B w->T iv w w'->B w') (hM: ∀iv w w',T iv w w'->Ek r0 w<=Ek r0 w') (hW:Whole P r0 ops T B V0 (os.drop m) Φ (C.map .val) 0 (os.take m) [])
 (L:List Nat) (H:L.Nodup) (bo:L.length=os.length) (ac: ∀q∈L,q<os.length)
 (hC: ∀c q f,L=c++q::f-> ∀p,bit p q=true->p<os.length->p∈c):
 ∀(f c:List Nat),L=c++f->(∀q∈c,q<m)-> ∀(l:List Value) (u:Nat->Value) (iv:Nat->Iv) (w:World),Fb r0 iv w->At os C c l u->B w->
  (∀r∈c,∀o,os[r]? =some o->mv o=none->Φ r u (iv r) w/\ ∀j∈refs ops (O9 (C.map .val) 0 (os.take r)) o,j∈c)->Z2 P ops V0 (f.filterMap (os[·]?)) l w:=by
 have a8: ∀d∈R9 os,d<(C.map Ent.val).length:=by simpa using hd
 have a4: ∀q,q<=m->(os.take m).take q=os.take q:=fun q hq=>by rw[List.take_take,Nat.min_eq_left hq]
 have X: ∀q,q<m->(os.take m)[q]? =os[q]? :=fun q hq=>by rw[List.getElem?_take_of_lt hq]
 -- when all of the first part is done
 have cq: ∀(c f:List Nat),L=c++f->(∀q∈c,q<m)->(∀q,q<m->q∈c)-> ∀l u iv w,Fb r0 iv w->At os C c l u->B w->
  (∀r∈c,∀o,os[r]? =some o->mv o=none->Φ r u (iv r) w/\ ∀j∈refs ops (O9 (C.map .val) 0 (os.take r)) o,j∈c)->Z2 P ops V0 (f.filterMap (os[·]?)) l w:=by
  intro c f E D ao l u iv w hI hA hB hΦ
  have cf: ∀(f c:List Nat),L=c++f->m<=c.length->(∀q,q∈c↔q<c.length)->f.filterMap (os[·]?)=os.drop c.length:=by
   intro f
   induction f with
   | nil=>
    intro c E _ _;rw[List.append_nil] at E;rw[<-E,bo];simp
   | cons q f ih=>
    intro c E da ax
    have cy:q∉c:=by
     rw[E] at H;intro h;exact (List.nodup_append.1 H).2.2 q h q U5 rfl
    have cv:c.length<=q:=Nat.le_of_not_lt fun h=>cy ((ax q).2 h);have V:=ac q (by rw[E];simp)
    have cw:q=c.length:=by
     refine Nat.le_antisymm (Nat.le_of_not_lt fun h=>?_) cv;have:=hC c q f E c.length ((an q Q4 V _ h).resolve_right Q4) Q4;have:=(ax _).1 this;omega
    subst cw;rw[List.filterMap_cons,List.getElem?_eq_getElem V];simp only;rw[ih (c++[c.length]) (by rw[E];simp) (by simp;omega) (by intro x;simp only[List.mem_append,ax,List.mem_singleton,List.length_append,List.length_cons,List.length_nil];omega)]
    simp only[List.length_append,List.length_cons,List.length_nil];rw[<-List.drop_eq_getElem_cons V]
  have bk:c.length=m:=by
   have J:=H6 m c (by rw[E] at H;exact (List.nodup_append.1 H).1) D
   have R:=Lx m c ao;omega
  have J:=cf f c E Q4 (fun q=>by rw[bk];exact ⟨D q,ao q⟩)
  rw[J,bk]
  have R:=hW.last u iv w hI.1 hB U5 fun k o hk t=>by
   have az:k<m:=by
    have:=(List.getElem?_eq_some_iff.1 hk).1
    simp at this;omega
   rw[Nat.zero_add];rw[X k az] at hk;exact (hΦ k (ao k az) o hk t).1
  have h3:l=K0 u (O9 (C.map .val) 0 (os.take m)):=by
   obtain ⟨g1,g2⟩:=Bp hn a8 m hm;apply List.ext_getElem?;intro s;rw[K0,List.getElem?_map]
   by_cases hs: ∃p,p<m/\ ∃o,os[p]? =some o/\o.dst=some s
   .obtain ⟨p,hp,o,i,z⟩:=hs
    rw[hA.done p (ao p hp) o s i z,g1 p hp o s i z];rfl
   .have af: ∀p,p<m-> ∀o,os[p]? =some o->o.dst≠some s:=fun p hp o i z=>hs ⟨p,hp,o,i,z⟩
    rw[hA.rest s (fun p hp=>af p (D p hp)),g2 s af,List.getElem?_map];cases C[s]? <;>rfl
  rw[h3];exact R
 -- moves that come late, among the tail
 have cj: ∀(f c:List Nat) (k:Nat),L=c++f->m<=k->k<=os.length->(∀q,m<=q->(q∈c↔q<k))->(∀p∈f,p<m->Ow os p=true)->
  ∀(l lf:List Value) (w:World),l.length=C.length->lf.length=C.length->(∀s,(∀p∈f,p<m-> ∀o,os[p]? =some o->o.dst≠some s)->l[s]? =lf[s]?)->
   (∀p∈f,p<m-> ∀o d x,os[p]? =some o->mv o=some x->o.dst=some d->lf[d]? =some (ev C x))->(∀s,(R9 os).contains s=false->l[s]? =C[s]?)->
   Z2 P ops V0 (os.drop k) lf w->Z2 P ops V0 (f.filterMap (os[·]?)) l w:=by
  intro f
  induction f with
  | nil=>
   intro c k E bb bu ad _ l lf w hl ba ap _ _ h;rw[List.append_nil] at E
   have hk:k=os.length:=by
    refine Nat.le_antisymm bu (Nat.le_of_not_lt fun D=>?_);have cu:k∉c:=fun e=>by have:=(ad k bb).1 e;omega
    have J:=H6 os.length (k::c) (List.nodup_cons.2 ⟨cu,E▸H⟩) (fun x hx=>by
     rcases List.mem_cons.1 hx with rfl | hx
     .exact D
     .exact ac x (by rw[E];exact hx))
    simp at J
    rw[E] at bo;omega
   have:l=lf:=List.ext_getElem? fun s=>ap s U5;rw[this];rw[hk,List.drop_length] at h;exact h
  | cons q f ih=>
   intro c k E bb bu ad al l lf w hl ba ap a5 aa h
   have O:q∉c:=by
    rw[E] at H;intro h;exact (List.nodup_append.1 H).2.2 q h q U5 rfl
   have cp:q∉f:=by
    rw[E] at H;exact (List.nodup_cons.1 (List.nodup_append.1 H).2.1).1
   have V:=ac q (by rw[E];simp)
   have A:os[q]? =some os[q]:=List.getElem?_eq_getElem V;have b7:L=(c++[q])++f:=by rw[E];simp
   rw[List.filterMap_cons,A];simp only
   by_cases Z:q<m
   ·-- a late move
    have D:=al q U5 Z;unfold Ow at D;rw[A] at D;simp only at D;cases t:mv os[q] with
    | none=>rw[t] at D;cases D
    | some x=>
     rw[t] at D
     have hx:ev l x=ev C x:=by
      cases x with
      | tmp s=>
       simp only[Bool.not_eq_true'] at D;simp only[ev,get,List.getD_eq_getElem?_getD,aa s D]
      | _=>rfl
     obtain ⟨a9,aw⟩:=X61 (P:=P) t l w (fun v w=>Z2 P ops V0 (f.filterMap (os[·]?)) (put l os[q].dst v) w);simp only[Z2,a9];rw[aw,hx];refine ih (c++[q]) k b7 bb bu (fun q' a1=>?_) (fun p hp=>al p (by simp[hp])) _ lf w ?_ ba (fun s hs=>?_) (fun p hp=>a5 p (by simp[hp])) (fun s hs=>?_) h
     .rw[<-ad q' a1];simp only[List.mem_append,List.mem_singleton]
      exact ⟨fun e=>e.resolve_right Q4, .inl⟩
     .cases g:os[q].dst<;>simp[put,hl]
     .cases g:os[q].dst with
      | none=>
       refine ap s fun p hp M o i=>?_
       rcases List.mem_cons.1 hp with rfl | hp
       .rw[A] at i;cases i;rw[g];simp
       .exact hs p hp M o i
      | some d=>
       have aq:d<C.length:=hd d (by simp only[R9,List.mem_filterMap];exact ⟨os[q],List.getElem_mem _,g⟩)
       simp only[put]
       by_cases e:d=s
       .subst e
        rw[List.getElem?_set_self (by rw[hl];exact aq)]
        exact (a5 q U5 Z os[q] d x A t g).symm
       .rw[List.getElem?_set_ne e]
        refine ap s fun p hp M o i=>?_
        rcases List.mem_cons.1 hp with rfl | hp
        .rw[A] at i;cases i;rw[g];simpa using e
        .exact hs p hp M o i
     .cases g:os[q].dst with
      | none=>exact aa s hs
      | some d=>
       have ai:(R9 os).contains d=true:=by
        rw[List.contains_iff_mem];simp only[R9,List.mem_filterMap];exact ⟨os[q],List.getElem_mem _,g⟩
       simp only[put];rw[List.getElem?_set_ne (by rintro rfl;rw[hs] at ai;cases ai)]
       exact aa s hs
   .have Z:m<=q:=by omega
    have cx:q=k:=by
     have J:k<=q:=Nat.le_of_not_lt fun e=>O ((ad q Z).2 e);refine Nat.le_antisymm (Nat.le_of_not_lt fun e=>?_) J;have:=hC c q f E k ((an q Z V k e).resolve_right Q4) Q4;have:=(ad k bb).1 this;omega
    subst cx;rw[List.drop_eq_getElem_cons V] at h
    have cb: ∀p∈f,p<m->bit p q=true->False:=fun p hp M hb=>by
     have:=hC c q f E p hb Q4;rw[E] at H;exact (List.nodup_append.1 H).2.2 p this p (by simp[hp]) rfl
    refine Q8D (bz _ (List.getElem_mem _)) (fun s hs=>?_) (fun v w' hv=>?_) h
    .have:l[s]? =lf[s]? :=ap s fun p hp M o i z=>by
      rcases List.mem_cons.1 hp with rfl | hp
      .omega
      refine cb p hp M ?_
      rcases List.mem_append.1 hs with hs | hs
      .unfold H5 at hs
       split at hs
       .simp at hs
       .rename_i j b br
        split at hs
        .rename_i d bq
         simp only[List.mem_singleton] at hs;subst hs;obtain ⟨p',av,bx,hb⟩:=hg q os[q] j b A br;obtain ⟨o',bw,cc⟩:=Option.bind_eq_some_iff.1 bq;have:=Zl os hn p' p o' o s (by rw[bx,bw]) i cc z
         subst this;exact hb
        .simp at hs
      .exact ae p q o os[q] Q4 i A (by simp only[Xa,z,Bool.or_eq_true];left;left;simpa using hs)
     simp only[get,List.getD_eq_getElem?_getD,this]
    .refine ih (c++[q]) (q+1) b7 Q4 Q4 (fun q' a1=>?_) (fun p hp=>al p (by simp[hp])) _ _ w' ?_ ?_ (fun s hs=>?_) (fun p hp M o d x i bc z=>?_) (fun s hs=>?_) hv
     .simp only[List.mem_append,List.mem_singleton,ad q' a1];omega
     .cases g:os[q].dst<;>simp[put,hl]
     .cases g:os[q].dst<;>simp[put,ba]
     .have hb:l[s]? =lf[s]? \/os[q].dst=some s:=by
       left;refine ap s fun p hp M o i=>?_
       rcases List.mem_cons.1 hp with rfl | hp
       .omega
       .exact hs p hp M o i
      cases g:os[q].dst with
      | none=>
       rcases hb with hb | hb
       .exact hb
       .rw[g] at hb;cases hb
      | some d=>
       simp only[put]
       by_cases e:d=s
       .subst e
        have aq:d<C.length:=hd d (by simp only[R9,List.mem_filterMap];exact ⟨os[q],List.getElem_mem _,g⟩)
        rw[List.getElem?_set_self (by rw[hl];exact aq),List.getElem?_set_self (by rw[ba];exact aq)]
       .rw[List.getElem?_set_ne e,List.getElem?_set_ne e]
        rcases hb with hb | hb
        .exact hb
        .rw[g] at hb;cases hb;exact absurd rfl e
     .have cg:=a5 p (by simp[hp]) M o d x i bc z
      cases g:os[q].dst with
      | none=>exact cg
      | some d'=>
       have Y:d'≠d:=by
        rintro rfl;have:=Zl os hn p q o os[q] d' i A z g;omega
       simp only[put];rw[List.getElem?_set_ne Y];exact cg
     .cases g:os[q].dst with
      | none=>exact aa s hs
      | some d=>
       have ai:(R9 os).contains d=true:=by
        rw[List.contains_iff_mem];simp only[R9,List.mem_filterMap];exact ⟨os[q],List.getElem_mem _,g⟩
       simp only[put];rw[List.getElem?_set_ne (by rintro rfl;rw[hs] at ai;cases ai)]
       exact aa s hs
 intro f
 induction f with
 | nil=>
  intro c E D l u iv w hI hA hB hΦ;refine cq c [] E D ?_ l u iv w hI hA hB hΦ;intro q hq;rw[List.append_nil] at E;refine Classical.byContradiction fun a0=>?_
  have J:=H6 os.length (q::c) (List.nodup_cons.2 ⟨a0,E▸H⟩) (fun k hk=>by
   rcases List.mem_cons.1 hk with rfl | hk
   .omega
   .exact ac k (by rw[E];exact hk))
  simp at J
  rw[E] at bo;omega
 | cons q f ih=>
  intro c E D l u iv w hI hA hB hΦ
  have O:q∉c:=by
   rw[E] at H;intro h;exact (List.nodup_append.1 H).2.2 q h q U5 rfl
  have V:=ac q (by rw[E];simp)
  by_cases Z:m<=q
  ·-- the tail begins
   have am: ∀p,p<m->p∉c->Ow os p=true:=fun p hp bv=>by
    rcases an q Z V p Q4 with h | h
    .exact absurd (hC c q f E p h Q4) bv
    .exact h.2
   have bg: ∀p,Ow os p=true-> ∀o,os[p]? =some o-> ∃x,mv o=some x/\ ∀s,x= .tmp s->(R9 os).contains s=false:=by
    intro p hp o i;unfold Ow at hp;rw[i] at hp;simp only at hp;cases N:mv o with
    | none=>rw[N] at hp;cases hp
    | some x=>
     refine ⟨x,rfl,fun s hs=>?_⟩;subst hs;rw[N] at hp;simpa using hp
   obtain ⟨g1,g2⟩:=Bp hn a8 m hm
   have bj: ∀s,(R9 os).contains s=false-> ∀(p:Nat) o,os[p]? =some o->o.dst≠some s:=by
    intro s hs p o i z
    have:(R9 os).contains s=true:=by
     rw[List.contains_iff_mem];simp only[R9,List.mem_filterMap];exact ⟨o,List.mem_of_getElem? i,z⟩
    rw[hs] at this;cases this
   refine cj (q::f) c m E (Nat.le_refl _) hm (fun q' a1=>⟨fun e=>D q' e,fun e=>absurd a1 Q4⟩) (fun p hp M=>am p M fun e=>by
    rw[E] at H;exact (List.nodup_append.1 H).2.2 p e p hp rfl) l (K0 u (O9 (C.map .val) 0 (os.take m))) w hA.len (by simp[K0,Q04 os _ m hm]) (fun s hs=>?_) (fun p hp M o d x i bc z=>?_) (fun s hs=>?_) ?_
   .rw[K0,List.getElem?_map]
    by_cases ar: ∃p,p<m/\ ∃o,os[p]? =some o/\o.dst=some s
    .obtain ⟨p,hp,o,i,z⟩:=ar
     by_cases U:p∈c
     .rw[hA.done p U o s i z,g1 p hp o s i z];rfl
     .exfalso
      have cd:p∈L:=by
       refine Classical.byContradiction fun a0=>?_
       have J:=H6 os.length (p::L) (List.nodup_cons.2 ⟨a0,H⟩) (fun k hk=>by
        rcases List.mem_cons.1 hk with rfl | hk
        .omega
        .exact ac k hk)
       simp at J;omega
      rw[E] at cd
      rcases List.mem_append.1 cd with h | h
      .exact U h
      .exact hs p h hp o i z
    .have af: ∀p,p<m-> ∀o,os[p]? =some o->o.dst≠some s:=fun p hp o i z=>ar ⟨p,hp,o,i,z⟩
     rw[hA.rest s (fun p hp=>af p (D p hp)),g2 s af,List.getElem?_map];cases C[s]? <;>rfl
   .have U:p∉c:=fun e=>by
     rw[E] at H;exact (List.nodup_append.1 H).2.2 p e p hp rfl
    rw[K0,List.getElem?_map,g1 p M o d i z];simp only[Option.map_some,Option.some.injEq];have W:Xj os (C.map .val) p=entOf (O9 (C.map .val) 0 (os.take p)) x:=by simp[Xj,i,Bh,bc]
    rw[W];obtain ⟨x',ch,c1⟩:=bg p (am p M U) o i;rw[bc] at ch;cases ch;cases x with
    | tmp s=>
     have hs:=c1 s rfl;obtain ⟨_,k2⟩:=Bp (S0:=C.map .val) hn a8 p Q4;simp only[entOf];rw[Iw,k2 s (fun p' _ o' bw=>bj s hs p' o' bw),List.getElem?_map];simp only[ev,get,List.getD_eq_getElem?_getD];cases C[s]? <;>rfl
    | _=>rfl
   .exact hA.rest s fun p _ o i=>bj s hs p o i
   .refine hW.last u iv w hI.1 hB U5 fun k o hk t=>?_
    have az:k<m:=by
     have:=(List.getElem?_eq_some_iff.1 hk).1
     simp at this;omega
    rw[Nat.zero_add];rw[X k az] at hk;refine (hΦ k (Classical.byContradiction fun bv=>?_) o hk t).1;obtain ⟨x,hx,_⟩:=bg k (am k az bv) o hk;rw[t] at hx;cases hx
  .have Z:q<m:=by omega
   have A:os[q]? =some os[q]:=List.getElem?_eq_getElem V;obtain ⟨g1,g2⟩:=Bp (S0:=C.map .val) hn a8 q Q4
   -- what a slot holds that this operation reads
   have ag: ∀s,(∃p o,os[p]? =some o/\o.dst=some s/\p<q/\bit p q=true)\/s∈C3 os[q]->
    get l s=(getE (O9 (C.map .val) 0 (os.take q)) s).at u/\ ∀r,getE (O9 (C.map .val) 0 (os.take q)) s= .ref r->r∈c/\ ∃o,os[r]? =some o/\mv o=none:=by
    intro s hs
    have af:(∀p∈c,∀o,os[p]? =some o->o.dst≠some s)->(∀p,p<q-> ∀o,os[p]? =some o->o.dst≠some s)->
     get l s=(getE (O9 (C.map .val) 0 (os.take q)) s).at u/\ ∀r,getE (O9 (C.map .val) 0 (os.take q)) s= .ref r->r∈c/\ ∃o,os[r]? =some o/\mv o=none:=by
     intro J R;rw[Iw,g2 s R,List.getElem?_map];simp only[get,List.getD_eq_getElem?_getD,hA.rest s J];cases C[s]? with
     | none=>exact ⟨rfl,fun r hr=>by cases hr⟩
     | some v=>exact ⟨rfl,fun r hr=>by cases hr⟩
    have bm: ∀p o,os[p]? =some o->o.dst=some s->p<q->p∈c->
     get l s=(getE (O9 (C.map .val) 0 (os.take q)) s).at u/\ ∀r,getE (O9 (C.map .val) 0 (os.take q)) s= .ref r->r∈c/\ ∃o,os[r]? =some o/\mv o=none:=by
     intro p o hp i av U;rw[Iw,g1 p av o s hp i];simp only[get,List.getD_eq_getElem?_getD,hA.done p U o s hp i,Option.getD_some]
     first | exact ⟨rfl,hA.refs p U⟩ | exact ⟨trivial,hA.refs p U⟩
    rcases hs with ⟨p,o,hp,i,av,hb⟩ | hs
    .exact bm p o hp i av (hC c q f E p hb Q4)
    .by_cases ar: ∃(p:Nat) (o:Oper),os[p]? =some o/\o.dst=some s
     .obtain ⟨p,o,hp,i⟩:=ar
      have c5:=(List.getElem?_eq_some_iff.1 hp).1;have aa: ∀p' o',os[p']? =some o'->o'.dst=some s->p'=p:=fun p' o' J R=>Zl os hn p' p o' o s J hp R i
      rcases Nat.lt_trichotomy p q with h | h | h
      .have hb:=ae p q o os[q] h hp A (by simp only[Xa,i,Bool.or_eq_true];left;left;simpa using hs)
       exact bm p o hp i h (hC c q f E p hb Q4)
      .subst h
       exact af (fun p' aj o' J R=>by rw[aa p' o' J R] at aj;exact O aj) (fun p' aj o' J R=>by rw[aa p' o' J R] at aj;omega)
      .refine af (fun p' aj o' J R=>?_) (fun p' aj o' J R=>by rw[aa p' o' J R] at aj;omega)
       have e:=aa p' o' J R;subst e;have hb:=ae q p' os[q] o' h A J (by simp only[Xa,R,Bool.or_eq_true];right;left;simpa using hs)
       obtain ⟨p1,p2,U⟩:=List.append_of_mem aj;have:=hC p1 p' (p2++q::f) (by rw[E,U];simp) q hb V
       exact O (by rw[U];exact List.mem_append_left _ this)
     .exact af (fun p _ o J R=>ar ⟨p,o,J,R⟩) (fun p _ o J R=>ar ⟨p,o,J,R⟩)
   have bs: ∀s∈H5 ops os[q]++C3 os[q],(∃p o,os[p]? =some o/\o.dst=some s/\p<q/\bit p q=true)\/s∈C3 os[q]:=by
    intro s hs
    rcases List.mem_append.1 hs with hs | hs
    .left
     unfold H5 at hs
     split at hs
     .simp at hs
     .rename_i j b br
      split at hs
      .rename_i d bq
       simp only[List.mem_singleton] at hs;subst hs;obtain ⟨p,av,bx,hb⟩:=hg q os[q] j b A br;obtain ⟨o,i,z⟩:=Option.bind_eq_some_iff.1 bq;exact ⟨p,o,by rw[bx,i],z,av,hb⟩
      .simp at hs
    .exact .inr hs
   have a3:=X q Z;rw[A] at a3;rw[List.filterMap_cons,A];simp only
   -- the state behind it
   have step: ∀(v:Value) (u':Nat->Value) (be:Nat->Iv) (w':World),Fb r0 be w'->(∀p∈c,(Xj os (C.map .val) p).at u'=(Xj os (C.map .val) p).at u)->v=(Xj os (C.map .val) q).at u'->
    (∀r,Xj os (C.map .val) q= .ref r->r∈q::c/\ ∃o,os[r]? =some o/\mv o=none)->B w'->(∀r∈q::c,∀o,os[r]? =some o->mv o=none->Φ r u' (be r) w'/\ ∀j∈refs ops (O9 (C.map .val) 0 (os.take r)) o,j∈q::c)->
    Z2 P ops V0 (f.filterMap (os[·]?)) (put l os[q].dst v) w':=by
    intro v u' be w' ct hu hv hr cs ci;have Q: ∀x,x∈c++[q]↔x∈q::c:=by intro x;simp[or_comm]
    refine ih (c++[q]) (by rw[E];simp) (fun x hx=>by rcases List.mem_cons.1 ((Q x).1 hx) with rfl | hx;exact Z;exact D x hx) _ u' be w' ct ?_ cs (fun r hr o i N=>⟨(ci r ((Q r).1 hr) o i N).1,fun j hj=>(Q j).2 ((ci r ((Q r).1 hr) o i N).2 j hj)⟩)
    have a2: ∀p∈c++[q],∀r,Xj os (C.map .val) p= .ref r->r∈c++[q]/\ ∃o,os[r]? =some o/\mv o=none:=by
     intro p hp r b0
     rcases List.mem_cons.1 ((Q p).1 hp) with rfl | hp
     .exact ⟨(Q r).2 (hr r b0).1,(hr r b0).2⟩
     .obtain ⟨J,R⟩:=hA.refs p hp r b0
      exact ⟨List.mem_append_left _ J,R⟩
    cases g:os[q].dst with
    | none=>
     refine ⟨hA.len,?_,?_,a2⟩
     .intro p hp o d i z
      rcases List.mem_cons.1 ((Q p).1 hp) with rfl | hp
      .rw[A] at i;cases i;rw[g] at z;cases z
      .rw[hu p hp];exact hA.done p hp o d i z
     .intro s hs;exact hA.rest s fun p hp=>hs p (List.mem_append_left _ hp)
    | some d0=>
     have aq:d0<C.length:=hd d0 (by simp only[R9,List.mem_filterMap];exact ⟨os[q],List.getElem_mem _,g⟩)
     refine ⟨by simp[put,hA.len],?_,?_,a2⟩
     .intro p hp o d i z
      rcases List.mem_cons.1 ((Q p).1 hp) with rfl | hp2
      .rw[A] at i;cases i
       rw[g] at z;cases z;simp only[put];rw[List.getElem?_set_self (by rw[hA.len];exact aq),hv]
      .have Y:d0≠d:=by
        rintro rfl;have:=Zl os hn p q o os[q] d0 i A z g;subst this;exact O hp2
       simp only[put];rw[List.getElem?_set_ne Y,hu p hp2];exact hA.done p hp2 o d i z
     .intro s hs
      have Y:d0≠s:=fun e=>hs q U5 os[q] A (by rw[g,e])
      simp only[put];rw[List.getElem?_set_ne Y];exact hA.rest s fun p hp=>hs p (List.mem_append_left _ hp)
   cases t:mv os[q] with
   | some x=>
    have W:Xj os (C.map .val) q=entOf (O9 (C.map .val) 0 (os.take q)) x:=by simp[Xj,A,Bh,t]
    -- a move: what the operand holds
    have hx:ev l x=(entOf (O9 (C.map .val) 0 (os.take q)) x).at u/\ ∀r,entOf (O9 (C.map .val) 0 (os.take q)) x= .ref r->r∈c/\ ∃o,os[r]? =some o/\mv o=none:=by
     cases x with
     | tmp s=>
      have hs:s∈C3 os[q]:=by
       unfold mv at t
       split at t
       .cases t
       .simp only[C3,List.mem_filterMap]
        split at t
        .rename_i y hy;cases t;exact ⟨.tmp s,by rw[hy];simp[Op.operands],rfl⟩
        .rename_i y hy;cases t;exact ⟨.tmp s,by rw[hy];simp[Op.operands],rfl⟩
        .cases t
      exact ag s (.inr hs)
     | _=>exact ⟨rfl,fun r hr=>by cases hr⟩
    have a9:os[q].guard=none:=by
     unfold mv at t
     split at t
     .cases t
     .assumption
    simp only[Z2,a9]
    have aw:L7 P l os[q] w (fun v w=>Z2 P ops V0 (f.filterMap (os[·]?)) (put l os[q].dst v) w)=Z2 P ops V0 (f.filterMap (os[·]?)) (put l os[q].dst (ev l x)) w:=by
     unfold mv at t;rw[a9] at t;simp only at t
     split at t
     .rename_i y hy;cases t;simp only[L7,hy]
     .rename_i y hy;cases t;simp only[L7,hy]
     .cases t
    rw[aw]
    refine step _ u iv w hI (fun _ _=>rfl) (by rw[W];exact hx.1) (fun r hr=>by
     rw[W] at hr;obtain ⟨J,R⟩:=hx.2 r hr;exact ⟨List.mem_cons_of_mem _ J,R⟩) hB (fun r hr o i N=>by
     rcases List.mem_cons.1 hr with rfl | hr
     .rw[A] at i;cases i;rw[t] at N;cases N
     .exact ⟨(hΦ r hr o i N).1,fun j hj=>List.mem_cons_of_mem _ ((hΦ r hr o i N).2 j hj)⟩)
   | none=>
    have W:Xj os (C.map .val) q= .ref q:=by simp[Xj,A,Bh,t]
    have bl:=hW.run q os[q] a3 t (bz _ (List.getElem_mem _)) u iv w hI.1 hB;rw[a4 q Q4,Nat.zero_add] at bl;have cz:=hW.stable
    have b1:=bl (fun j hj=>by
     obtain ⟨s,hs,he⟩:=Fz (Ff hj);obtain ⟨J,o,R,h3⟩:=(ag s (bs s hs)).2 j he;exact (hΦ j J o R h3).1)
    have ca: ∀j∈refs ops (O9 (C.map .val) 0 (os.take q)) os[q],j∈c:=fun j hj=>by
     obtain ⟨s,hs,he⟩:=Fz (Ff hj);exact ((ag s (bs s hs)).2 j he).1
    refine Q40 ?_;rw[Q3g (bz _ (List.getElem_mem _)) (l':=K0 u (O9 (C.map .val) 0 (os.take q))) (fun s hs=>by rw[Pp];exact (ag s (bs s hs)).1)]
    refine Q4H ?_ b1;intro v w' ⟨bp,hφ⟩;have Y: ∀r∈c,r≠q:=fun r hr e=>O (e▸hr);refine step v (fun n=>if n=q then v else u n) (fun n=>if n=q then (Ek r0 w,Ek r0 w') else iv n) w' (hI.step (hM iv w w' bp) q) ?_ (by rw[W];simp[Ent.at]) (fun r hr=>by rw[W] at hr;cases hr;exact ⟨by simp,os[q],A,t⟩) (hT iv w w' hB bp) ?_
    .intro p hp
     cases he:Xj os (C.map .val) p with
     | val x=>rfl
     | ref r=>
      have:=Y r (hA.refs p hp r he).1
      simp[Ent.at,this]
    .intro r hr o i N
     rcases List.mem_cons.1 hr with rfl | hr
     .rw[A] at i;cases i
      refine ⟨?_,fun j hj=>List.mem_cons_of_mem _ (ca j hj)⟩;simp only[if_true];exact hφ _ (fun x hx=>by simp[Y x (ca x hx)]) U5
     .obtain ⟨f1,f2⟩:=hΦ r hr o i N
      have ce:=D r hr;have bi:=Y r hr
      have hl:=hW.loc r o (by rw[X r ce];exact i) N (fun n=>if n=q then v else u n) u (fun x hx=>by
       rw[a4 r Q4,Nat.zero_add] at hx
       have:x≠q:=by
        rcases List.mem_cons.1 hx with rfl | hx
        .exact bi
        .exact Y x (f2 x hx)
       simp[this])
      have hs:=cz r o (by rw[X r ce];exact i) N
      rw[Nat.zero_add] at hs hl;refine ⟨?_,fun j hj=>List.mem_cons_of_mem _ (f2 j hj)⟩;simp only[if_neg bi];rw[hl];exact hs _ iv _ _ hI.1 f1 bp
def X5O:Op->Bool
 | .move _ | .assign _ | .fieldAddr .. | .indexAddr .. | .field .. | .index .. | .binOp .. | .unOp .. | .extract .. | .pick .. | .makeFunc .. | .nilCheck _ | .slice .. =>true
 | _=>false
def ready (ops:List Oper) (a:List Nat) (j:Nat):Bool:=(Qg ops j).all (a.contains ·)
def X5N (ops:List Oper) (j:Nat):Bool:=match ops[j]? with | some o=>X5O o.op | none=>false
def X0t (ops:List Oper):Nat->List Nat->List Nat->List Nat
 | 0,_,a=>a.reverse
 | n+1,b,a=>
  match b.find? (fun j=>X5N ops j&&ready ops a j) with
  | some j=>X0t ops n (b.erase j) (j::a)
  | none=>match b.find? (ready ops a) with
   | some j=>X0t ops n (b.erase j) (j::a)
   | none=>a.reverse
def N2 (ops:List Oper):List Nat:=X0t ops ops.length (List.range ops.length) []
def F8 (ops:List Oper) (a:List Nat) (p q:Nat):Bool:=((Pi ops []).getD (a.getD q 0) 0).testBit (a.getD p 0)
def Z3 (ops:List Oper) (a:List Nat):List Oper:=a.map fun i=>ops.getD i default
def cutA (ops:List Oper) (a:List Nat):Nat->Nat
 | 0=>0
 | j+1=>if (List.range j).all (fun i=>F8 ops a i j||Ow (Z3 ops a) i) then cutA ops a j else j+1
def X6X (ops:List Oper) (a:List Nat) (c n:Nat):Bool:=(List.range n).all fun q=>(List.range q).all fun p=>decide (p<c)||F8 ops a p q
def Vp (ops:List Oper) (a:List Nat) (n:Nat):Nat:=if X6X ops a (cutA ops a n) n then cutA ops a n else n
theorem Q5Q (ops:List Oper) (a:List Nat): ∀n,cutA ops a n<=n/\ ∀q,cutA ops a n<=q->q<n-> ∀p,p<q->F8 ops a p q=true\/Ow (Z3 ops a) p=true
 | 0=>⟨Nat.le_refl _,fun q _ h=>by omega⟩
 | j+1=>by
  obtain ⟨g,f⟩:=Q5Q ops a j;simp only[cutA]
  split
  .rename_i h
   refine ⟨by omega,fun q d b p c=>?_⟩
   by_cases e:q=j
   .subst e
    simpa using List.all_eq_true.1 h p (by simpa using c)
   .exact f q d Q4 p c
  .exact ⟨Nat.le_refl _,fun q d b=>by omega⟩
theorem X01 (ops:List Oper) (a:List Nat) (n:Nat):Vp ops a n<=n/\ ∀q,Vp ops a n<=q->q<n-> ∀p,p<q->F8 ops a p q=true\/(p<Vp ops a n/\Ow (Z3 ops a) p=true):=by
 obtain ⟨f,g⟩:=Q5Q ops a n;unfold Vp
 split
 .rename_i i
  refine ⟨f,fun q e b p d=>?_⟩
  by_cases c:p<cutA ops a n
  .exact (g q e b p d).imp id fun h=>⟨c,h⟩
  .left
   have:=List.all_eq_true.1 (List.all_eq_true.1 i q (by simpa using b)) p (by simpa using d)
   simpa [c] using this
 .exact ⟨Nat.le_refl _,fun q e b=>by omega⟩
def Q6K (ops:List Oper) (a:List Nat):Bool:=
 a.length==ops.length&&(List.range ops.length).all (a.contains ·)&&Ys a&&a.all (fun i=>decide (i<ops.length))&&
  (List.range ops.length).all fun q=>(List.range q).all fun p=> !F8 ops a q p
def Wx (ops:List Oper) (n:Nat):Bool:=
 Vq ops&&Q56 (Pi ops []) ops&&Ys (R9 (Z3 ops (N2 ops)))&&(R9 (Z3 ops (N2 ops))).all (fun d=>decide (d<n))&&
  (Qd .any ops (List.range ops.length)&&Qd .text ops (List.range ops.length)&&Qd .gc ops (X3q .gc ops ops.length (List.range ops.length) []))&&Q6K ops (N2 ops)
theorem Q1L: ∀{l:List Nat},Ys l=true->l.Nodup
 | [],_=>List.nodup_nil
 | x::l,h=>by
  simp only[Ys,Bool.and_eq_true,Bool.not_eq_true'] at h;exact List.nodup_cons.2 ⟨by simpa using h.1,Q1L h.2⟩
theorem Q78 {ops:List Oper}: ∀(b:List Oper) (a:List Nat),a.length+b.length=ops.length->(∀k,a.length<=k->ops[k]? =b[k-a.length]?)->
 (∀j k,j<a.length->k∈Qg ops j->(a.getD j 0).testBit k=true)-> ∀j k,j<ops.length->k∈Qg ops j->((Pi b a).getD j 0).testBit k=true
 | [],a,n,_,c=>fun j k p d=>c j k (by simp at n;omega) d
 | o::b,a,n,f,c=>by
  have t:ops[a.length]? =some o:=by rw[f _ (Nat.le_refl _)];simp
  refine Q78 b _ (by simp at n⊢;omega) ?_ ?_
  .intro k d
   simp only[List.length_append,List.length_cons,List.length_nil] at d⊢;rw[f k Q4];obtain ⟨m,r⟩: ∃m,k-a.length=m+1:=⟨k-a.length-1,by omega⟩
   rw[r,List.getElem?_cons_succ]
   congr 1;omega
  .intro j k p d
   simp only[List.length_append,List.length_cons,List.length_nil] at p
   by_cases g:j<a.length
   .simp only[List.getD_eq_getElem?_getD,List.getElem?_append_left g]
    simpa only[List.getD_eq_getElem?_getD] using c j k g d
   .have i:j=a.length:=by omega
    subst i;simp only[List.getD_eq_getElem?_getD,List.getElem?_append_right (Nat.le_refl _),Nat.sub_self,List.getElem?_cons_zero,Option.getD_some];unfold Qg at d;rw[t] at d;simp only[Option.map_some,Option.getD_some,List.mem_map] at d;obtain ⟨e,q,rfl⟩:=d
    have key: ∀(l:List Edge) (s:Nat),(e∈l\/s.testBit e.on=true)->(l.foldl (fun s e=>s ||| 2 ^ e.on ||| (a[e.on]?).getD 0) s).testBit e.on=true:=by
     intro l
     induction l with
     | nil=>intro s h;simpa using h
     | cons x l u=>
      intro s h;refine u _ ?_
      rcases h with h | h
      .rcases List.mem_cons.1 h with rfl | h
       .right;simp
       .exact .inl h
      .right;simp[h]
    exact key _ _ (.inl q)
theorem Cf {α β:Type} {f g:α->Option β}: ∀{l:List α},(∀x∈l,f x=g x)->l.filterMap f=l.filterMap g
 | [],_=>rfl
 | x::l,h=>by
  rw[List.filterMap_cons,List.filterMap_cons,h x U5,Cf fun y a=>h y (by simp[a])]
structure Arr (ops : List Oper) (ord : List Nat) (L : List Nat) : Prop where
  hpl : ∀ o ∈ Z3 ops ord, Yu o.op = true
  hclash : ∀ p q a b, p < q -> (Z3 ops ord)[p]? = some a -> (Z3 ops ord)[q]? = some b -> (Xa a b || Xa b a) = true -> F8 ops ord p q = true
  hg : ∀ q o j b, (Z3 ops ord)[q]? = some o -> o.guard = some (j, b) -> ∃ p, p < q /\ (Z3 ops ord)[p]? = ops[j]? /\ F8 ops ord p q = true
  hn : L.Nodup
  hlt : ∀ q ∈ L, q < (Z3 ops ord).length
  hC : ∀ pre q post, L = pre ++ q :: post -> ∀ p, F8 ops ord p q = true -> p < (Z3 ops ord).length -> p ∈ pre
  hLl : L.length = (Z3 ops ord).length
theorem Pl {ops:Array Oper} {c:List Nat} (X:Vq ops.toList=true) (hc:Q56 (Pi ops.toList []) ops.toList=true) (a9:Qd .any ops.toList (List.range ops.toList.length)=true) (ba:Qd .text ops.toList (List.range ops.toList.length)=true) (bb:Qd .gc ops.toList (X3q .gc ops.toList ops.toList.length (List.range ops.toList.length) [])=true) (O:Q6K ops.toList c=true) (b:Bool) (t:Nat):
 (Region.schedule b ops t).filterMap (ops[·]?)=((Region.schedule b ops t).map (c.idxOf ·)).filterMap ((Z3 ops.toList c)[·]?)/\Arr ops.toList c ((Region.schedule b ops t).map (c.idxOf ·))/\(Z3 ops.toList c).length=ops.toList.length/\(Region.schedule b ops t).Nodup/\ ∀i∈Region.schedule b ops t,i<ops.toList.length/\c.getD (c.idxOf i) 0=i:=by
 simp only[Q6K,Bool.and_eq_true,beq_iff_eq] at O;obtain ⟨⟨⟨⟨ad,R⟩,ax⟩,N⟩,E⟩:=O;have ae:=Q1L ax;have af:(Z3 ops.toList c).length=ops.toList.length:=by simp[Z3,ad]
 have g: ∀p,p<ops.toList.length->c.getD p 0<ops.toList.length:=by
  intro p U;simp only[List.getD_eq_getElem?_getD];rw[List.getElem?_eq_getElem Q4];have:=List.all_eq_true.1 N c[p] (List.getElem_mem _)
  simpa using this
 have d: ∀p,p<ops.toList.length->(Z3 ops.toList c)[p]? =ops.toList[c.getD p 0]? :=by
  intro p U;have n:=g p U;simp only[List.getD_eq_getElem?_getD] at n;rw[List.getElem?_eq_getElem (by omega:p<c.length)] at n
  simp only[Option.getD_some] at n;simp only[Z3,List.getElem?_map,List.getD_eq_getElem?_getD];rw[List.getElem?_eq_getElem (by omega:p<c.length)]
  simp only[Option.map_some,Option.getD_some];rw[List.getElem?_eq_getElem n]
  simp
 obtain ⟨Q,M,A⟩:=Q6G b ops t X (fun m=>by cases m<;>exact ⟨_,by assumption⟩)
 have f:=Q3j b ops t;generalize Region.schedule b ops t=L0 at Q M A f⊢;have z: ∀i,i<ops.toList.length->i∈c:=fun i s=>by simpa using List.all_eq_true.1 R i (by simpa using s)
 have l: ∀i,i<ops.toList.length->c.idxOf i<ops.toList.length/\c.getD (c.idxOf i) 0=i:=by
  intro i s;have n:=List.idxOf_lt_length_of_mem (z i s);refine ⟨by omega,?_⟩
  simp only[List.getD_eq_getElem?_getD];rw[List.getElem?_eq_getElem n]
  simp
 have r: ∀p,p<ops.toList.length->c.idxOf (c.getD p 0)=p:=by
  intro p U;simp only[List.getD_eq_getElem?_getD];rw[List.getElem?_eq_getElem (by omega:p<c.length)]
  simp only[Option.getD_some];exact List.Nodup.idxOf_getElem ae p Q4
 have ac: ∀p q,p<q->q<ops.toList.length->F8 ops.toList c q p=false:=by
  intro p q V u;have:=List.all_eq_true.1 (List.all_eq_true.1 E q (by simpa using u)) p (by simpa using V)
  simpa using this
 have ao:L0.filterMap (ops[·]?)=(L0.map (c.idxOf ·)).filterMap ((Z3 ops.toList c)[·]?):=by
  rw[List.filterMap_map];refine Cf fun i s=>?_;have:=f i s;have n:=l i (by simpa using this)
  simp only[Function.comp];rw[d _ n.1,n.2]
  simp
 refine ⟨ao,⟨?_,?_,?_,?_,?_,?_,by simp[M,ad,Z3]⟩,af,Q,fun i s=>⟨by simpa using f i s,(l i (by simpa using f i s)).2⟩⟩
 .intro o ho
  simp only[Z3,List.mem_map] at ho;obtain ⟨i,s,rfl⟩:=ho;have w:i<ops.toList.length:=by simpa using List.all_eq_true.1 N i s
  simp only[Vq,List.all_eq_true,Bool.and_eq_true] at X;have:=(X (ops.toList[i],i) (by rw[List.mem_zipIdx_iff_getElem?];simpa using w)).1.1
  rw[List.getD_eq_getElem?_getD,List.getElem?_eq_getElem w];exact this
 .intro p q a b' V ha C D
  have U:p<ops.toList.length:=by have:=(List.getElem?_eq_some_iff.1 ha).1;omega
  have u:q<ops.toList.length:=by have:=(List.getElem?_eq_some_iff.1 C).1;omega
  rw[d p U] at ha;rw[d q u] at C
  have Z: ∀i i' x x',i<i'->ops.toList[i]? =some x->ops.toList[i']? =some x'->(Xa x x'||Xa x' x)=true->((Pi ops.toList []).getD i' 0).testBit i=true:=by
   intro i i' x x' av hx a1 D;simp only[Q56,List.all_eq_true] at hc;have:=hc (x',i') (by rw[List.mem_zipIdx_iff_getElem?];simpa using a1) (x,i) (by rw[List.mem_zipIdx_iff_getElem?];simpa using hx)
   simp only[av,D,decide_true,Bool.not_true,Bool.false_or,Bool.or_self] at this;exact this
  have ab:c.getD p 0≠c.getD q 0:=by
   intro e;have:=r p U;rw[e,r q u] at this;omega
  rcases Nat.lt_or_gt_of_ne ab with h | h
  .exact Z _ _ a b' h ha C D
  .have n:=Z _ _ b' a h C ha (by rw[Bool.or_comm];exact D)
   have v:=ac p q V u;unfold F8 at v;rw[n] at v;cases v
 .intro q o j b' u ap
  have H:q<ops.toList.length:=by have:=(List.getElem?_eq_some_iff.1 u).1;omega
  rw[d q H] at u
  have L:j∈Qg ops.toList (c.getD q 0):=by
   have aa:=X;simp only[Vq,List.all_eq_true,Bool.and_eq_true] at aa;have:=(aa (o,c.getD q 0) (by rw[List.mem_zipIdx_iff_getElem?];simpa using u)).2
   rw[ap] at this;simp only[List.any_eq_true] at this;obtain ⟨e,an,am⟩:=this;unfold Qg;rw[u];simp only[Option.map_some,Option.getD_some,List.mem_map];exact ⟨e,an,by simpa using am⟩
  have ar:=Pm X _ (g q H) j L;have hj:j<ops.toList.length:=by have:=g q H;omega
  have C:=Q78 (ops:=ops.toList) ops.toList [] U5 U5 (by intro j k hj;simp at hj) _ j (g q H) L
  obtain ⟨n,v⟩:=l j hj;have J:F8 ops.toList c (c.idxOf j) q=true:=by unfold F8;rw[v];exact C
  refine ⟨c.idxOf j,?_,by rw[d _ n,v],J⟩
  rcases Nat.lt_trichotomy (c.idxOf j) q with h | h | h
  .exact h
  .rw[<-h,v] at ar;omega
  .have:=ac q _ h n
   rw[J] at this;cases this
 .refine List.pairwise_map.2 (Q.imp_of_mem ?_)
  intro x y hx hy aw a2;have n:=(l x (by simpa using f x hx)).2
  have v:=(l y (by simpa using f y hy)).2
  exact aw (by rw[<-n,<-v,a2])
 .intro q u
  simp only[List.mem_map] at u;obtain ⟨i,s,rfl⟩:=u;have:=(l i (by simpa using f i s)).1
  omega
 .intro be q a8 hL p C U
  rw[List.map_eq_append_iff] at hL;obtain ⟨ai,a3,Y,ag,B⟩:=hL;rw[List.map_eq_cons_iff] at B;obtain ⟨i,W,hr,s,az⟩:=B;subst hr s ag;have w:i<ops.toList.length:=by simpa using f i (by rw[Y];simp)
  obtain ⟨n,v⟩:=l i w;unfold F8 at C;rw[v] at C;have ay:p<ops.toList.length:=by omega
  have:=Q8c X A i w (c.getD p 0) ai W Y C;rw[List.mem_map];exact ⟨c.getD p 0,this,r p ay⟩
theorem Q5S {ops:Array Oper} {n:Nat} (a:Wx ops.toList n=true) (b:Bool) (t:Nat): ∃L,(Region.schedule b ops t).filterMap (ops[·]?)=L.filterMap ((Z3 ops.toList (N2 ops.toList))[·]?)/\Arr ops.toList (N2 ops.toList) L/\(Z3 ops.toList (N2 ops.toList)).length=ops.toList.length:=by
 simp only[Wx,Bool.and_eq_true] at a;obtain ⟨⟨⟨⟨⟨k,j⟩,m⟩,l⟩,⟨d,e⟩,f⟩,c⟩:=a;obtain ⟨g,h,i,_⟩:=Pl k j d e f c b t;exact ⟨_,g,h,i⟩
theorem Q9n (P:Program) (r:Bool) (ops:Array Oper) (T:(Nat->Iv)->World->World->Prop) (B:World->Prop) (V0:List Value->World->Prop) (i:List Value) (g:Wx ops.toList i.length=true)
 (z: ∀o w w',B w->T o w w'->B w') (y: ∀o w w',T o w w'->Ek r w<=Ek r w')
 (h:chain P r ops.toList T B V0 ((Z3 ops.toList (N2 ops.toList)).drop (Vp ops.toList (N2 ops.toList) ops.toList.length)) 0
  ((Z3 ops.toList (N2 ops.toList)).take (Vp ops.toList (N2 ops.toList) ops.toList.length)) (i.map .val) [] [])
 (b:Bool) (t:Nat) (w:World) (U:B w):Z2 P ops.toList V0 ((Region.schedule b ops t).filterMap (ops[·]?)) i w:=by
 obtain ⟨L,n,c,u⟩:=Q5S g b t;simp only[Wx,Bool.and_eq_true] at g;obtain ⟨⟨⟨⟨⟨l,V⟩,H⟩,C⟩,⟨J,M⟩,N⟩,s⟩:=g;generalize N2 ops.toList=a at*;obtain ⟨Φ,_,A⟩:=Q1a P r ops.toList T B V0 _ _ 0 (i.map .val) [] [] (by intro e l j D;simp only[List.mem_map] at l;obtain ⟨v,_,rfl⟩:=l;cases D) U5 (by simp[Wl]) h
 rw[n];obtain ⟨k,f⟩:=X01 ops.toList a ops.toList.length
 exact X6Z (os:=Z3 ops.toList a) (m:=Vp ops.toList a ops.toList.length) (T:=T) (B:=B) (Φ:=Φ) (F8 ops.toList a) c.hpl H (fun d E=>by simpa using List.all_eq_true.1 C d E) c.hclash c.hg Q4
  (fun q Q R p O=>f q Q Q4 p O) z y A L c.hn c.hLl c.hlt c.hC _ [] rfl U5 i (fun _=>undef) (fun _=>(0,0)) w .init
  ⟨rfl,by simp,fun _ _=>rfl,by simp⟩ U U5
def Jv {α:Type} (P:Program) (s:Sem α):Prop:= ∀w v w',s.run P w= .ok v w'->w'=w
variable {P : Program} {α β : Type}
theorem Vz (a:α):Jv P (Pure.pure a:Sem α):=fun w v w' h=>by simp at h;exact h.2.symm
theorem Q9b (m:String):Jv P (stuck m:Sem α):=fun w v w' h=>by simp at h
theorem Xk {s:Sem α} {f:α->Sem β} (d:Jv P s) (c: ∀a,Jv P (f a)):Jv P (s>>=f):=fun w v w' h=>by
 rw[Sem.run_bind] at h;cases b:s.run P w with
 | halt x w1=>rw[b] at h;simp[Result.andThen] at h
 | ok a w1=>
  rw[b] at h;have:=d _ _ _ b;subst this;exact c a _ _ _ h
theorem Q4I (a:Addr) (m:Mode):Jv P (load a m):=fun w v w' h=>by
 unfold load at h;simp only[Sem.run] at h
 split at h
 .cases h;rfl
 .split at h
  .cases h;rfl
  .cases h
theorem Kx (t:TypeId):Jv P (typeInfo t):=fun w v w' h=>by
 unfold typeInfo at h;simp only[Sem.run_bind,run_program,Result.andThen_ok] at h
 split at h<;>simp at h
 exact h.2.symm
theorem Q3N (t:TypeId):Jv P (underlying t):=fun w v w' h=>by
 unfold underlying at h;simp only[Sem.run_bind,run_program,Result.andThen_ok] at h
 split at h<;>simp at h
 exact h.2.symm
theorem Q9a (t:TypeId):Jv P (isAgg t):=by
 unfold isAgg;refine Xk (Q3N t) fun d=>?_
 split<;>exact Vz _
theorem Q8i (t:TypeId):Jv P (sizeOf t):=Xk (Kx t) fun _=>Vz _
theorem Q3i (a:Addr): ∀(n i:Nat) (b:Array Value),Jv P (loadCellsFrom a i n b)
 | 0,i,b=>Vz _
 | n+1,i,b=>Xk (Q4I _ _) fun v=>Q3i a n (i+1) _
theorem Q6F (t:TypeId) (a:Addr):Jv P (loadVar t a):=by
 unfold loadVar;refine Xk (Q9a t) fun b=>?_
 split
 .exact Xk (Q8i t) fun n=>Xk (Q3i a n 0 #[]) fun cs=>Vz _
 .exact Q4I _ _
theorem Q8h (t:TypeId) (v:Value):Jv P (Instr.loadAt t v):=by
 unfold Instr.loadAt;refine Xk ?_ fun a=>Q6F t a;unfold Instr.sureAddr
 split
 .exact Vz _
 .exact Q9b _
def Ju (P:Program) (s:Sem α):Prop:= ∀w v w1,s.run P w= .ok v w1->w1=w/\ ∀w',s.run P w'= .ok v w'
theorem Um (a:α):Ju P (Pure.pure a:Sem α):=fun w v w' h=>by simp at h⊢;exact ⟨h.2.symm,h.1⟩
theorem Ni (m:String):Ju P (stuck m:Sem α):=fun w v w' h=>by simp at h
theorem Xc {s:Sem α} {f:α->Sem β} (j:Ju P s) (i: ∀a,Ju P (f a)):Ju P (s>>=f):=fun w v w' h=>by
 rw[Sem.run_bind] at h;cases b:s.run P w with
 | halt x w1=>rw[b] at h;simp[Result.andThen] at h
 | ok a w1=>
  rw[b] at h;obtain ⟨rfl,d⟩:=j _ _ _ b;obtain ⟨e,g⟩:=i a _ _ _ h;refine ⟨e,fun c=>?_⟩;rw[Sem.run_bind,d c];exact g c
theorem Q0b (t:TypeId):Ju P (typeInfo t):=fun w v w' h=>by
 unfold typeInfo at h⊢;simp only[Sem.run_bind,run_program,Result.andThen_ok] at h⊢
 split at h<;>simp at h
 rename_i i a;refine ⟨h.2.symm,fun w'=>?_⟩
 simp[a,h.1]
theorem Nj (t:TypeId):Ju P (underlying t):=fun w v w' h=>by
 unfold underlying at h⊢;simp only[Sem.run_bind,run_program,Result.andThen_ok] at h⊢
 split at h<;>simp at h
 rename_i i a;refine ⟨h.2.symm,fun w'=>?_⟩
 simp[a,h.1]
theorem Cg (v:Value) (i:Nat):Ju P (Instr.extract v i):=by
 unfold Instr.extract
 split
 .split
  .exact Um _
  .exact Ni _
 .exact Ni _
theorem X1C (v:Value):Ju P (Instr.sureAddr v):=by
 unfold Instr.sureAddr
 split
 .exact Um _
 .exact Ni _
theorem Q5g {s:Sem α} (h: ∀w v w',s.run P w≠ .ok v w'):Ju P s:=fun w v w' e=>absurd e (h w v w')
theorem Q5m {s:Sem α} {f:α->Sem β} (c: ∀a w v w',(f a).run P w≠ .ok v w'): ∀w v w',(s>>=f).run P w≠ .ok v w':=fun w v w' h=>by
 rw[Sem.run_bind] at h;cases b:s.run P w with
 | halt x w1=>rw[b] at h;simp[Result.andThen] at h
 | ok a w1=>rw[b] at h;exact c a _ _ _ h
theorem Q4r (e:Int×Int×Bool×BoundsCode): ∀w v w',(runtimePanic (.bounds e.1 e.2.1 e.2.2.1 e.2.2.2):Sem α).run P w≠ .ok v w':=by
 unfold runtimePanic;exact Q5m fun p=>fun w v w' h=>by cases h
theorem Q32 (k:IntKind) (x y:Int) (c:BoundsCode):Ju P (boundsPanic k x y c:Sem α):=Q5g (by
 unfold boundsPanic;dsimp only
 split
 .exact Q5m fun b=>Q4r (_,_,_,_)
 .exact Q5m fun b=>Q4r (_,_,_,_))
theorem Ch (t:TypeId) (x i:Value):Ju P (Instr.indexAt t x i):=by
 unfold Instr.indexAt;refine Xc ?_ fun q=>?_
 .unfold asIntOf
  split
  .exact Um _
  .exact Q5g fun w v w' h=>by cases h
  .exact Ni _
 refine Xc (Nj t) fun d=>?_;dsimp only
 have key: ∀(z:Option Addr×Nat×TypeId),Ju P (match z with
  | (base,b,elem)=>do
   let __do_lift<-underlying t
   have c:Bool:=decide (b<=1)&&match __do_lift with
    | TypeDesc.array b elem=>true
    | x=>false
   match base with
    | some a=>
     if 0<=q.snd/\q.snd< ↑b then do
      let __do_lift<-sizeOf elem
      pure (Value.pointer (some (a.add (q.snd.toNat*__do_lift))))
     else
      if c=true then unsupported (Unsupported.noEntry "op/indexAddr.an index out of range at an array of length 0 or 1 (ledger 616)")
      else boundsPanic q.fst q.snd (↑b) BoundsCode.index
    | none=>boundsPanic q.fst q.snd 0 BoundsCode.index):=by
  rintro ⟨base,b,elem⟩;dsimp only;refine Xc (Nj t) fun g=>?_;cases base with
  | none=>exact Q32 _ _ _ _
  | some a=>
   dsimp only
   by_cases e:0<=q.snd/\q.snd< ↑b
   .rw[if_pos e]
    exact Xc (Xc (Q0b _) fun _=>Um _) fun n=>Um _
   .rw[if_neg e]
    by_cases f:(decide (b<=1)&&match g with
     | TypeDesc.array b elem=>true
     | x=>false)=true
    .rw[if_pos f]
     exact Q5g fun w v w' h=>by cases h
    .rw[if_neg f]
     exact Q32 _ _ _ _
 split
 .exact Xc (X1C _) fun a=>Xc (Um _) key
 .exact Xc (Um _) key
 .exact Xc (Ni _) key
def Q21 (o:Oper):Bool:=match o.op with | .move _ | .assign _ | .load .. | .extract .. | .indexAddr .. =>true | _=>false
def Q5f (o:Oper):Bool:=match o.op with | .move _ | .assign _ | .extract .. | .indexAddr .. =>true | _=>false
theorem Sg {s:Sem Value} {w:World} {K:Value->World->Prop} (h:op P (sv s) w K): ∃v w',s.run P w= .ok v w'/\K v w':=by
 rw[Zw] at h;unfold Ye sv at h;rw[Sem.run_bind] at h;cases a:s.run P w with
 | halt x w1=>rw[a] at h;exact h.elim
 | ok v w1=>rw[a] at h;exact ⟨v,w1,rfl,h⟩
theorem So {s:Sem Value} {v:Value} {w w':World} {K:Value->World->Prop} (h:s.run P w= .ok v w') (k:K v w'):op P (sv s) w K:=by
 rw[Zw];unfold Ye sv;rw[Sem.run_bind,h];exact k
theorem X28 {p:Program} {w w':World} {a k:Addr} {u:TypeId} {b:Bool} {r} (h: ∀(i:Nat) o,w.heap[i]? =some o->w'.heap[i]? =some o) (c:w.seen p a u k b= .ok r):w'.seen p a u k b= .ok r:=by
 cases e:w.heap[a.block]? with
 | some o=>
  have d:=h _ _ e;unfold World.seen at*;rw[d];rw[e] at c;exact c
 | none=>
  exfalso
  unfold World.seen at c;simp only[e,bind,Except.bind,throw,throwThe,MonadExceptOf.throw,pure,Except.pure] at c
  repeat (first | cases c | split at c)
theorem X2M {p:Program} {w w':World} {a:Addr} {b:Bool} {r} (h: ∀(i:Nat) o,w.heap[i]? =some o->w'.heap[i]? =some o) (c:w.farLoad p a b= .ok r):w'.farLoad p a b= .ok r:=by
 unfold World.farLoad at*;cases e:w.heap[a.block]? with
 | none=>rw[e] at c;cases c
 | some o=>
  rw[e] at c;rw[h _ _ e];cases o with
  | view d u=>
   simp only at c⊢;cases f:w.viewLoad p d u a b with
   | error s=>rw[f] at c;cases c
   | ok q=>
    rw[f] at c
    have:w'.viewLoad p d u a b= .ok q:=by
     unfold World.viewLoad at*;cases g:w.seen p d u a b with
     | error s=>rw[g] at f;cases f
     | ok z=>rw[X28 h g];rw[g] at f;exact f
    rw[this];exact c
  | _=>simp only at c;cases c
def Hg {α:Type} (P:Program) (s:Sem α):Prop:= ∀w v w1,s.run P w= .ok v w1->w1=w/\ ∀w':World,(∀(i:Nat) o,w.heap[i]? =some o->w'.heap[i]? =some o)->s.run P w'= .ok v w'
theorem Rj (a:α):Hg P (Pure.pure a:Sem α):=fun w v w' h=>by simp at h⊢;exact ⟨h.2.symm,fun _ _=>h.1⟩
theorem X0h (m:String):Hg P (stuck m:Sem α):=fun w v w' h=>by simp at h
theorem Uy {s:Sem α} {f:α->Sem β} (k:Hg P s) (j: ∀a,Hg P (f a)):Hg P (s>>=f):=fun w v w' h=>by
 rw[Sem.run_bind] at h;cases b:s.run P w with
 | halt x w1=>rw[b] at h;simp[Result.andThen] at h
 | ok a w1=>
  rw[b] at h;obtain ⟨rfl,e⟩:=k _ _ _ b;obtain ⟨g,i⟩:=j a _ _ _ h;refine ⟨g,fun d c=>?_⟩;rw[Sem.run_bind,e d c];exact i d c
theorem Q61 (a:Addr) (m:Mode):Hg P (load a m):=fun w v w1 h=>by
 unfold load at h⊢;simp only[Sem.run] at h⊢;cases e:w.cell? a with
 | some x=>
  rw[e] at h;cases h;refine ⟨rfl,fun w' d=>?_⟩
  have:w'.cell? a=some v:=by
   unfold World.cell? at*;cases c:w.heap[a.block]? with
   | none=>rw[c] at e;cases e
   | some o=>rw[c] at e;rw[d _ _ c];exact e
  rw[this]
 | none=>
  rw[e] at h;simp only at h;cases b:w.farLoad P a (m== .atomic) with
  | error s=>rw[b] at h;cases h
  | ok q=>
   rw[b] at h;cases h;refine ⟨rfl,fun w' d=>?_⟩;have g:=X2M d b;cases f:w'.cell? a with
   | none=>simp only[g]
   | some x=>
    exfalso
    unfold World.farLoad at b;unfold World.cell? at f;cases c:w.heap[a.block]? with
    | none=>rw[c] at b;cases b
    | some o=>
     rw[d _ _ c] at f;rw[c] at b;cases o<;>first | cases f | (simp only at b;cases b)
theorem Q60 {s:Sem α} (h:Ju P s):Hg P s:=fun w v w1 e=>⟨(h w v w1 e).1,fun w' _=>(h w v w1 e).2 w'⟩
theorem X0g (t:TypeId):Hg P (isAgg t):=by
 unfold isAgg;refine Uy (Q60 (Nj t)) fun d=>?_
 split<;>exact Rj _
theorem Q4i (a:Addr): ∀(n i:Nat) (b:Array Value),Hg P (loadCellsFrom a i n b)
 | 0,i,b=>Rj _
 | n+1,i,b=>Uy (Q61 _ _) fun v=>Q4i a n (i+1) _
theorem Q8K (t:TypeId) (v:Value):Hg P (Instr.loadAt t v):=by
 unfold Instr.loadAt;refine Uy ?_ fun a=>?_
 .unfold Instr.sureAddr
  split
  .exact Rj _
  .exact X0h _
 .unfold loadVar
  refine Uy (X0g t) fun b=>?_
  split
  .exact Uy (Uy (Q60 (Q0b t)) fun _=>Rj _) fun n=>Uy (Q4i a n 0 #[]) fun cs=>Rj _
  .exact Q61 _ _
theorem X1Z {l:List Value} {o:Oper} {w:World} {K:Value->World->Prop} (h:Q21 o=true) (c:L7 P l o w K): ∃v,K v w/\ ∀(w':World) b,(∀(i:Nat) o,w.heap[i]? =some o->w'.heap[i]? =some o)->b v w'->L7 P l o w' b:=by
 obtain ⟨d,p,n,pos,m,g⟩:=o;cases p<;>(first | (simp[Q21] at h;done) | skip)<;>simp only[L7] at c⊢
 .exact ⟨_,c,fun w' b _ a=>a⟩
 .exact ⟨_,c,fun w' b _ a=>a⟩
 .obtain ⟨v,w',e,f⟩:=Sg c
  obtain ⟨rfl,j⟩:=Q8K _ _ _ _ _ e;exact ⟨v,f,fun w' b k a=>So (j w' k) a⟩
 .obtain ⟨v,w',e,f⟩:=Sg c
  obtain ⟨rfl,j⟩:=Ch _ _ _ _ _ _ e;exact ⟨v,f,fun w' b k a=>So (j w') a⟩
 .obtain ⟨v,w',e,f⟩:=Sg c
  obtain ⟨rfl,j⟩:=Cg _ _ _ _ _ e;exact ⟨v,f,fun w' b k a=>So (j w') a⟩
theorem Q5n {γ δ:Type} {s:Sem γ} {f:γ->Sem δ} {w w':World} {v:δ} (h:(s>>=f).run P w= .ok v w'): ∃a w1,s.run P w= .ok a w1/\(f a).run P w1= .ok v w':=by
 rw[Sem.run_bind] at h;cases b:s.run P w with
 | halt x w1=>rw[b] at h;simp[Result.andThen] at h
 | ok a w1=>rw[b] at h;exact ⟨a,w1,rfl,h⟩
theorem X3l {γ:Type} {r:Unsupported}:Jv P (unsupported r:Sem γ):=fun w v w' h=>by simp[unsupported] at h
theorem Q6W {l:List Value} {o:Oper} {w:World} {K:Value->World->Prop} (h:Eu o=true) (j:L7 P l o w K): ∃v w',(∀(i:Nat) o,w.heap[i]? =some o->w'.heap[i]? =some o)/\K v w'/\ ∀b:Value->World->Prop,b v w'->L7 P l o w b:=by
 obtain ⟨d,p,D,pos,B,g⟩:=o;cases p<;>(first | (simp[Eu] at h;done) | skip)
 simp only[L7] at j⊢;obtain ⟨v,w',f,s⟩:=Sg j;refine ⟨v,w',?_,s,fun b t=>So f t⟩;have a:=f;unfold Instr.alloc zeroValue at a;obtain ⟨z,w1,A,m⟩:=Q5n a;have y:w1=w:=Xk (Kx _) (fun i=>by split;exact Vz _;exact X3l) _ _ _ A
 subst y;simp only at m;obtain ⟨c,E,n,q⟩:=Q5n m;simp only[Sem.run_pure,Result.ok.injEq] at q;obtain ⟨_,rfl⟩:=q;unfold newVar newRow at n;obtain ⟨C,H,e,r⟩:=Q5n n;simp only[Sem.run_pure,Result.ok.injEq] at r;obtain ⟨_,rfl⟩:=r;unfold newObj at e;simp only[Sem.run,Result.ok.injEq] at e;obtain ⟨_,rfl⟩:=e;intro i o k;have u:=(Array.getElem?_eq_some_iff.1 k).1;simp only[Array.getElem?_push];rw[if_neg Q4];exact k
theorem Q86 {l:List Value} {o:Oper} {w:World} {K:Value->World->Prop} (h:Q21 o=true) (e:L7 P l o w K): ∃v,K v w/\ ∀c,c v w->L7 P l o w c:=by
 obtain ⟨d,p,j,pos,i,g⟩:=o;cases p<;>(first | (simp[Q21] at h;done) | skip)<;>simp only[L7] at e⊢
 .exact ⟨_,e,fun c a=>a⟩
 .exact ⟨_,e,fun c a=>a⟩
 .obtain ⟨v,w',b,f⟩:=Sg e
  have:=Q8h _ _ _ _ _ b;subst this;exact ⟨v,f,fun c a=>So b a⟩
 .obtain ⟨v,w',b,f⟩:=Sg e
  have:=(Ch _ _ _ _ _ _ b).1;subst this;exact ⟨v,f,fun c a=>So b a⟩
 .obtain ⟨v,w',b,f⟩:=Sg e
  have:=(Cg _ _ _ _ _ b).1;subst this;exact ⟨v,f,fun c a=>So b a⟩
theorem Q3y {l:List Value} {o:Oper} {w:World} {K:Value->World->Prop} (h:Q5f o=true) (c:L7 P l o w K): ∃v,K v w/\ ∀w' b,b v w'->L7 P l o w' b:=by
 obtain ⟨d,p,k,pos,j,g⟩:=o;cases p<;>(first | (simp[Q5f] at h;done) | skip)<;>simp only[L7] at c⊢
 .exact ⟨_,c,fun w' b a=>a⟩
 .exact ⟨_,c,fun w' b a=>a⟩
 .obtain ⟨v,w',e,f⟩:=Sg c
  obtain ⟨rfl,i⟩:=Ch _ _ _ _ _ _ e;exact ⟨v,f,fun w' b a=>So (i w') a⟩
 .obtain ⟨v,w',e,f⟩:=Sg c
  obtain ⟨rfl,i⟩:=Cg _ _ _ _ _ e;exact ⟨v,f,fun w' b a=>So (i w') a⟩
structure Swap (ops : List Oper) (a b : Oper) : Prop where
  pa : Yu a.op = true
  pb : Yu b.op = true
  ga : a.guard = none
  ab : ∀ d, a.dst = some d -> d ∉ H5 ops b ++ C3 b
  ba : ∀ d, b.dst = some d -> d ∉ H5 ops a ++ C3 a
  dd : ∀ d, a.dst = some d -> b.dst ≠ some d
  gb : ∀ j c, b.guard = some (j, c) -> ((ops[j]?).bind (·.dst)).isSome = true
  rd : (Q21 a = true /\ (Q21 b = true \/ Eu b = true) /\ b.guard = none \/ Eu a = true /\ Q5f b = true /\ b.guard = none) \/ Q5f a = true
variable {ops : List Oper} {V0 : List Value -> World -> Prop}
theorem Q3Q {l:List Value} {d:Option Nat} {v:Value} {s:Nat} (h: ∀e,d=some e->e≠s):get (put l d v) s=get l s:=by
 cases d with
 | none=>rfl
 | some e=>simp only[put,get,List.getD_eq_getElem?_getD,List.getElem?_set_ne (h e rfl)]
theorem X2b {l:List Value} {d e:Option Nat} {v u:Value} (h: ∀x,d=some x->e≠some x):put (put l d v) e u=put (put l e u) d v:=by
 cases d with
 | none=>rfl
 | some d=>cases e with
  | none=>rfl
  | some e=>simp only[put];exact List.set_comm _ _ (by intro a;subst a;exact h d rfl rfl)
theorem Q6a {o:Oper} {s:Nat} (a:Operand.tmp s∈o.op.operands):s∈C3 o:=by
 simp only[C3,List.mem_filterMap];exact ⟨.tmp s,by simpa using a,rfl⟩
theorem Q8E {a b:Oper} {R:List Oper} {l:List Value} {w:World} (Y:Swap ops a b) (h:Z2 P ops V0 (a::b::R) l w):Z2 P ops V0 (b::a::R) l w:=by
 obtain ⟨pa,Z,V,L,O,Q,W,N⟩:=Y
 have o: ∀v,L7 P (put l a.dst v) b=L7 P l b:=fun v=>Hh Z fun x J=>by
  cases x with
  | tmp s=>exact Q3Q fun e t g=>L e t (List.mem_append_right _ (g▸Q6a J))
  | _=>rfl
 have m: ∀v,L7 P (put l b.dst v) a=L7 P l a:=fun v=>Hh pa fun x J=>by
  cases x with
  | tmp s=>exact Q3Q fun e t g=>O e t (List.mem_append_right _ (g▸Q6a J))
  | _=>rfl
 have n: ∀v u,put (put l b.dst u) a.dst v=put (put l a.dst v) b.dst u:=fun v u=>(X2b Q).symm;simp only[Z2,V] at h⊢;cases k:b.guard with
 | none=>
  simp only[k] at h⊢
  rcases N with (⟨z,rb | rb,_⟩ | ⟨z,U,_⟩) | fa
  .obtain ⟨A,f,i⟩:=Q86 z h
   rw[o] at f;obtain ⟨B,p,r⟩:=Q86 rb f;refine r _ ?_;rw[m];exact i _ (by rw[n];exact p)
  .obtain ⟨A,f,i⟩:=X1Z z h
   rw[o] at f;obtain ⟨B,wb,k,p,r⟩:=Q6W rb f;refine r _ ?_;rw[m];exact i wb _ k (by rw[n];exact p)
  .obtain ⟨A,wa,k,f,i⟩:=Q6W z h
   rw[o] at f;obtain ⟨B,p,r⟩:=Q3y U f;refine r w _ ?_;rw[m];exact i _ (by rw[n];exact p)
  .obtain ⟨A,f,i⟩:=Q3y fa h
   rw[o] at f;refine P5 (fun B w' H=>?_) f;rw[m];exact i w' _ (by rw[n];exact H)
 | some q=>
  obtain ⟨j,c⟩:=q
  rcases N with (⟨_,_,y⟩ | ⟨_,_,y⟩) | fa
  .rw[k] at y;cases y
  .rw[k] at y;cases y
  obtain ⟨d,M⟩:=Option.isSome_iff_exists.1 (W j c k);have E:d∈H5 ops b:=by simp[H5,k,M]
  have X: ∀v,get (put l a.dst v) d=get l d:=fun v=>Q3Q fun e t g=>L e t (List.mem_append_left _ (g▸E));simp only[k,M] at h⊢;obtain ⟨A,f,i⟩:=Q3y fa h;rw[o,X] at f;refine Q1y ((Mu f).imp (fun ⟨C,D⟩=>⟨C,P5 (fun B w' H=>?_) D⟩) (fun ⟨C,D⟩=>⟨C,?_⟩))
  .rw[m];exact i w' _ (by rw[n];exact H)
  .rw[m];exact i w _ (by rw[n];exact D)
theorem Q30 {a:Oper} {R R':List Oper} {l:List Value} {w:World} (b: ∀l w,Z2 P ops V0 R l w->Z2 P ops V0 R' l w) (h:Z2 P ops V0 (a::R) l w):Z2 P ops V0 (a::R') l w:=by
 simp only[Z2] at h⊢;cases k:a.guard with
 | none=>simp only[k] at h⊢;exact P5 (fun v w g=>b _ _ g) h
 | some q=>
  obtain ⟨j,c⟩:=q;simp only[k] at h⊢;cases i:(ops[j]?).bind (·.dst) with
  | none=>simp only[i] at h⊢;exact b _ _ h
  | some d=>
   simp only[i] at h⊢;exact Q1y ((Mu h).imp (fun ⟨e,f⟩=>⟨e,P5 (fun m w' g=>b _ _ g) f⟩) (fun ⟨e,f⟩=>⟨e,b _ _ f⟩))
theorem Q1b {q:Oper} {R:List Oper}: ∀(A:List Oper) {l:List Value} {w:World},(∀a∈A,Swap ops a q)->Z2 P ops V0 (A++q::R) l w->Z2 P ops V0 (q::(A++R)) l w
 | [],_,_,_,h=>h
 | a::A,l,w,c,h=>Q8E (c a U5) (Q30 (R:=A++q::R) (fun _ _ h=>Q1b A (fun b d=>c b (by simp[d])) h) h)
theorem Ng: ∀(A:List Oper) {B:List Oper} {l:List Value} {w:World},Z2 P ops V0 (A++B) l w=Z2 P ops (fun l w=>Z2 P ops V0 B l w) A l w
 | [],B,l,w=>rfl
 | a::A,B,l,w=>by
  simp only[List.cons_append,Z2]
  split
  .congr 1;funext v w;exact Ng A
  .split
   .congr 1;funext v w;exact Ng A
   .exact Ng A
theorem X03 {A B B':List Oper} {l:List Value} {w:World} (b: ∀l w,Z2 P ops V0 B l w->Z2 P ops V0 B' l w): ∀{l:List Value} {w:World},Z2 P ops V0 (A++B) l w->Z2 P ops V0 (A++B') l w:=by
 induction A with
 | nil=>exact fun h=>b _ _ h
 | cons a A c=>exact fun h=>Q30 (fun _ _ h=>c h) h
theorem Q9I (os:List Oper) (bit:Nat->Nat->Bool) (t: ∀p q a b,p<q->os[p]? =some a->os[q]? =some b->bit p q=false->Swap ops a b):
 ∀(n:Nat) (V0:List Value->World->Prop) (L:List Nat) (l:List Value) (w:World),L.Nodup->L.length=n->(∀q∈L,q<n)->n<=os.length->L.Pairwise (fun q p=>p<q->bit p q=false)->
  Z2 P ops V0 (os.take n) l w->Z2 P ops V0 (L.filterMap (os[·]?)) l w
 | 0,V0,L,l,w,u,v,g,y,D,h=>by
  have:L=[]:=List.eq_nil_of_length_eq_zero v;subst this;exact h
 | n+1,V0,L,l,w,u,v,g,y,D,h=>by
  have V:n∈L:=Classical.byContradiction fun o=>by
   have O:=H6 n L u fun k J=>by
    have i:=g k J;have H:k≠n:=fun e=>o (e▸J);omega
   omega
  obtain ⟨A,B,rfl⟩:=List.append_of_mem V;have d:n<os.length:=by omega
  have c:os[n]? =some os[n]:=List.getElem?_eq_getElem d;have m:=List.nodup_append.1 u;have C:n∉B:=(List.nodup_cons.1 m.2.1).1;have z:n∉A:=fun e=>m.2.2 n e n U5 rfl;have N:os.take (n+1)=os.take n++[os[n]]:=(List.take_append_getElem d).symm;rw[N,Ng] at h
  have j: ∀q∈A++B,q<n:=fun q M=>by
   have O:q<n+1:=g q (by rcases List.mem_append.1 M with h | h<;>simp[h])
   have i:q≠n:=fun e=>by
    subst e
    rcases List.mem_append.1 M with h | h
    .exact z h
    .exact C h
   omega
  have f:(A++B).Sublist (A++n::B):=List.Sublist.append (List.Sublist.refl A) (List.sublist_cons_self n B);have i:=Q9I os bit t n _ (A++B) l w (u.sublist f) (by simp at v⊢;omega) j Q4 (D.sublist f) h
  rw[<-Ng] at i;rw[List.filterMap_append,List.append_assoc] at i;rw[List.filterMap_append,List.filterMap_cons,c];refine X03 (l:=l) (w:=w) (fun l w H=>?_) i;have:=Q1b (R:=[]) (B.filterMap (os[·]?)) (fun a U=>?_) H
  .rwa [List.append_nil] at this
  .obtain ⟨p,r,E⟩:=List.mem_filterMap.1 U
   have s:=j p (List.mem_append_right _ r);refine t p n a _ s E c ?_;have Q:=(List.pairwise_append.1 D).2.1;exact (List.pairwise_cons.1 Q).1 p r s
def Q4N (ops:List Oper) (a b:Oper):Bool:=
 (match a.guard with | none=>true | some _=>false)&&(match b.guard with | none=>true | some (j,_)=>match (ops[j]?).bind (·.dst) with | some _=>true | none=>false)&&
  (((Q21 a&&(Q21 b||Eu b)||Eu a&&Q5f b)&&(match b.guard with | none=>true | some _=>false))||Q5f a)
def X0S (ops:List Oper) (a:List Nat):Bool:=
 ops.any Q7r&&ops.any Q1C&&(List.range ops.length).all fun q=>(List.range q).all fun p=>F8 ops a p q||Q4N ops (ops.getD (a.getD p 0) default) (ops.getD (a.getD q 0) default)
theorem Ey {α:Type} {R:α->α->Prop}: ∀(a b:List α) {L:List α},L=b++a->(∀b q a,L=b++q::a-> ∀p∈a,R q p)->a.Pairwise R
 | [],_,_,_,_=>List.Pairwise.nil
 | q::a,b,L,c,h=>List.pairwise_cons.2 ⟨h b q a c,Ey a (b++[q]) (by rw[c];simp) h⟩
theorem Q57 {P:Program} {ops:Array Oper} {V0:List Value->World->Prop} {l0:List Value} {ord L:List Nat} {bit:Nat->Nat->Bool} (ha:Arr ops.toList ord L) (hosl:(Z3 ops.toList ord).length=ops.toList.length) (hn:Ys (R9 (Z3 ops.toList ord))=true) (hbit: ∀p q,F8 ops.toList ord p q=true->bit p q=true)
 (hsq: ∀p q,p<q->q<ops.toList.length->(bit p q||Q4N ops.toList (ops.toList.getD (ord.getD p 0) default) (ops.toList.getD (ord.getD q 0) default))=true) (hpair:L.Pairwise fun q p=>p<q->bit p q=false) (w:World)
 (h:Z2 P ops.toList V0 (Z3 ops.toList ord) l0 w):Z2 P ops.toList V0 (L.filterMap ((Z3 ops.toList ord)[·]?)) l0 w:=by
 refine Q9I (Z3 ops.toList ord) bit (fun p q a b' hpq hpa hqb hb=>?_) _ V0 L l0 w ha.hn rfl (fun q hq=>by rw[ha.hLl];exact ha.hlt q hq) (by rw[ha.hLl];exact Nat.le_refl _) hpair (by rw[ha.hLl,List.take_length];exact h)
 have hql:q<ops.toList.length:=by have:=(List.getElem?_eq_some_iff.1 hqb).1;omega
 have hpl:p<ops.toList.length:=by omega
 have hget: ∀i o,(Z3 ops.toList ord)[i]? =some o->ops.toList.getD (ord.getD i 0) default=o:=by
  intro i o hi;unfold Z3 at hi;rw[List.getElem?_map] at hi;cases ho:ord[i]? with
  | none=>rw[ho] at hi;cases hi
  | some x=>
   rw[ho] at hi;simp only[Option.map_some,Option.some.injEq] at hi;rw[List.getD_eq_getElem?_getD (l:=ord),ho];exact hi
 have hnc:(Xa a b'||Xa b' a)=false:=by
  cases hx:Xa a b'||Xa b' a with
  | false=>rfl
  | true=>rw[hbit p q (ha.hclash p q a b' hpq hpa hqb hx)] at hb;cases hb
 rw[Bool.or_eq_false_iff] at hnc;have hs:=hsq p q hpq hql;rw[hb,Bool.false_or,hget p a hpa,hget q b' hqb] at hs;simp only[Q4N,Bool.and_eq_true,Bool.or_eq_true] at hs;obtain ⟨⟨g1,g2⟩,g3⟩:=hs
 have hga:a.guard=none:=by
  cases hx:a.guard with
  | none=>rfl
  | some _=>rw[hx] at g1;cases g1
 have c1: ∀d,a.dst=some d->d∉C3 b'/\b'.dst≠some d:=fun d hd=>by
  have:=hnc.1;unfold Xa at this;rw[hd] at this;simp only[Bool.or_eq_false_iff] at this;exact ⟨fun hm=>by simp[hm] at this,fun hm=>by simp[hm] at this⟩
 have c2: ∀d,b'.dst=some d->d∉C3 a:=fun d hd=>by
  have:=hnc.2;unfold Xa at this;rw[hd] at this;simp only[Bool.or_eq_false_iff] at this;exact fun hm=>by simp[hm] at this
 refine ⟨ha.hpl a (List.mem_of_getElem? hpa),ha.hpl b' (List.mem_of_getElem? hqb),hga,fun d hd'=>?_,fun d hd'=>?_,fun d hd'=>(c1 d hd').2,fun j c hbg=>?_,?_⟩
 .rw[List.mem_append,not_or]
  refine ⟨fun hm=>?_,(c1 d hd').1⟩;unfold H5 at hm;cases hbg:b'.guard with
  | none=>rw[hbg] at hm;simp at hm
  | some q0=>
   obtain ⟨j,c⟩:=q0;obtain ⟨p',hp',hpj,hbt⟩:=ha.hg q b' j c hqb hbg;rw[hbg] at hm;simp only at hm;cases hjd:ops.toList[j]?.map (·.dst) with
   | none=>
    cases hj:ops.toList[j]? with
    | none=>rw[hj] at hm;simp at hm
    | some oj=>rw[hj] at hjd;cases hjd
   | some dj=>
    cases hj:ops.toList[j]? with
    | none=>rw[hj] at hjd;cases hjd
    | some oj=>
     rw[hj] at hm hpj;simp only[Option.bind_some] at hm;cases hdj:oj.dst with
     | none=>rw[hdj] at hm;simp at hm
     | some d2=>
      rw[hdj] at hm;simp only[List.mem_singleton] at hm;subst hm;have:=Zl (Z3 ops.toList ord) hn p' p oj a d hpj hpa hdj hd';subst this;rw[hbit _ _ hbt] at hb;cases hb
 .rw[List.mem_append,not_or]
  exact ⟨fun hm=>by simp[H5,hga] at hm,c2 d hd'⟩
 .rw[hbg] at g2
  simp only at g2;cases hx:(ops.toList[j]?).bind (·.dst) with
  | none=>rw[hx] at g2;cases g2
  | some _=>rfl
 .rcases g3 with ⟨g3,g5⟩ | g3
  .have hn:b'.guard=none:=by
    cases hx:b'.guard with
    | none=>rfl
    | some _=>rw[hx] at g5;cases g5
   exact .inl (g3.imp (fun g=>⟨g.1,g.2,hn⟩) fun g=>⟨g.1,g.2,hn⟩)
  .exact .inr g3
theorem X5A (P:Program) (ops:Array Oper) (V0:List Value->World->Prop) (m:List Value) (a:Wx ops.toList m.length=true) (e:X0S ops.toList (N2 ops.toList)=true)
 (b:Bool) (t:Nat) (w:World) (h:Z2 P ops.toList V0 (Z3 ops.toList (N2 ops.toList)) m w):Z2 P ops.toList V0 ((Region.schedule b ops t).filterMap (ops[·]?)) m w:=by
 obtain ⟨L,k,i,c⟩:=Q5S a b t;simp only[Wx,Bool.and_eq_true] at a;obtain ⟨⟨⟨⟨⟨E,C⟩,y⟩,D⟩,⟨z,A⟩,B⟩,r⟩:=a;generalize N2 ops.toList=f at*;rw[k];refine Q57 i c y (bit:=F8 ops.toList f) (fun _ _ h=>h) (fun p q d l=>?_) ?_ w h
 .simp only[X0S,Bool.and_eq_true] at e
  exact List.all_eq_true.1 (List.all_eq_true.1 e.2 q (by simpa using l)) p (by simpa using d)
 .refine Ey L [] (L:=L) rfl fun n q g j p s d=>?_
  cases v:F8 ops.toList f p q with
  | false=>rfl
  | true=>
   have u:=i.hC n q g j p v (i.hlt p (by rw[j];simp[s]))
   have o:=i.hn;rw[j] at o;exact absurd rfl ((List.nodup_append.1 o).2.2 p u p (by simp[s]))
def X66 (b:List Nat) (a c:Nat):List Nat:=((b.erase a).takeWhile (· !=c))++a::((b.erase a).dropWhile (· !=c))
def Q8j (ops:List Oper) (d b:List Nat) (a c:Nat):Bool:=
 Q6K ops b&&Ys (R9 (Z3 ops b))&&
  ((List.range ops.length).all fun q=>(List.range q).all fun p=>(F8 ops d p q||(d.getD p 0==c&&d.getD q 0==a))||Q4N ops (ops.getD (d.getD p 0) default) (ops.getD (d.getD q 0) default))&&
  ((List.range ops.length).all fun q=>(List.range q).all fun p=>(F8 ops b p q||(b.getD p 0==a&&b.getD q 0==c))||Q4N ops (ops.getD (b.getD p 0) default) (ops.getD (b.getD q 0) default))
def X0X (ops:List Oper):Option (List Nat):=
 match ops.any Q7r&&ops.any Q1C&&ops.any Eu with
 | true=>match ops.findIdx Eu !=ops.findIdx Q1C&&Q8j ops (N2 ops) (X66 (N2 ops) (ops.findIdx Eu) (ops.findIdx Q1C)) (ops.findIdx Eu) (ops.findIdx Q1C) with
  | true=>some (X66 (N2 ops) (ops.findIdx Eu) (ops.findIdx Q1C))
  | false=>none
 | false=>none
theorem X3U {ops:Array Oper} {a f:List Nat} {x y:Nat} (U:f.Nodup) (v: ∀i∈f,i<ops.toList.length/\a.getD (a.idxOf i) 0=i) (m:Arr ops.toList a (f.map (a.idxOf ·))) (o: ∀e s c,f≠e++y::(s++x::c)):
 (f.map (a.idxOf ·)).Pairwise fun q p=>p<q->(F8 ops.toList a p q||(a.getD p 0==x&&a.getD q 0==y))=false:=by
 refine Ey _ [] (L:=f.map (a.idxOf ·)) rfl fun e q c b p l N=>?_;rw[Bool.or_eq_false_iff];constructor
 .cases J:F8 ops.toList a p q with
  | false=>rfl
  | true=>
   have h:=m.hC e q c b p J (m.hlt p (by rw[b];simp[l]))
   have g:=m.hn;rw[b] at g;exact absurd rfl ((List.nodup_append.1 g).2.2 p h p (by simp[l]))
 .rw[Bool.and_eq_false_iff]
  refine Classical.byContradiction fun d=>?_;rw[not_or] at d;obtain ⟨h,g⟩:=d;have h:a.getD p 0=x:=by simpa using h
  have g:a.getD q 0=y:=by simpa using g
  rw[List.map_eq_append_iff] at b;obtain ⟨j,u,B,_,w⟩:=b;rw[List.map_eq_cons_iff] at w;obtain ⟨i,t,C,O,r⟩:=w;rw[<-r,List.mem_map] at l;obtain ⟨k,M,n⟩:=l;obtain ⟨Q,R,D⟩:=List.append_of_mem M;subst C B D;have z:=(v i U5).2;have A:=(v k U5).2;rw[O] at z;rw[n] at A;have E:i=y:=by rw[<-z];exact g
  have H:k=x:=by rw[<-A];exact h
  subst E H;exact o j Q R rfl
theorem X4l (P:Program) (ops:Array Oper) (V0:List Value->World->Prop) (D:List Value) (A:Wx ops.toList D.length=true) {d:List Nat} {a c:Nat} (ae:a≠c) (C:Q8j ops.toList (N2 ops.toList) d a c=true)
 (b:Bool) (t:Nat) (w:World) (h1:Z2 P ops.toList V0 (Z3 ops.toList (N2 ops.toList)) D w) (h2:Z2 P ops.toList V0 (Z3 ops.toList d) D w):Z2 P ops.toList V0 ((Region.schedule b ops t).filterMap (ops[·]?)) D w:=by
 simp only[Wx,Bool.and_eq_true] at A;obtain ⟨⟨⟨⟨⟨U,R⟩,hn⟩,hd⟩,⟨u,v⟩,z⟩,B⟩:=A;simp only[Q8j,Bool.and_eq_true] at C;obtain ⟨⟨⟨j,M⟩,N⟩,O⟩:=C
 by_cases r: ∃i g f,Region.schedule b ops t=i++a::(g++c::f)
 .obtain ⟨E,n,H,o,J⟩:=Pl U R u v z j b t
  rw[E];refine Q57 n H M (bit:=fun p q=>F8 ops.toList d p q||(d.getD p 0==a&&d.getD q 0==c)) (fun p q h=>by rw[h];rfl) (fun p q k l=>?_) (X3U o J n fun i g f e=>?_) w h2
  .exact List.all_eq_true.1 (List.all_eq_true.1 O q (by simpa using l)) p (by simpa using k)
  .obtain ⟨W,V,Q,X⟩:=r
   have s: ∀{L p m q:List Nat} {x y:Nat},L=p++x::(m++y::q)->L[p.length]? =some x/\L[p.length+1+m.length]? =some y/\p.length+1+m.length<L.length:=by
    rintro L p m q x y rfl;refine ⟨by simp,?_,by simp;omega⟩
    rw[List.getElem?_append_right Q4,show p.length+1+m.length-p.length=m.length+1 by omega,List.getElem?_cons_succ]
    simp
   obtain ⟨Y,Z,g3⟩:=s e;obtain ⟨g4,g5,g6⟩:=s X;have k1:=(List.getElem?_inj Q4 o).1 (Y.trans g5.symm);have k2:=(List.getElem?_inj Q4 o).1 (Z.trans g4.symm);omega
 .obtain ⟨E,n,H,o,J⟩:=Pl U R u v z B b t
  rw[E];refine Q57 n H hn (bit:=fun p q=>F8 ops.toList (N2 ops.toList) p q||((N2 ops.toList).getD p 0==c&&(N2 ops.toList).getD q 0==a)) (fun p q h=>by rw[h];rfl) (fun p q k l=>?_) (X3U o J n fun i g f e=>r ⟨i,g,f,e⟩) w h1
  exact List.all_eq_true.1 (List.all_eq_true.1 N q (by simpa using l)) p (by simpa using k)
theorem X5B (P:Program) (ops:Array Oper) (V0:List Value->World->Prop) (d:List Value) (f:Wx ops.toList d.length=true) {a:List Nat} (c:X0X ops.toList=some a)
 (b:Bool) (t:Nat) (w:World) (h:Z2 P ops.toList V0 (Z3 ops.toList (N2 ops.toList)) d w/\Z2 P ops.toList V0 (Z3 ops.toList a) d w):Z2 P ops.toList V0 ((Region.schedule b ops t).filterMap (ops[·]?)) d w:=by
 unfold X0X at c
 split at c
 .split at c
  .rename_i e
   cases c;rw[Bool.and_eq_true] at e;exact X4l P ops V0 d f (by simpa using e.1) e.2 b t w h.1 h.2
  .cases c
 .cases c
theorem X3Y: ∃f:World->(World->Prop)->Prop,f=fun w A=>A w.drew:=⟨_,rfl⟩
noncomputable def sq:World->(World->Prop)->Prop:=Classical.choose X3Y
theorem X3X:sq=fun w A=>A w.drew:=Classical.choose_spec X3Y
def Q6N:List Ent->Nat->Ent->(List Ent->Prop)->Prop
 | [],_,_,k=>k []
 | _::l,0,e,k=>k (e::l)
 | x::l,n+1,e,k=>Q6N l n e (fun l'=>k (x::l'))
def Tu (S:List Ent) (d:Option Nat) (e:Ent) (k:List Ent->Prop):Prop:=
 match d with
 | some d=>Q6N S d e k
 | none=>k S
def X0d:List Ent->Nat->(Ent->Prop)->Prop
 | [],_,k=>k (.val undef)
 | x::_,0,k=>k x
 | _::l,n+1,k=>X0d l n k
def X1x (S:List Ent) (x:Operand) (k:Ent->Prop):Prop:=
 match x with
 | .tmp t=>X0d S t k
 | .const v=>k (.val v)
 | .global g=>k (.val (.pointer (some ⟨g,0,none⟩)))
 | .func f=>k (.val (.func (.func f) #[] #[]))
def Q2k (u:Nat->Value):List Ent->(List Value->Prop)->Prop
 | [],k=>k []
 | .val v::S,k=>Q2k u S (fun l=>k (v::l))
 | .ref j::S,k=>Q2k u S (fun l=>k (u j::l))
def Q8n:List Value->(List Ent->Prop)->Prop
 | [],k=>k []
 | v::l,k=>Q8n l (fun S=>k (.val v::S))
theorem Q8k: ∀(S:List Ent) (n:Nat) (e:Ent) (k:List Ent->Prop),Q6N S n e k=k (Q3O S n e)
 | [],_,_,_=>rfl
 | _::_,0,_,_=>rfl
 | _::l,n+1,e,k=>by simp only[Q6N,Q3O,Q8k l n e]
theorem Ez (S:List Ent) (d:Option Nat) (e:Ent) (k:List Ent->Prop):Tu S d e k=k (putE S d e):=by
 cases d with
 | none=>rfl
 | some d=>exact Q8k S d e k
theorem Q7p: ∀(S:List Ent) (n:Nat) (k:Ent->Prop),X0d S n k=k (getE S n)
 | [],_,_=>rfl
 | _::_,0,_=>rfl
 | _::l,n+1,k=>Q7p l n k
theorem X1y (S:List Ent) (x:Operand) (k:Ent->Prop):X1x S x k=k (entOf S x):=by
 cases x with
 | tmp t=>exact Q7p S t k
 | _=>rfl
theorem Q3v (u:Nat->Value): ∀(S:List Ent) (k:List Value->Prop),Q2k u S k=k (K0 u S)
 | [],_=>rfl
 | .val v::S,k=>by simp only[Q2k,Q3v u S];rfl
 | .ref j::S,k=>by simp only[Q2k,Q3v u S];rfl
theorem Q5A: ∀(l:List Value) (k:List Ent->Prop),Q8n l k=k (l.map .val)
 | [],_=>rfl
 | v::l,k=>by simp only[Q8n,Q5A l];rfl
noncomputable def Uj (P:Program) (r:Bool) (ops:List Oper) (T:(Nat->Iv)->World->World->Prop) (B:World->Prop) (V0:List Value->World->Prop) (tail:List Oper):Nat->List Oper->List Ent->Sv->List Nat->Prop
 | _,[],S,c,done=>Lt done (fun _=>undef) fun u=>Nc r fun b=> ∀w,B w->Q2o c u b w (Q2k u S fun l=>T5 P ops V0 tail l w) done
 | i,o::a,S,c,done=>
  match mv o with
  | some x=>X1x S x fun e=>Tu S o.dst e fun S=>Uj P r ops T B V0 tail (i+1) a S c done
  | none=>match X0s r o with
   | true=>match r with
    | true=>X04 T (fun φ=>Lt (refs ops S o) (fun _=>undef) fun u=>Nc true fun b=> ∀w,B w->Lw c u b w (runOp P ops (K0 u S) o w (dk (T b) (φ ((refs ops S o).map u)) w)) (refs ops S o))
     (fun φ=>Tu S o.dst (.ref i) fun d=>Uj P r ops T B V0 tail (i+1) a d (c++[(i,refs ops S o,fun xs (_:Iv)=>φ xs)]) (done++[i]))
    | false=>Q7g (T ivZ) (fun φ=>Lt (refs ops S o) (fun _=>undef) fun u=>Nc false fun b=> ∀w,B w->Lw c u b w (runOp P ops (K0 u S) o w (dk (T b) (φ ((refs ops S o).map u)) w)) (refs ops S o))
     (fun φ=>Tu S o.dst (.ref i) fun d=>Uj P r ops T B V0 tail (i+1) a d (c++[(i,refs ops S o,fun xs (_:Iv)=>φ xs)]) (done++[i]))
   | false=>match X0r r o with
    | true=>X2K T i (fun φ=>Lt (refs ops S o) (fun _=>undef) fun u=>Nc r fun b=> ∀w,B w->Lw c u b w (runOp P ops (K0 u S) o w (dkR (T b) φ w)) (refs ops S o))
     (fun φ=>Tu S o.dst (.ref i) fun d=>Uj P r ops T B V0 tail (i+1) a d (c++[(i,[],fun (_:List Value)=>φ)]) (done++[i]))
    | false=>match r with
     | true=>X2J T (fun φ=>Lt (refs ops S o) (fun _=>undef) fun u=>Nc true fun b=> ∀w,B w->Lw c u b w (runOp P ops (K0 u S) o w (dk (T b) φ w)) (refs ops S o))
      (fun φ=>Tu S o.dst (.ref i) fun d=>Uj P r ops T B V0 tail (i+1) a d (c++[(i,[],fun (_:List Value) (_:Iv)=>φ)]) (done++[i]))
     | false=>J8 (T ivZ) (fun φ=>Lt (refs ops S o) (fun _=>undef) fun u=>Nc false fun b=> ∀w,B w->Lw c u b w (runOp P ops (K0 u S) o w (dk (T b) φ w)) (refs ops S o))
      (fun φ=>Tu S o.dst (.ref i) fun d=>Uj P r ops T B V0 tail (i+1) a d (c++[(i,[],fun (_:List Value) (_:Iv)=>φ)]) (done++[i]))
theorem Ze (P:Program) (r:Bool) (ops:List Oper) (T:(Nat->Iv)->World->World->Prop) (B:World->Prop) (V0:List Value->World->Prop) (tail:List Oper): ∀(a:List Oper) (i:Nat) (S:List Ent) (b:Sv) (done:List Nat),
 Uj P r ops T B V0 tail i a S b done=chain P r ops T B V0 tail i a S b done
 | [],i,S,b,done=>by simp only[Uj,chain,Q3v]
 | o::a,i,S,b,done=>by
  simp only[Uj,chain]
  split
  .rw[X1y,Ez,Ze]
  .split
   .cases r with
    | true=>
     dsimp only
     congr 1
     funext φ
     rw[Ez,Ze]
    | false=>
     dsimp only
     congr 1
     funext φ
     rw[Ez,Ze]
   .split
    .congr 1
     funext φ
     rw[Ez,Ze]
    .cases r with
     | true=>
      dsimp only
      congr 1
      funext φ
      rw[Ez,Ze]
     | false=>
      dsimp only
      congr 1
      funext φ
      rw[Ez,Ze]
def X6F (ops:List Oper):Bool:=ops.any fun o=>(match o.op with | .build .. =>true | _=>false)&&decide (2<=((C3 o).filter fun s=>ops.any fun c=>Q1C c&&c.dst==some s).length)
def X6y (ops:List Oper):Bool:=ops.any fun o=>X2T o&&(C3 o).any fun s=>ops.any fun c=>X2T c&&c.dst==some s
def X6E (ops:List Oper):Bool:=decide (2<=(ops.filter Eu).length)&&ops.any Q7r
noncomputable def X1u (P:Program) (ops:List Oper) (V0:List Value->World->Prop) (l:List Value) (w:World):Prop:=
 drR w fun T B=>Q8n l fun S=>Uj P true ops T B V0 ((Z3 ops (N2 ops)).drop (Vp ops (N2 ops) ops.length)) 0 ((Z3 ops (N2 ops)).take (Vp ops (N2 ops) ops.length)) S [] []
noncomputable def X3G (P:Program) (ops:List Oper) (V0:List Value->World->Prop) (l:List Value) (w:World):Prop:=
 dr w fun T B=>Q8n l fun S=>Uj P false ops (fun _=>T) B V0 ((Z3 ops (N2 ops)).drop (Vp ops (N2 ops) ops.length)) 0 ((Z3 ops (N2 ops)).take (Vp ops (N2 ops) ops.length)) S [] []
def Q2w (a b:List Nat):Bool:=a.all (b.contains ·)&&b.all (a.contains ·)
theorem Bm {a b:List Nat} (h:Q2w a b=true) (i:Nat):a.contains i=b.contains i:=by
 simp only[Q2w,Bool.and_eq_true,List.all_eq_true] at h;rw[Bool.eq_iff_iff];constructor
 .intro c;exact h.1 i (by simpa using c)
 .intro c;exact h.2 i (by simpa using c)
abbrev W4:=List (Option (List Nat×List Nat))
def W4.slots (a:W4):List (Option (List Nat)):=a.map (·.map (·.1))
theorem W4.slots_get (a:W4) (k:Nat):a.slots.getD k none=(a.getD k none).map (·.1):=by
 simp only[W4.slots,List.getD_eq_getElem?_getD,List.getElem?_map];cases a[k]? <;>rfl
noncomputable def Wn (P:Program) (a:W4) (b:List (Option (List Nat))):Nat->Code->Rq->List Value->World->Prop
 | _, .skip,Q,l,w=>Q .normal l w
 | _, .label _,Q,l,w=>Q .normal l w
 | _, .exit id,Q,l,w=>Q (.exit id) l w
 | _, .ret,Q,l,w=>Q .ret l w
 | _, .region _ ops false,Q,l,w=>T5 P ops.toList (fun l w=>Q .normal l w) ops.toList l w
 | _, .region _ ops true,Q,l,w=>match Wx ops.toList l.length with
  | true=>match X0S ops.toList (N2 ops.toList) with
   | true=>sq w fun w=>T5 P ops.toList (fun l w=>Q .normal l w) (Z3 ops.toList (N2 ops.toList)) l w
   | false=>match X0X ops.toList with
    | some g=>sq w fun w=>T5 P ops.toList (fun l w=>Q .normal l w) (Z3 ops.toList (N2 ops.toList)) l w/\T5 P ops.toList (fun l w=>Q .normal l w) (Z3 ops.toList g) l w
    | none=>match X6F ops.toList||(X6y ((Z3 ops.toList (N2 ops.toList)).take (Vp ops.toList (N2 ops.toList) ops.toList.length))||X6E ((Z3 ops.toList (N2 ops.toList)).take (Vp ops.toList (N2 ops.toList) ops.toList.length))) with
     | true=>X1u P ops.toList (fun l w=>Q .normal l w) l w
     | false=>X3G P ops.toList (fun l w=>Q .normal l w) l w
  | false=>False
 | k, .seq x y,Q,l,w=>match a.getD k none with
  | none=>Wn P a b (k+1) x (thn (fun l w=>Wn P a b (k+1+Xh x) y Q l w) Q) l w
  | some (f,h)=>match Q2w h (O4 b (k+1) x) with
   | true=>jn w (fun J w=>Wn P a b (k+1) x (thn (fun l' w'=>J (Em l' f) w') Q) l w)
    (fun z d w=>Im f h z d 0 l fun l=>Wn P a b (k+1+Xh x) y Q l w)
   | false=>False
 | k, .cond c x y,Q,l,w=>X0 (ev l c) (Wn P a b k x Q l w) (Wn P a b (k+Xh x) y Q l w)
 | k, .block id c,Q,l,w=>Wn P a b k c (Q4k id Q) l w
 | k, .loop c,Q,l,w=>match a.getD k none with
  | none=>False
  | some (f,h)=>match Q2w h (O4 b (k+1) c) with
   | true=>lp (Em l f) w (fun e x d w=>Im f h x d 0 l fun l=>Wn P a b (k+1) c (thn (fun l' w'=>e (Em l' f) w') Q) l w)
   | false=>False
 | _,_,_,_,_=>False
theorem Q29 {next a:List Value->World->Prop} {Q b:Rq} (c: ∀l w,next l w->a l w) (d: ∀e l w,Q e l w->b e l w): ∀e l w,thn next Q e l w->thn a b e l w:=by
 intro e l w h;cases e<;>first | exact c _ _ h | exact d _ _ _ h
theorem X2I (P:Program) (m:W4) (c:Code): ∀(k:Nat) (Q j:Rq) (l:List Value) (w:World),(∀e l w,Q e l w->j e l w)->
 Wn P m m.slots k c Q l w->Dl P m.slots k c j l w:=by
 induction c with
 | skip=>intro k Q j l w g h;exact g _ _ _ h
 | label n=>intro k Q j l w g h;exact g _ _ _ h
 | exit id=>intro k Q j l w g h;exact g _ _ _ h
 | ret=>intro k Q j l w g h;exact g _ _ _ h
 | goto n=>intro k Q j l w g h;exact h.elim
 | refuse s=>intro k Q j l w g h;exact h.elim
 | scope c=>intro k Q j l w g h;exact h.elim
 | rangeFunc f p a b=>intro k Q j l w g h;exact h.elim
 | region id ops v=>
  intro k Q j l w g h;cases v with
  | true=>
   simp only[Wn] at h
   split at h
   .rename_i q
    intro t
    have A:Z2 P ops.toList (fun l w=>Q .normal l w) ((Region.schedule (P.follows .mixedOrders) ops t).filterMap (ops[·]?)) l w.drew:=by
     split at h
     .rename_i W
      simp only[X3X,Se] at h;exact X5A P ops _ l q W _ t _ h
     .split at h
      .rename_i aa M
       simp only[X3X,Se] at h;exact X5B P ops _ l q M _ t _ h
      .split at h
       .simp only[X1u,X5E,Q7i,Q5A,Ze] at h
        obtain ⟨T,B,L,N,hM,h⟩:=h;exact Q9n P true ops T B _ l q N hM h (P.follows .mixedOrders) t w.drew L
       .simp only[X3G,X3E,X06,Q5A,Ze] at h
        obtain ⟨T,B,L,N,h⟩:=h;exact Q9n P false ops (fun _=>T) B _ l q (fun _=>N) (fun _ _ _ _=>Nat.le_refl _) h (P.follows .mixedOrders) t w.drew L
    refine Uk P _ _ _ (R9 ops.toList) l _ _ _ ?_ (Qz.refl _ _) (fun l w R _=>g _ _ _ R) A;intro o E d A;simp only[List.mem_filterMap] at E;obtain ⟨i,_,hi⟩:=E;simp only[R9,List.contains_eq_mem,List.mem_filterMap,decide_eq_true_eq];exact ⟨o,by simpa using Array.mem_of_getElem? hi,A⟩
   .exact h.elim
  | false=>
   simp only[Wn] at h;rw[Se] at h;refine Uk P _ _ _ (R9 ops.toList) l _ _ _ ?_ (Qz.refl _ _) (fun l w R _=>g _ _ _ R) h;intro o E d A;simp only[R9,List.contains_eq_mem,List.mem_filterMap,decide_eq_true_eq];exact ⟨o,E,A⟩
 | seq x y r u=>
  intro k Q j l w g h;simp only[Wn,Dl] at h⊢;rw[W4.slots_get]
  split at h
  .rename_i C
   simp only[C,Option.map_none];exact r _ _ _ _ _ (Q29 (fun l w h=>u _ _ _ _ _ g h) g) h
  .rename_i sl wr C
   simp only[C,Option.map_some]
   split at h
   .rename_i U
    obtain ⟨J,h1,M⟩:=Q7u h;refine Xg J (r _ _ _ _ _ (Q29 (fun l w h=>h) g) h1) fun z d w hz=>?_;have Y:=M z d w hz;rw[Q5Y,Fj _ _ _ (Bm U)] at Y;exact u _ _ _ _ _ g Y
   .exact h.elim
 | cond c x y r u=>
  intro k Q j l w g h;exact Q5O (r k _ _ _ _ g) (u _ _ _ _ _ g) h
 | block id c X=>
  intro k Q j l w g h;refine X k _ _ _ _ ?_ h;intro e l' w' D;cases e with
  | exit ag=>simp only[Q4k] at D⊢;split<;>rename_i O<;>simp only[O,if_true,if_false] at D<;>exact g _ _ _ D
  | _=>exact g _ _ _ D
 | loop c X=>
  intro k Q j l w g h;simp only[Wn,Dl] at h⊢
  split at h
  .exact h.elim
  .rename_i sl wr C
   have V:(m.slots.getD k none).getD []=sl:=by rw[W4.slots_get,C];rfl
   split at h
   .rename_i U
    subst V;refine Q67 (fun H x d w Z=>?_) h;rw[Q5Y,Fj _ _ _ (Bm U)] at Z;exact X _ _ _ _ _ (Q29 (fun l w h=>h) g) Z
   .exact h.elim
def Q4E (P:Program) (t:TypeId) (a:Value) (w:World) (K:Value->Prop):Prop:= ∃v,(do loadVar t (<-asAddr a):Sem Value).run P w= .ok v w/\K v
theorem Q4G: ∃f:Program->TypeId->Value->World->(Value->Prop)->Prop,f=Q4E:=⟨_,rfl⟩
noncomputable def M0:Program->TypeId->Value->World->(Value->Prop)->Prop:=Classical.choose Q4G
theorem Q4F:M0=Q4E:=Classical.choose_spec Q4G
noncomputable def Q8a (P:Program) (l:List Value) (K:List Value->World->Prop):List ResultVar->List Value->World->Prop
 | [],b,w=>K b.reverse w
 | .tmp t::rs,b,w=>Q8a P l K rs (get l t::b) w
 | .cell a t::rs,b,w=>M0 P t (get l a) w fun v=>Q8a P l K rs (v::b) w
def Q4Q:List Value->Value
 | [v]=>v
 | vs=> .tuple vs.toArray
noncomputable def results (P:Program) (rs:List ResultVar) (K:Value->World->Prop) (l:List Value) (w:World):Prop:=
 Q8a P l (fun vs w=>K (Q4Q vs) w) rs [] w
noncomputable def Q8e (P:Program) (fn:Func) (K:Value->World->Prop):Rq
 | .normal,l,w | .ret,l,w=>results P fn.results.toList K l w
 | _,_,_=>False
def X3h (K:Value->World->Prop) (e:Ending) (w:World):Prop:=match e with | .returned v=>K v w | _=>False
theorem Q7o (a:Array Value) (t:Nat):a.getD t undef=get a.toList t:=by
 simp[get,List.getD_eq_getElem?_getD]
theorem X2f (vs:List Value):(if h:vs.toArray.size=1 then vs.toArray[0] else Value.tuple vs.toArray)=Q4Q vs:=by
 match vs with
 | []=>rfl
 | [v]=>rfl
 | _::_::_=>rfl
theorem Q3L (P:Program) (l:List Value) (K:List Value->World->Prop) (f:ResultVar->Sem Value)
 (c: ∀t,f (.tmp t)=Pure.pure (get l t)) (d: ∀a t,f (.cell a t)=(do loadVar t (<-asAddr (get l a)))): ∀(rs:List ResultVar) (b:List Value) (w:World),Q8a P l K rs b w->
 ∃vs,(rs.mapM f).run P w= .ok vs w/\K (b.reverse++vs) w
 | [],b,w,h=>⟨[],by simp,by rw[List.append_nil];exact h⟩
 | .tmp t::rs,b,w,h=>by
  obtain ⟨vs,e,g⟩:=Q3L P l K f c d rs _ w h;refine ⟨get l t::vs,?_,by simpa using g⟩
  rw[List.mapM_cons,c]
  simp[e]
 | .cell a t::rs,b,w,h=>by
  simp only[Q8a,Q4F] at h;obtain ⟨v,i,h⟩:=h;obtain ⟨vs,e,g⟩:=Q3L P l K f c d rs _ w h;refine ⟨v::vs,?_,by simpa using g⟩
  rw[List.mapM_cons,d,Sem.run_bind,i]
  simp[e]
def X69 (a:Array Value):ResultVar->Sem Value
 | .tmp t=>Pure.pure (a.getD t undef)
 | .cell b t=>do loadVar t (<-asAddr (a.getD b undef))
theorem Q8d (fn:Func) (a:Array Value):Go.results fn a=(do
 let vs<-fn.results.mapM (X69 a)
 Pure.pure (if h:vs.size=1 then vs[0] else .tuple vs)):=by
 unfold Go.results
 congr 1
theorem Q3f (P:Program) (fn:Func) (K:Value->World->Prop) (a:Array Value) (w:World) (h:results P fn.results.toList K a.toList w):
 ∃v,(Go.results fn a).run P w= .ok v w/\K v w:=by
 rw[Q8d,Array.mapM_eq_mapM_toList];obtain ⟨vs,b,c⟩:=Q3L P a.toList (fun vs w=>K (Q4Q vs) w) (X69 a) (fun t=>by rw[<-Q7o];rfl) (fun d t=>by rw[<-Q7o];rfl) fn.results.toList [] w h
 refine ⟨Q4Q vs,?_,by simpa using c⟩
 rw[Sem.run_bind,Sem.run_map,b];simp only[Result.andThen_ok,Sem.run_pure,X2f]
def Il (fn:Func) (a:List Value):List Value:=a++List.replicate (fn.ntmps-a.length) undef
theorem Q76 {P:Program} {f:FuncId} {fn:Func} {c:Code} {b:List Value} {w:World} {K:Value->World->Prop} (d:List (Option (List Nat)))
 (k:P.funcs[f]? =some fn) (j:fn.body=some c) (h:Dl P d 0 c (Q8e P fn K) (Il fn b) w):Calls P f b.toArray w (X3h K):=by
 refine calls_of_wp k j (wp_mono (X1q P d c 0 (Q8e P fn K) _ w rfl ?_) ?_)
 .have:(b.toArray++Array.replicate (fn.ntmps-b.toArray.size) undef).toList=Il fn b:=by simp[Il]
  simp only[this];exact h
 .intro e a w ⟨i,g⟩
  cases e with
  | normal=>exact ⟨i,Q3f P fn K _ _ g⟩
  | ret=>exact ⟨i,Q3f P fn K _ _ g⟩
  | _=>exact g.elim
theorem Lu {P:Program} {f:FuncId} {fn:Func} {a:List Value} {w:World} {K:Value->World->Prop}
 (i:P.funcs[f]? =some fn) (d:fn.body.isSome=true) (j:(fn.name== "runtime.NumGoroutine")=false) (h:Calls P f a.toArray w (X3h K)):Q0 P f a w K:=by
 have k:(callFunc f a.toArray).run P w= .ok (.enter f a.toArray) w:=by
  unfold callFunc;simp only[Sem.run_bind,run_program,Result.andThen_ok,i,j,Bool.false_eq_true,if_false];cases b:fn.body with
  | none=>rw[b] at d;cases d
  | some c=>simp
 unfold Q0;rw[Zw];unfold Ye;rw[k];refine h.mono fun e w' g=>?_;cases e<;>exact g
theorem Q55 {P:Program} {f:FuncId} {fn:Func} {a:List Value} {w:World} {K:Value->World->Prop}
 (i:P.funcs[f]? =some fn) (d:fn.body.isSome=true) (j:(fn.name== "runtime.NumGoroutine")=false) (h:Q0 P f a w K):Calls P f a.toArray w (X3h K):=by
 have k:(callFunc f a.toArray).run P w= .ok (.enter f a.toArray) w:=by
  unfold callFunc;simp only[Sem.run_bind,run_program,Result.andThen_ok,i,j,Bool.false_eq_true,if_false];cases b:fn.body with
  | none=>rw[b] at d;cases d
  | some c=>simp
 unfold Q0 at h;rw[Zw] at h;unfold Ye at h;rw[k] at h;refine Calls.mono h fun e w' g=>?_;cases e<;>exact g
theorem X51 {P:Program} {f:FuncId} {fn:Func} {b:List Value} {w:World} {K:Value->World->Prop} (a:W4)
 (g:P.funcs[f]? =some fn) (d:fn.body.isSome=true) (i:(fn.name== "runtime.NumGoroutine")=false)
 (h:Wn P a a.slots 0 (fn.body.getD .skip) (Q8e P fn K) (Il fn b) w):Q0 P f b w K:=by
 refine Lu g d i ?_;obtain ⟨c,e⟩:=Option.isSome_iff_exists.1 d;rw[e] at h;exact Q76 a.slots g e (X2I P a c 0 _ _ _ _ (fun _ _ _ h=>h) h)
theorem X50 {P:Program} {f:FuncId} {fn:Func} {a:List Value} {w:World} {K:Value->World->Prop} {g:Prop} (b:W4)
 (e:P.funcs[f]? =some fn) (c:fn.body.isSome=true) (i:(fn.name== "runtime.NumGoroutine")=false)
 (d:g=Wn P b b.slots 0 (fn.body.getD .skip) (Q8e P fn K) (Il fn a) w) (h:g):Q0 P f a w K:=
 X51 b e c i (d▸h)
theorem Z6 {P:Program} {f:FuncId} {first caps:List Value} {a:List Value} {w:World} {K:Value->World->Prop} (h:Q0 P f (first++a++caps) w K):Y8 P (.func (.func f) first.toArray caps.toArray) a w K:=by
 simpa [Y8,Q0,Deferred.ofValue,invoke,pure_bind,List.append_toArray] using h
end Go.Emb
namespace Go.Proofs.Y
noncomputable abbrev P : Program := Tryz.prog
end Go.Proofs.Y
namespace Go.Proofs.Y.F
abbrev bZ : Nat := 3
abbrev aF : Nat := 8
abbrev a7 : Nat := 9
abbrev aG : Nat := 10
abbrev aD : Nat := 11
abbrev u : Nat := 12
abbrev bI : Nat := 13
abbrev bv : Nat := 14
abbrev bu : Nat := 15
abbrev cM : Nat := 18
abbrev cs : Nat := 22
abbrev cP : Nat := 25
abbrev ax : Nat := 26
abbrev bL : Nat := 27
abbrev cO : Nat := 28
abbrev bc : Nat := 29
abbrev aT : Nat := 30
abbrev cu : Nat := 31
abbrev bw : Nat := 32
abbrev aU : Nat := 33
abbrev bJ : Nat := 34
abbrev n : Nat := 37
abbrev cv : Nat := 38
abbrev c1 : Nat := 39
abbrev ca : Nat := 40
abbrev cF : Nat := 41
abbrev ch : Nat := 50
abbrev cN : Nat := 51
abbrev cl : Nat := 52
abbrev cC : Nat := 53
abbrev cq : Nat := 54
abbrev ct : Nat := 55
abbrev i : Nat := 56
abbrev b5 : Nat := 57
abbrev p : Nat := 58
abbrev be : Nat := 59
abbrev bf : Nat := 60
abbrev b1 : Nat := 61
abbrev bm : Nat := 62
abbrev bk : Nat := 63
abbrev b : Nat := 64
abbrev b9 : Nat := 65
abbrev aH : Nat := 66
abbrev aX : Nat := 67
abbrev b3 : Nat := 68
abbrev aZ : Nat := 69
abbrev ac : Nat := 70
abbrev aR : Nat := 71
abbrev cK : Nat := 72
abbrev bR : Nat := 73
abbrev bX : Nat := 74
abbrev r : Nat := 75
abbrev ay : Nat := 82
abbrev a1 : Nat := 85
abbrev aY : Nat := 86
abbrev w : Nat := 87
abbrev cE : Nat := 88
abbrev co : Nat := 89
abbrev s : Nat := 90
abbrev aC : Nat := 91
abbrev k : Nat := 92
abbrev cp : Nat := 93
abbrev cm : Nat := 94
abbrev aS : Nat := 95
abbrev c7 : Nat := 96
abbrev bF : Nat := 97
abbrev b6 : Nat := 98
abbrev am : Nat := 101
abbrev h : Nat := 102
abbrev a3 : Nat := 103
abbrev cA : Nat := 104
abbrev cr : Nat := 105
abbrev a4 : Nat := 106
abbrev aa : Nat := 107
abbrev bV : Nat := 108
abbrev e : Nat := 109
abbrev b0 : Nat := 110
abbrev af : Nat := 111
abbrev bT : Nat := 112
abbrev c : Nat := 113
abbrev y : Nat := 114
abbrev aA : Nat := 115
abbrev bd : Nat := 116
abbrev ai : Nat := 117
abbrev bs : Nat := 118
abbrev aj : Nat := 119
abbrev aQ : Nat := 120
abbrev a : Nat := 121
abbrev aB : Nat := 122
abbrev c4 : Nat := 123
abbrev b4 : Nat := 124
abbrev bx : Nat := 125
abbrev bl : Nat := 126
abbrev bn : Nat := 127
abbrev bo : Nat := 128
abbrev aO : Nat := 129
abbrev b8 : Nat := 130
abbrev aL : Nat := 131
abbrev o : Nat := 132
abbrev ci : Nat := 133
abbrev aJ : Nat := 134
abbrev ae : Nat := 135
abbrev bz : Nat := 139
abbrev br : Nat := 144
abbrev az : Nat := 149
abbrev cQ : Nat := 150
abbrev bA : Nat := 151
abbrev a5 : Nat := 152
abbrev bt : Nat := 153
abbrev bg : Nat := 154
abbrev aE : Nat := 155
abbrev ah : Nat := 158
abbrev d : Nat := 159
abbrev ad : Nat := 160
abbrev cc : Nat := 161
abbrev cd : Nat := 162
abbrev a6 : Nat := 163
abbrev ag : Nat := 164
abbrev aM : Nat := 165
abbrev ce : Nat := 166
abbrev aw : Nat := 167
abbrev cf : Nat := 168
abbrev aq : Nat := 169
abbrev cg : Nat := 170
abbrev ao : Nat := 171
abbrev bq : Nat := 172
abbrev bH : Nat := 173
abbrev ak : Nat := 174
abbrev b2 : Nat := 175
abbrev ab : Nat := 176
abbrev a9 : Nat := 177
abbrev x : Nat := 178
abbrev bY : Nat := 179
abbrev j : Nat := 180
abbrev c3 : Nat := 181
abbrev bC : Nat := 182
abbrev bE : Nat := 183
abbrev g : Nat := 184
abbrev cS : Nat := 185
abbrev q : Nat := 186
abbrev cx : Nat := 187
abbrev aK : Nat := 188
abbrev v : Nat := 189
abbrev a2 : Nat := 190
abbrev aW : Nat := 191
abbrev aI : Nat := 192
abbrev aP : Nat := 193
abbrev cL : Nat := 194
abbrev c2 : Nat := 197
abbrev cn : Nat := 198
abbrev cR : Nat := 199
abbrev aN : Nat := 200
abbrev ar : Nat := 201
abbrev c5 : Nat := 202
abbrev bS : Nat := 203
abbrev c8 : Nat := 204
abbrev ck : Nat := 205
abbrev f : Nat := 206
abbrev bU : Nat := 207
abbrev bQ : Nat := 208
abbrev bO : Nat := 209
abbrev bG : Nat := 210
abbrev ba : Nat := 211
abbrev ap : Nat := 212
abbrev bb : Nat := 213
abbrev cB : Nat := 214
abbrev an : Nat := 215
abbrev cV : Nat := 216
abbrev cb : Nat := 217
abbrev al : Nat := 218
abbrev cT : Nat := 219
abbrev cW : Nat := 223
abbrev aV : Nat := 224
abbrev a8 : Nat := 226
abbrev bB : Nat := 227
abbrev bp : Nat := 228
abbrev cy : Nat := 229
abbrev bW : Nat := 230
abbrev c9 : Nat := 231
abbrev m : Nat := 232
abbrev bP : Nat := 233
abbrev c6 : Nat := 234
abbrev cJ : Nat := 235
abbrev l : Nat := 236
abbrev bN : Nat := 237
abbrev av : Nat := 238
abbrev bi : Nat := 243
abbrev c0 : Nat := 244
abbrev a0 : Nat := 245
abbrev cI : Nat := 246
abbrev cz : Nat := 247
abbrev cD : Nat := 248
abbrev z : Nat := 249
abbrev bj : Nat := 255
abbrev bh : Nat := 256
abbrev t : Nat := 257
abbrev cU : Nat := 258
abbrev cw : Nat := 260
abbrev cX : Nat := 264
abbrev cj : Nat := 265
abbrev b7 : Nat := 266
abbrev bD : Nat := 267
abbrev cG : Nat := 268
abbrev au : Nat := 269
abbrev bK : Nat := 270
abbrev cH : Nat := 271
abbrev bM : Nat := 272
end Go.Proofs.Y.F
namespace Go.Proofs.Y.T
abbrev x : Nat := 0
abbrev aa : Nat := 2
abbrev d : Nat := 3
abbrev n : Nat := 4
abbrev t : Nat := 5
abbrev b : Nat := 9
abbrev aF : Nat := 12
abbrev ax : Nat := 21
abbrev a2 : Nat := 22
abbrev g : Nat := 23
abbrev w : Nat := 24
abbrev r : Nat := 26
abbrev aC : Nat := 29
abbrev ab : Nat := 31
abbrev l : Nat := 32
abbrev z : Nat := 33
abbrev i : Nat := 37
abbrev a9 : Nat := 39
abbrev ah : Nat := 42
abbrev az : Nat := 45
abbrev v : Nat := 46
abbrev o : Nat := 55
abbrev u : Nat := 60
abbrev a6 : Nat := 71
abbrev a3 : Nat := 75
abbrev ae : Nat := 79
abbrev a8 : Nat := 85
abbrev e : Nat := 90
abbrev aj : Nat := 95
abbrev a0 : Nat := 104
abbrev a1 : Nat := 105
abbrev y : Nat := 107
abbrev h : Nat := 108
abbrev f : Nat := 109
abbrev a : Nat := 111
abbrev q : Nat := 118
abbrev k : Nat := 119
abbrev j : Nat := 121
abbrev m : Nat := 122
abbrev c : Nat := 124
abbrev ad : Nat := 127
abbrev a7 : Nat := 129
abbrev av : Nat := 147
abbrev ac : Nat := 150
abbrev a5 : Nat := 154
abbrev ay : Nat := 164
abbrev s : Nat := 173
abbrev af : Nat := 176
abbrev al : Nat := 177
abbrev aD : Nat := 196
abbrev ar : Nat := 198
abbrev au : Nat := 199
abbrev a4 : Nat := 203
abbrev ai : Nat := 204
abbrev ag : Nat := 215
abbrev ap : Nat := 218
abbrev p : Nat := 222
abbrev aB : Nat := 238
abbrev ao : Nat := 240
abbrev aq : Nat := 243
abbrev am : Nat := 247
abbrev aw : Nat := 254
abbrev aE : Nat := 268
abbrev ak : Nat := 271
abbrev an : Nat := 272
abbrev aA : Nat := 283
abbrev aG : Nat := 288
end Go.Proofs.Y.T
namespace Go.Proofs.Y.G
abbrev b : Nat := 0
abbrev e : Nat := 1
abbrev d : Nat := 2
abbrev a : Nat := 3
abbrev c : Nat := 4
end Go.Proofs.Y.G
namespace Go.Proofs.Y
open Go.Emb
set_option maxRecDepth 100000
def Z1 (T:World->World->Prop) (B:World->Prop) (A:World->(Value->World->Prop)->Prop) (R:(Value->World->Prop)->Prop):Prop:=J8 T (fun φ=> ∀w,B w->A w (dk T φ w)) R
def Y1 (T:World->World->Prop) (B:World->Prop) (f:Value->World->Prop) (A:Value->World->(Value->World->Prop)->Prop) (R:(Value->World->Prop)->Prop):Prop:=J8 T (fun φ=> ∀x w,B w->f x w->A x w (dk T φ w)) R
def D0 (T:World->World->Prop) (B:World->Prop) (f g:Value->World->Prop) (A:Value->Value->World->(Value->World->Prop)->Prop) (R:(Value->World->Prop)->Prop):Prop:=J8 T (fun φ=> ∀x y w,B w->f x w->g y w->A x y w (dk T φ w)) R
def En (T:World->World->Prop) (B:World->Prop) (f g h:Value->World->Prop) (A:Value->Value->Value->World->(Value->World->Prop)->Prop) (R:(Value->World->Prop)->Prop):Prop:=J8 T (fun φ=> ∀x y z w,B w->f x w->g y w->h z w->A x y z w (dk T φ w)) R
def M4 (T:TypeId) (v:Value) (w:World) (K:Value->World->Prop):Prop:=Qh P T w fun t w=>M3 P T t v w fun _ w=>K t w
def M8 (t:Value) (w:World) (K:Value->Value->World->Prop):Prop:=ext P t 0 w fun a w=>ext P t 1 w fun b w=>K a b w
def J5 (c:Value) (b:Bool) (w:World) (S T:TypeId) (a:Value) (i:Nat) (K:Value->World->Prop):Prop:=Q1 c b w (fieldAddr P S a i) fun e w=>Q1 c b w (Q9 P T e) K
def zhi (c:Value) (b:Bool) (w:World) (S T:TypeId) (a i:Value) (K:Value->World->Prop):Prop:=Q1 c b w (indexAddr P S a i) fun e w=>Q1 c b w (Q9 P T e) K
def Y2 (S T:TypeId) (a:Value) (i:Nat) (w:World) (K:Value->World->Prop):Prop:=fieldAddr P S a i w fun e w=>Q9 P T e w K
def Z5 (S T:TypeId) (a i:Value) (w:World) (K:Value->World->Prop):Prop:=indexAddr P S a i w fun e w=>Q9 P T e w K
def U4 (n:Nat) (x:Value) (w:World) (A:Value->World->Prop):Prop:=Y5 P .add T.d (.tmp n) (.const (.int .i64 1)) x (.int .i64 1) w fun t w=>A t w
def Y0 (c:Value) (b:Bool) (v:Value) (w:World) (K:Value->World->Prop):Prop:=Q1 c b w (fun w J=>J v w) K
def W0 (c:Value) (A:World->(Value->World->Prop)->Prop):World->(Value->World->Prop)->Prop:=fun w=>Q1 c true w A
def zgf (c:Value) (A:World->(Value->World->Prop)->Prop):World->(Value->World->Prop)->Prop:=fun w=>Q1 c false w A
def X7 (S:TypeId) (v:Value):World->(Value->World->Prop)->Prop:=V9 P .len [S] T.d [false] [v]
def X5 (o:BinOp) (T:TypeId) (n:Nat) (v:Value) (z:Int):World->(Value->World->Prop)->Prop:=Y5 P o T (.tmp n) (.const (.int .i64 z)) v (.int .i64 z)
def V5 (o:BinOp) (T:TypeId) (n:Nat) (v:Value) (z:Array UInt8):World->(Value->World->Prop)->Prop:=Y5 P o T (.tmp n) (.const (.string ⟨z⟩)) v (.string ⟨z⟩)
def X2 (o:BinOp) (T:TypeId) (n m:Nat) (u v:Value):World->(Value->World->Prop)->Prop:=Y5 P o T (.tmp n) (.tmp m) u v
abbrev zV0:Type:=World->(Value->World->Prop)->Prop
abbrev M7:Type:=Value->zV0
abbrev V2:Type:=Value->M7
abbrev Ln:Type:=Value->V2
abbrev zV4:Type:=Value->Ln
abbrev zV5:Type:=Value->zV4
theorem zr {f:FuncId} {fn:Func} {a:List Value} {w:World} {K:Value->World->Prop} {g:Prop} (b:W4) (e:P.funcs[f]? =some fn) (h:g) (c:fn.body.isSome=true:=by rfl) (i:(fn.name== "runtime.NumGoroutine")=false:=by decide) (d:g=Wn P b b.slots 0 (fn.body.getD .skip) (Q8e P fn K) (Il fn a) w:=by kernel_rfl):Q0 P f a w K:=X50 b e c i d h
def X8 (k:Nat):W4:=List.replicate k none
variable {w : World} {K : Value -> World -> Prop} {a0 a1 a2 a3 a4 a5 a6 a7 : Value}
def Q7D:W4:=[none,none,none,none,some ([1,10],[1,3,10,11,12,13,14,15,16,17,18])]++X8 5
def Q1m:zV0:=fun w K=>D7 P T.a [(0,(.string ⟨#[79,98,106,101,99,116]⟩))] w fun i w=>D7 P T.j [(0,(.string ⟨#[119,104,97,116]⟩)),(1,(.string ⟨#[116,101,120,116]⟩))] w fun j w=>buildSlice P T.h 1 [(0,j)] w fun k w=>D7 P T.a [(0,(.string ⟨#[70,97,117,108,116]⟩)),(1,(.string ⟨#[79,98,106,101,99,116]⟩)),(6,k)] w fun l w=>buildSlice P T.g 2 [(0,i),(1,l)] w fun m w=>Q9 P T.ay (.pointer (some ⟨G.b,0,none⟩)) w fun n w=>lp (α:=Value×Value) (m,(.int .i64 0)) w fun a b o w=>X5 .lss T.d 10 b.2 6 w fun c w=>X0 c (B3 P T.ay n b.2 w fun d w=>D7 P T.a [(0,d),(1,(.string ⟨#[70,97,117,108,116]⟩)),(5,(.bool true))] w fun e w=>buildSlice P T.g 1 [(0,e)] w fun f w=>V9 P .append [T.g,T.g] T.g [false,false] [b.1,f] w fun g w=>X5 .add T.d 10 b.2 1 w fun h w=>a (g,h) w) (K b.1 w)
theorem Q7U (h:Q1m w K):Q0 P F.cC [] w K:=zr Q7D Tryz.func53 h
def Q7A:W4:=[none,none,none,some ([8],[2,4,8,9,10,11,12,13,14,15,16,17,18,19,20,21,22,23,24,25,26,27,28,29,30,31,32,33])]++X8 7
def Q1i:M7:=fun L w K=>box P T.a L w fun a w=>Y2 T.a T.f a 7 w fun J w=>X7 T.f J w fun M w=>lp (α:=Value) (.int .i64 0) w fun c H O w=>X2 .lss T.d 8 7 H M w fun N w=>X0 N (Z5 T.f T.c J H w fun i w=>M4 T.c i w fun b w=>Y2 T.c T.e b 1 w fun j w=>X7 T.e j w fun k w=>X5 .gtr T.d 14 k 32 w fun d w=>J5 d false w T.c T.m b 6 fun l w=>Q1 d false w (X7 T.m l) fun m w=>Q1 d false w (X5 .gtr T.d 19 m 32) fun n w=>pick P d (.bool true) n w fun e w=>J5 e false w T.c T.k b 5 fun o w=>Q1 e false w (X7 T.k o) fun p w=>Q1 e false w (X5 .gtr T.d 25 p 200) fun q w=>pick P e (.bool true) q w fun h w=>J5 h false w T.c T.d b 4 fun r w=>Q1 h false w (X5 .gtr T.d 30 r 64) fun s w=>pick P h (.bool true) s w fun t w=>X0 t (K (.bool true) w) (U4 8 H w c)) (Y2 T.a T.e a 2 w fun u w=>X7 T.e u w fun v w=>X5 .gtr T.d 36 v 32 w fun f w=>J5 f false w T.a T.h a 6 fun y w=>Q1 f false w (X7 T.h y) fun z w=>Q1 f false w (X5 .gtr T.d 41 z 32) fun A w=>pick P f (.bool true) A w fun g w=>J5 g false w T.a T.f a 7 fun B w=>Q1 g false w (X7 T.f B) fun C w=>Q1 g false w (X5 .gtr T.d 47 C 32) fun D w=>pick P g (.bool true) D w fun E w=>K E w)
theorem Q7Q (h:Q1i a0 w K):Q0 P F.cA [a0] w K:=zr Q7A Tryz.func104 h
def Yr:W4:=[none,none,none,some ([8],[4,5,8,9,10,11,12,13,14,15,16,17,18])]++X8 7
def F6:V2:=fun e f w K=>X7 T.f e w fun g w=>lp (α:=Value) (.int .i64 0) w fun a b i w=>X2 .lss T.d 8 7 b g w fun h w=>X0 h (Z5 T.f T.c e b w fun c w=>Y8 P f [c] w fun d w=>X0 d (K b w) (U4 8 b w a)) (K (.int .i64 (-1)) w)
theorem Yx (h:F6 a0 a1 w K):Q0 P F.g [a0,a1] w K:=zr Yr Tryz.func184 h
def B0:V2:=fun a b w K=>Q0 P F.g [a,b] w fun c w=>X5 .geq T.d 7 c 0 w fun d w=>K d w
theorem Xi (h:B0 a0 a1 w K):Q0 P F.a [a0,a1] w K:=zr (X8 2) Tryz.func121 h
def Da:W4:=[none,none,none,some ([8],[4,5,8,9,10,11,12,13,14,15,16,17,18])]++X8 7
def Xf:V2:=fun e f w K=>X7 T.e e w fun g w=>lp (α:=Value) (.int .i64 0) w fun a b i w=>X2 .lss T.d 8 7 b g w fun h w=>X0 h (Z5 T.e T.b e b w fun c w=>X2 .eql T.b 11 15 f c w fun d w=>X0 d (K b w) (U4 8 b w a)) (K (.int .i64 (-1)) w)
theorem Dh (h:Xf a0 a1 w K):Q0 P F.ar [a0,a1] w K:=zr Da Tryz.func201 h
def Qa:V2:=fun a b w K=>Q0 P F.ar [a,b] w fun c w=>X5 .geq T.d 7 c 0 w fun d w=>K d w
theorem Li (h:Qa a0 a1 w K):Q0 P F.ad [a0,a1] w K:=zr (X8 2) Tryz.func160 h
def Fm:M7:=fun b w K=>box P T.c b w fun a w=>Y2 T.c T.n a 3 w fun c w=>K c w
theorem Q4u (h:Fm a0 w K):Q0 P F.cc [a0] w K:=zr (X8 2) Tryz.func161 h
def Fo:M7:=fun b w K=>box P T.c b w fun a w=>Y2 T.c T.n a 3 w fun c w=>V1 P .not c w fun d w=>K d w
theorem Q4v (h:Fo a0 w K):Q0 P F.cd [a0] w K:=zr (X8 2) Tryz.func162 h
def Wo:W4:=[none,none,none,some ([8],[4,5,8,9,10,11,12,13,14,15,16,17,18])]++X8 7
def T9:V2:=fun e f w K=>X7 T.e e w fun g w=>lp (α:=Value) (.int .i64 0) w fun a b i w=>X2 .lss T.d 8 7 b g w fun h w=>X0 h (Z5 T.e T.b e b w fun c w=>Y8 P f [c] w fun d w=>X0 d (K b w) (U4 8 b w a)) (K (.int .i64 (-1)) w)
theorem Wq (h:T9 a0 a1 w K):Q0 P F.x [a0,a1] w K:=zr Wo Tryz.func178 h
def P4:V2:=fun a b w K=>Q0 P F.x [a,b] w fun c w=>X5 .geq T.d 7 c 0 w fun d w=>K d w
theorem Ug (h:P4 a0 a1 w K):Q0 P F.c [a0,a1] w K:=zr (X8 2) Tryz.func113 h
def Lc:V2:=fun a b w K=>Q9 P T.ab b w fun c w=>Y8 P c [a] w fun d w=>V1 P .not d w fun e w=>K e w
theorem Gu (h:Lc a0 a1 w K):Q0 P F.c5 [a0,a1] w K:=zr (X8 2) Tryz.func202 h
def Nv:V2:=fun b c w K=>box P T.ab c w fun a w=>O8 P (.func F.c5) [] [a] w fun d w=>Q0 P F.c [b,d] w fun e w=>V1 P .not e w fun f w=>K f w
theorem Af (h:Nv a0 a1 w K):Q0 P F.a6 [a0,a1] w K:=zr (X8 2) Tryz.func163 h
def X0p:W4:=[none,none,none,some ([],[4,6,9,10,11,12,13,14,15])]++X8 6
def Q4e:V2:=fun g h w K=>rng P T.b g w fun i w=>lp (α:=Unit) () w fun a k j w=>V0 P i true T.x w fun f w=>ext P f 0 w fun b w=>X0 b (ext P f 2 w fun c w=>Y8 P h [c] w fun d w=>V1 P .not d w fun e w=>X0 e (K (.bool false) w) (a () w)) (K (.bool true) w)
theorem X0E (h:Q4e a0 a1 w K):Q0 P F.cy [a0,a1] w K:=zr X0p Tryz.func229 h
def Q1s:M7:=fun b w K=>Y5 P .geq T.ax (.tmp 3) (.const (.int .i32 65)) b (.int .i32 65) w fun a w=>Y0 a true b w fun c w=>Q1 a true w (Y5 P .leq T.ax (.tmp 6) (.const (.int .i32 90)) c (.int .i32 90)) fun d w=>pick P a d (.bool false) w fun e w=>K e w
theorem Q80 (h:Q1s a0 w K):Q0 P F.c8 [a0] w K:=zr (X8 2) Tryz.func204 h
def Q1t:M7:=fun b w K=>Y5 P .geq T.ax (.tmp 3) (.const (.int .i32 97)) b (.int .i32 97) w fun a w=>Y0 a true b w fun c w=>Q1 a true w (Y5 P .leq T.ax (.tmp 6) (.const (.int .i32 122)) c (.int .i32 122)) fun d w=>pick P a d (.bool false) w fun e w=>K e w
theorem Q81 (h:Q1t a0 w K):Q0 P F.c9 [a0] w K:=zr (X8 2) Tryz.func231 h
def Q0i:M7:=fun c w K=>Q0 P F.c8 [c] w fun j w=>Y0 j false c w fun k w=>Q1 j false w (Q0 P F.c9 [k]) fun l w=>pick P j (.bool true) l w fun b w=>Y0 b false c w fun d w=>Q1 b false w (Y5 P .geq T.ax (.tmp 10) (.const (.int .i32 48)) d (.int .i32 48)) fun e w=>Y0 b false e w fun a w=>Y0 a true c w fun f w=>Q1 a true w (Y5 P .leq T.ax (.tmp 13) (.const (.int .i32 57)) f (.int .i32 57)) fun g w=>Q1 b false w (pick P a g (.bool false)) fun h w=>pick P b (.bool true) h w fun i w=>K i w
theorem Q6A (h:Q0i a0 w K):Q0 P F.bW [a0] w K:=zr (X8 2) Tryz.func230 h
def Q39:M7:=fun c w K=>V5 .eql T.b 3 c #[] w fun d w=>Y0 d false c w fun n w=>Q1 d false w (X7 T.b n) fun o w=>Q1 d false w (X5 .gtr T.d 7 o 32) fun p w=>pick P d (.bool true) p w fun b w=>Y0 b false c w fun e w=>Q1 b false w (B3 P T.b e (.int .i64 0)) fun f w=>Q1 b false w (Y5 P .geq T.t (.tmp 12) (.const (.int .u8 48)) f (.int .u8 48)) fun g w=>Y0 b false g w fun a w=>Y0 a true c w fun h w=>Q1 a true w (B3 P T.b h (.int .i64 0)) fun i w=>Q1 a true w (Y5 P .leq T.t (.tmp 16) (.const (.int .u8 57)) i (.int .u8 57)) fun j w=>Q1 b false w (pick P a j (.bool false)) fun k w=>pick P b (.bool true) k w fun l w=>X0 l (K (.bool false) w) (Q0 P F.cy [c,(.func (.func F.bW) #[] #[])] w fun m w=>K m w)
theorem Q92 (h:Q39 a0 w K):Q0 P F.bS [a0] w K:=zr (X8 5) Tryz.func203 h
def Q1o:M7:=fun c w K=>Q0 P F.bS [c] w fun a w=>Y0 a true c w fun d w=>Q1 a true w (B3 P T.b d (.int .i64 0)) fun e w=>Q1 a true w (conv P T.t T.ax e) fun f w=>Q1 a true w (Q0 P F.c8 [f]) fun g w=>pick P a g (.bool false) w fun b w=>K b w
theorem Q7W (h:Q1o a0 w K):Q0 P F.ag [a0] w K:=zr (X8 2) Tryz.func164 h
def Mk:Ln:=fun k f l w K=>dr w fun b a=>Z1 b a (Q9 P T.ah f) fun j=>Y1 b a j (fun e=>Y8 P e [k]) fun m=>Z1 b a (Q9 P T.ah f) fun n=>Z1 b a (Q9 P T.b l) fun o=> ∀e g h i w,a w->j e w->m g w->n h w->o i w->Y8 P h [i] w fun c w=>X2 .eql T.b 7 10 g c w fun d w=>K d w
theorem Kk (h:Mk a0 a1 a2 w K):Q0 P F.ck [a0,a1,a2] w K:=zr (X8 2) Tryz.func205 h
def Q0t:W4:=[none,none,none,some ([9],[4,5,6,9,10,11,12,13,14,15,16,17,18,19])]++X8 7
def Du:V2:=fun e k w K=>box P T.ah k w fun a w=>X7 T.e e w fun l w=>lp (α:=Value) (.int .i64 0) w fun b d m w=>X2 .lss T.d 9 8 d l w fun f w=>X0 f (Z5 T.e T.b e d w fun g w=>M4 T.b g w fun c w=>I9 P T.e e none (some d) none w fun h w=>O8 P (.func F.ck) [] [a,c] w fun i w=>Q0 P F.c [h,i] w fun j w=>X0 j (K (.bool false) w) (U4 9 d w b)) (K (.bool true) w)
theorem Q0I (h:Du a0 a1 w K):Q0 P F.aM [a0,a1] w K:=zr Q0t Tryz.func165 h
def Q49:M7:=fun a w K=>K a w
theorem Q4w (h:Q49 a0 w K):Q0 P F.ce [a0] w K:=zr (X8 2) Tryz.func166 h
def Zt:W4:=[none,none,none,some ([8],[4,5,8,9,10,11,12,13,14,15,16,17,18])]++X8 7
def G7:V2:=fun e f w K=>X7 T.h e w fun g w=>lp (α:=Value) (.int .i64 0) w fun a b i w=>X2 .lss T.d 8 7 b g w fun h w=>X0 h (Z5 T.h T.j e b w fun c w=>Y8 P f [c] w fun d w=>X0 d (K b w) (U4 8 b w a)) (K (.int .i64 (-1)) w)
theorem Ja (h:G7 a0 a1 w K):Q0 P F.j [a0,a1] w K:=zr Zt Tryz.func180 h
def F0:V2:=fun a b w K=>Q0 P F.j [a,b] w fun c w=>X5 .geq T.d 7 c 0 w fun d w=>K d w
theorem Xy (h:F0 a0 a1 w K):Q0 P F.f [a0,a1] w K:=zr (X8 2) Tryz.func206 h
def Ut:Ln:=fun n h o w K=>box P T.j n w fun a w=>dr w fun c b=>Z1 c b (Q9 P T.ag h) fun l=>Z1 c b (Q9 P T.j a) fun m=>D0 c b l m (fun f g=>Y8 P f [g]) fun p=>Z1 c b (Q9 P T.ag h) fun q=>Z1 c b (Q9 P T.j o) fun r=> ∀f g i j k w,b w->l f w->m g w->p i w->q j w->r k w->Y8 P j [k] w fun d w=>X2 .eql T.b 7 10 i d w fun e w=>K e w
theorem Bc (h:Ut a0 a1 a2 w K):Q0 P F.bU [a0,a1,a2] w K:=zr (X8 2) Tryz.func207 h
def Gm:W4:=[none,none,none,some ([9],[4,5,6,9,10,11,12,13,14,15,16,17,18,19])]++X8 7
def Ld:V2:=fun e k w K=>box P T.ag k w fun a w=>X7 T.h e w fun l w=>lp (α:=Value) (.int .i64 0) w fun b d m w=>X2 .lss T.d 9 8 d l w fun f w=>X0 f (Z5 T.h T.j e d w fun g w=>M4 T.j g w fun c w=>I9 P T.h e none (some d) none w fun h w=>O8 P (.func F.bU) [] [a,c] w fun i w=>Q0 P F.f [h,i] w fun j w=>X0 j (K (.bool false) w) (U4 9 d w b)) (K (.bool true) w)
theorem Gv (h:Ld a0 a1 w K):Q0 P F.aw [a0,a1] w K:=zr Gm Tryz.func167 h
def Fp:M7:=fun b w K=>box P T.j b w fun a w=>Y2 T.j T.b a 0 w fun c w=>K c w
theorem Q4x (h:Fp a0 w K):Q0 P F.cf [a0] w K:=zr (X8 2) Tryz.func168 h
def Ub:Ln:=fun n h o w K=>box P T.c n w fun a w=>dr w fun c b=>Z1 c b (Q9 P T.af h) fun l=>Z1 c b (Q9 P T.c a) fun m=>D0 c b l m (fun f g=>Y8 P f [g]) fun p=>Z1 c b (Q9 P T.af h) fun q=>Z1 c b (Q9 P T.c o) fun r=> ∀f g i j k w,b w->l f w->m g w->p i w->q j w->r k w->Y8 P j [k] w fun d w=>X2 .eql T.b 7 10 i d w fun e w=>K e w
theorem Sm (h:Ub a0 a1 a2 w K):Q0 P F.bQ [a0,a1,a2] w K:=zr (X8 2) Tryz.func208 h
def Bt:W4:=[none,none,none,some ([9],[4,5,6,9,10,11,12,13,14,15,16,17,18,19])]++X8 7
def Wh:V2:=fun e k w K=>box P T.af k w fun a w=>X7 T.f e w fun l w=>lp (α:=Value) (.int .i64 0) w fun b d m w=>X2 .lss T.d 9 8 d l w fun f w=>X0 f (Z5 T.f T.c e d w fun g w=>M4 T.c g w fun c w=>I9 P T.f e none (some d) none w fun h w=>O8 P (.func F.bQ) [] [a,c] w fun i w=>Q0 P F.a [h,i] w fun j w=>X0 j (K (.bool false) w) (U4 9 d w b)) (K (.bool true) w)
theorem Bx (h:Wh a0 a1 w K):Q0 P F.aq [a0,a1] w K:=zr Bt Tryz.func169 h
def Fq:M7:=fun b w K=>box P T.c b w fun a w=>Y2 T.c T.b a 0 w fun c w=>K c w
theorem Q4y (h:Fq a0 w K):Q0 P F.cg [a0] w K:=zr (X8 2) Tryz.func170 h
def Jz:V2:=fun b c w K=>box P T.j b w fun a w=>Q9 P T.ap c w fun d w=>Q9 P T.j a w fun e w=>Y8 P d [e] w fun f w=>V1 P .not f w fun g w=>K g w
theorem Sj (h:Jz a0 a1 w K):Q0 P F.bO [a0,a1] w K:=zr (X8 2) Tryz.func209 h
def We:V2:=fun b c w K=>box P T.ap c w fun a w=>O8 P (.func F.bO) [] [a] w fun d w=>Q0 P F.f [b,d] w fun e w=>V1 P .not e w fun f w=>K f w
theorem Bv (h:We a0 a1 w K):Q0 P F.ao [a0,a1] w K:=zr (X8 2) Tryz.func171 h
def Q1q:M7:=fun a w K=>V5 .eql T.b 3 a #[105,110,116] w fun e w=>Y0 e false a w fun g w=>Q1 e false w (V5 .eql T.b 6 g #[98,111,111,108]) fun h w=>pick P e (.bool true) h w fun f w=>Y0 f false a w fun b w=>Q1 f false w (V5 .eql T.b 10 b #[116,101,120,116]) fun c w=>pick P f (.bool true) c w fun d w=>K d w
theorem Q7Y (h:Q1q a0 w K):Q0 P F.bE [a0] w K:=zr (X8 2) Tryz.func183 h
def Wj:V2:=fun b c w K=>X7 T.b b w fun n w=>X7 T.b c w fun o w=>X2 .geq T.d 6 8 n o w fun a w=>Y0 a true b w fun d w=>Y0 a true b w fun e w=>Q1 a true w (X7 T.b e) fun f w=>Y0 a true c w fun g w=>Q1 a true w (X7 T.b g) fun h w=>Q1 a true w (X2 .sub T.d 13 15 f h) fun i w=>Q1 a true w (I9 P T.b d (some i) none none) fun j w=>Y0 a true c w fun k w=>Q1 a true w (X2 .eql T.b 17 18 j k) fun l w=>pick P a l (.bool false) w fun m w=>K m w
theorem Bz (h:Wj a0 a1 w K):Q0 P F.a8 [a0,a1] w K:=zr (X8 2) Tryz.func226 h
def Eh:V2:=fun a b w K=>Q0 P F.a8 [a,b] w fun c w=>K c w
theorem Q0V (h:Eh a0 a1 w K):Q0 P F.bB [a0,a1] w K:=zr (X8 2) Tryz.func227 h
def Ux:V2:=fun a f w K=>Q0 P F.a8 [a,f] w fun g w=>X0 g (X7 T.b a w fun b w=>X7 T.b f w fun c w=>X2 .sub T.d 10 12 b c w fun d w=>I9 P T.b a none (some d) none w fun e w=>K e w) (K a w)
theorem Bg (h:Ux a0 a1 w K):Q0 P F.c0 [a0,a1] w K:=zr (X8 5) Tryz.func244 h
def Oo:V2:=fun a b w K=>Q0 P F.c0 [a,b] w fun c w=>K c w
theorem Az (h:Oo a0 a1 w K):Q0 P F.bp [a0,a1] w K:=zr (X8 2) Tryz.func228 h
def Q8R:W4:=[none,none,none,some ([0,4],[0,4,5,6,7,8,9,10]),none,none,none]
def Q3a:M7:=fun d w K=>lp (α:=Value×Value) (d,(.int .i64 0)) w fun a b g w=>Q0 P F.bB [b.1,(.string ⟨#[91,93]⟩)] w fun e w=>X0 e (Q0 P F.bp [b.1,(.string ⟨#[91,93]⟩)] w fun f w=>X5 .add T.d 9 b.2 1 w fun c w=>a (f,c) w) (K (.tuple #[b.1,b.2]) w)
theorem Q93 (h:Q3a a0 w K):Q0 P F.cn [a0] w K:=zr Q8R Tryz.func198 h
def Q1r:M7:=fun j w K=>Q0 P F.cn [j] w fun k w=>M8 k w fun i l w=>X5 .leq T.d 10 l 3 w fun a w=>Y0 a true i w fun c w=>Q1 a true w (Q0 P F.bE [c]) fun d w=>Y0 a true d w fun b w=>Y0 b false i w fun e w=>Q1 b false w (Q0 P F.ag [e]) fun f w=>Q1 a true w (pick P b (.bool true) f) fun g w=>pick P a g (.bool false) w fun h w=>K h w
theorem Q7Z (h:Q1r a0 w K):Q0 P F.a5 [a0] w K:=zr (X8 3) Tryz.func152 h
def Ip:M7:=fun b w K=>Q0 P F.bS [b] w fun a w=>Y0 a true b w fun c w=>Q1 a true w (Q0 P F.ag [c]) fun d w=>Q1 a true w (V1 P .not d) fun e w=>pick P a e (.bool false) w fun f w=>K f w
theorem Q5p (h:Ip a0 w K):Q0 P F.bH [a0] w K:=zr (X8 2) Tryz.func173 h
def Fs:M7:=fun d w K=>box P T.j d w fun a w=>Y2 T.j T.b a 0 w fun e w=>Q0 P F.bH [e] w fun c w=>J5 c true w T.j T.b a 1 fun f w=>Q1 c true w (Q0 P F.a5 [f]) fun g w=>pick P c g (.bool false) w fun b w=>K b w
theorem Q4z (h:Fs a0 w K):Q0 P F.bq [a0] w K:=zr (X8 2) Tryz.func172 h
def Jh:V2:=fun b c w K=>box P T.c b w fun a w=>Q9 P T.al c w fun d w=>Q9 P T.c a w fun e w=>Y8 P d [e] w fun f w=>V1 P .not f w fun g w=>K g w
theorem Rs (h:Jh a0 a1 w K):Q0 P F.bG [a0,a1] w K:=zr (X8 2) Tryz.func210 h
def Us:V2:=fun b c w K=>box P T.al c w fun a w=>O8 P (.func F.bG) [] [a] w fun d w=>Q0 P F.a [b,d] w fun e w=>V1 P .not e w fun f w=>K f w
theorem Bb (h:Us a0 a1 w K):Q0 P F.ak [a0,a1] w K:=zr (X8 2) Tryz.func174 h
def Ck:V2:=fun u t w K=>box P T.p u w fun a w=>Y2 T.p T.d a 0 w fun v w=>X5 .geq T.d 5 v 0 w fun f w=>J5 f true w T.p T.d a 1 fun y w=>J5 f true w T.p T.d a 0 fun g w=>Q1 f true w (X2 .gtr T.d 9 11 y g) fun h w=>pick P f h (.bool false) w fun b w=>J5 b true w T.p T.d a 1 fun i w=>Q1 b true w (Q9 P T.d t) fun j w=>Q1 b true w (X2 .leq T.d 16 17 i j) fun k w=>pick P b k (.bool false) w fun d w=>J5 d true w T.p T.d a 2 fun l w=>Q1 d true w (X5 .geq T.d 22 l 0) fun m w=>pick P d m (.bool false) w fun c w=>J5 c true w T.p T.d a 2 fun n w=>Q1 c true w (Q9 P T.d t) fun o w=>Q1 c true w (X2 .lss T.d 27 28 n o) fun p w=>pick P c p (.bool false) w fun e w=>J5 e true w T.p T.b a 3 fun q w=>Q1 e true w (Q0 P F.ag [q]) fun r w=>pick P e r (.bool false) w fun s w=>K s w
theorem Q3H (h:Ck a0 a1 w K):Q0 P F.ba [a0,a1] w K:=zr (X8 2) Tryz.func211 h
def Zu:W4:=[none,none,none,some ([8],[4,5,8,9,10,11,12,13,14,15,16,17,18])]++X8 7
def G8:V2:=fun e f w K=>X7 T.k e w fun g w=>lp (α:=Value) (.int .i64 0) w fun a b i w=>X2 .lss T.d 8 7 b g w fun h w=>X0 h (Z5 T.k T.q e b w fun c w=>Y8 P f [c] w fun d w=>X0 d (K b w) (U4 8 b w a)) (K (.int .i64 (-1)) w)
theorem Jb (h:G8 a0 a1 w K):Q0 P F.a0 [a0,a1] w K:=zr Zu Tryz.func245 h
def F2:V2:=fun a b w K=>Q0 P F.a0 [a,b] w fun c w=>X5 .geq T.d 7 c 0 w fun d w=>K d w
theorem Xz (h:F2 a0 a1 w K):Q0 P F.m [a0,a1] w K:=zr (X8 2) Tryz.func232 h
def Ua:V2:=fun b c w K=>box P T.q b w fun a w=>Q9 P T.aq c w fun d w=>Q9 P T.q a w fun e w=>Y8 P d [e] w fun f w=>V1 P .not f w fun g w=>K g w
theorem Sk (h:Ua a0 a1 w K):Q0 P F.bP [a0,a1] w K:=zr (X8 2) Tryz.func233 h
def Wg:V2:=fun b c w K=>box P T.aq c w fun a w=>O8 P (.func F.bP) [] [a] w fun d w=>Q0 P F.m [b,d] w fun e w=>V1 P .not e w fun f w=>K f w
theorem Bw (h:Wg a0 a1 w K):Q0 P F.ap [a0,a1] w K:=zr (X8 2) Tryz.func212 h
def Vb:W4:=[none,none,none,some ([8],[4,5,8,9,10,11,12,13,14,15,16,17,18])]++X8 7
def T1:V2:=fun e f w K=>X7 T.aA e w fun g w=>lp (α:=Value) (.int .i64 0) w fun a b i w=>X2 .lss T.d 8 7 b g w fun h w=>X0 h (Z5 T.aA T.ak e b w fun c w=>Y8 P f [c] w fun d w=>X0 d (K b w) (U4 8 b w a)) (K (.int .i64 (-1)) w)
theorem Vj (h:T1 a0 a1 w K):Q0 P F.t [a0,a1] w K:=zr Vb Tryz.func257 h
def Q0e:V2:=fun b c w K=>box P T.ak b w fun a w=>Y2 T.ak T.b a 0 w fun d w=>Q9 P T.b c w fun e w=>X2 .eql T.b 5 6 d e w fun f w=>K f w
theorem Q6w (h:Q0e a0 a1 w K):Q0 P F.cU [a0,a1] w K:=zr (X8 2) Tryz.func258 h
def Q34:M7:=fun b w K=>box P T.b b w fun a w=>I9 P T.an (.pointer (some ⟨G.a,0,none⟩)) none none none w fun c w=>O8 P (.func F.cU) [] [a] w fun d w=>Q0 P F.t [c,d] w fun e w=>K e w
theorem Q8X (h:Q34 a0 w K):Q0 P F.cI [a0] w K:=zr (X8 2) Tryz.func246 h
def Q1k:M7:=fun p w K=>Q0 P F.cI [p] w fun m w=>X5 .lss T.d 8 m 0 w fun q w=>X0 q (K (.tuple #[(.bool false),(.bool false),(.bool false)]) w) (dr w fun f a=>Z1 f a (indexAddr P T.an (.pointer (some ⟨G.a,0,none⟩)) m) fun i=>Y1 f a i (fun b=>fieldAddr P T.ak b 1) fun j=>Z1 f a (indexAddr P T.an (.pointer (some ⟨G.a,0,none⟩)) m) fun k=>Y1 f a k (fun d=>fieldAddr P T.ak d 2) fun l=>Y1 f a j (fun c=>Q9 P T.n c) fun n=>Y1 f a l (fun e=>Q9 P T.n e) fun o=> ∀b c d e g h w,a w->i b w->j c w->k d w->l e w->n g w->o h w->K (.tuple #[g,h,(.bool true)]) w)
theorem Q7S (h:Q1k a0 w K):Q0 P F.c6 [a0] w K:=zr (X8 6) Tryz.func234 h
def Q37:M7:=fun c w K=>Q0 P F.cn [c] w fun d w=>M8 d w fun f e w=>Q0 P F.a5 [c] w fun a w=>V1 P .not a w fun b w=>X0 b (K (.int .i64 0) w) (K e w)
theorem Q90 (h:Q37 a0 w K):Q0 P F.cL [a0] w K:=zr (X8 6) Tryz.func194 h
def Wk:V2:=fun a b w K=>Q0 P F.bM [a,b] w fun c w=>K c w
theorem Fa (h:Wk a0 a1 w K):Q0 P F.au [a0,a1] w K:=zr (X8 2) Tryz.func269 h
def Q0A:W4:=X8 17++[some ([8,10],[4,8,10,11,12,13,57,58,59,60,61,62,63,64,65,66,67,68,69,70,71,72,73,74,75,76,77,78,79,80,81,82,83,84,85,86,87,88,89,90,91,92,93,94,95,96,97,98,99,100,101,102,103,104,105,106,107,108,109,110,111,112,113,114,115,116,117,118,119,120,121,122,123,124,125,126,127,128,129,130,131,132,133,134,135,136,137,138,139,140,141,142]),none,none,some ([8],[4,8,11,60,61,62,63,64,65,66,67,68,69,70,71,72,73,74,75,76,77])]++X8 23
def Ej:V2:=fun h k w K=>X7 T.b k w fun d w=>X5 .eql T.d 17 d 0 w fun l w=>Y0 l false k w fun Z w=>Y0 l false h w fun aa w=>Q1 l false w (X2 .eql T.b 20 21 Z aa) fun ab w=>pick P l (.bool true) ab w fun ac w=>X0 ac (K (.int .i64 0) w) (X5 .eql T.d 25 d 1 w fun ad w=>X0 ad (B3 P T.b k (.int .i64 0) w fun ae w=>Q0 P F.au [h,ae] w fun af w=>K af w) (X7 T.b h w fun ag w=>X2 .geq T.d 32 34 d ag w fun ah w=>X0 ah (K (.int .i64 (-1)) w) (Q9 P T.d (.pointer (some ⟨G.c,0,none⟩)) w fun ai w=>X2 .leq T.d 37 38 d ai w fun m w=>Y0 m true h w fun aj w=>Q1 m true w (X7 T.b aj) fun ak w=>Q1 m true w (X5 .leq T.d 42 ak 64) fun al w=>pick P m al (.bool false) w fun am w=>X0 am (Q0 P F.cj [h,k] w fun an w=>K an w) (B3 P T.b k (.int .i64 0) w fun X w=>B3 P T.b k (.int .i64 1) w fun ao w=>X7 T.b h w fun ap w=>X2 .sub T.d 53 54 ap d w fun aq w=>X5 .add T.d 55 aq 1 w fun p w=>lp (α:=Value×Value) ((.int .i64 0),(.int .i64 0)) w fun i g d_ w=>X2 .lss T.d 57 58 g.1 p w fun ar w=>X0 ar (jn (α:=Value) w (fun r w=>B3 P T.b h g.1 w fun av w=>X2 .neq T.t 62 63 av X w fun aw w=>X0 aw (X5 .add T.d 66 g.1 1 w fun ax w=>I9 P T.b h (some ax) (some p) none w fun ay w=>Q0 P F.au [ay,X] w fun Y w=>X5 .lss T.d 72 Y 0 w fun az w=>X0 az (K (.int .i64 (-1)) w) (X5 .add T.d 75 Y 1 w fun a2 w=>X2 .add T.d 74 76 g.1 a2 w fun a3 w=>r a3 w)) (r g.1 w)) fun j d_ w=>X5 .add T.d 79 j 1 w fun a4 w=>B3 P T.b h a4 w fun a5 w=>X2 .eql T.t 81 82 a5 ao w fun b w=>Y0 b true h w fun a6 w=>Y0 b true j w fun a7 w=>Y0 b true j w fun a8 w=>Y0 b true d w fun a9 w=>Q1 b true w (X2 .add T.d 87 88 a8 a9) fun ba w=>Q1 b true w (I9 P T.b a6 (some a7) (some ba) none) fun bb w=>Y0 b true k w fun bc w=>Q1 b true w (X2 .eql T.b 90 91 bb bc) fun bd w=>pick P b bd (.bool false) w fun be w=>X0 be (K j w) (X5 .add T.d 95 j 1 w fun e w=>X5 .add T.d 97 g.2 1 w fun q w=>Q9 P T.d (.pointer (some ⟨G.c,0,none⟩)) w fun s w=>X2 .leq T.d 99 100 d s w fun c w=>Y0 c true q w fun t w=>Y0 c true e w fun u w=>Q1 c true w (Q0 P F.cX [u]) fun v w=>Q1 c true w (X2 .gtr T.d 103 105 t v) fun y w=>pick P c y (.bool false) w fun z w=>X0 z (I9 P T.b h (some e) none none w fun A w=>Q0 P F.cj [A,k] w fun n w=>X5 .geq T.d 113 n 0 w fun B w=>X0 B (X2 .add T.d 115 116 n e w fun C w=>K C w) (K (.int .i64 (-1)) w)) (Q9 P T.d (.pointer (some ⟨G.c,0,none⟩)) w fun D w=>X2 .gtr T.d 118 119 d D w fun a w=>Y0 a true q w fun E w=>Y0 a true e w fun H w=>Q1 a true w (Y5 P .shr T.d (.tmp 123) (.const (.int .u64 4)) H (.int .u64 4)) fun J w=>Q1 a true w (Y5 P .add T.d (.const (.int .i64 4)) (.tmp 124) (.int .i64 4) J) fun L w=>Q1 a true w (X2 .geq T.d 122 125 E L) fun M w=>pick P a M (.bool false) w fun f w=>Y0 f true e w fun N w=>Y0 f true p w fun O w=>Q1 f true w (X2 .lss T.d 129 130 N O) fun Q w=>pick P f Q (.bool false) w fun R w=>X0 R (I9 P T.b h (some e) none none w fun U w=>Q0 P F.cH [U,k] w fun o w=>X5 .lss T.d 138 o 0 w fun V w=>X0 V (K (.int .i64 (-1)) w) (X2 .add T.d 140 141 e o w fun W w=>K W w)) (i (e,q) w)))) (K (.int .i64 (-1)) w)))))
theorem Q0X (h:Ej a0 a1 w K):Q0 P F.bD [a0,a1] w K:=zr Q0A Tryz.func267 h
def Rz:V2:=fun j n w K=>Q0 P F.bD [j,n] w fun a w=>X5 .geq T.d 11 a 0 w fun k w=>X0 k (dr w fun i d=>Z1 i d (I9 P T.b j none (some a) none) fun l=>Z1 i d (X7 T.b n) fun g=>Y1 i d g (fun b=>X2 .add T.d 17 19 a b) fun h=>Y1 i d h (fun c=>I9 P T.b j (some c) none none) fun m=> ∀e b c f w,d w->l e w->g b w->h c w->m f w->K (.tuple #[e,f,(.bool true)]) w) (K (.tuple #[j,(.string ⟨#[]⟩),(.bool false)]) w)
theorem Q2Q (h:Rz a0 a1 w K):Q0 P F.cG [a0,a1] w K:=zr (X8 6) Tryz.func268 h
def Q0m:V2:=fun e f w K=>Q0 P F.cG [e,f] w fun d w=>M8 d w fun a b w=>ext P d 2 w fun c w=>K (.tuple #[a,b,c]) w
theorem Q6E (h:Q0m a0 a1 w K):Q0 P F.cw [a0,a1] w K:=zr (X8 2) Tryz.func260 h
def Q1p:M7:=fun t w K=>Q0 P F.cw [t,(.string ⟨#[46]⟩)] w fun e w=>M8 e w fun f d w=>ext P e 2 w fun g w=>V1 P .not g w fun b w=>Y0 b false f w fun h w=>Q1 b false w (Q0 P F.ag [h]) fun i w=>Q1 b false w (V1 P .not i) fun j w=>pick P b (.bool true) j w fun c w=>Y0 c false d w fun k w=>Q1 c false w (Q0 P F.bS [k]) fun l w=>Q1 c false w (V1 P .not l) fun m w=>pick P c (.bool true) m w fun a w=>Y0 a false d w fun n w=>Q1 a false w (B3 P T.b n (.int .i64 0)) fun o w=>Q1 a false w (conv P T.t T.ax o) fun p w=>Q1 a false w (Q0 P F.c9 [p]) fun q w=>Q1 a false w (V1 P .not q) fun r w=>pick P a (.bool true) r w fun s w=>X0 s (K (.tuple #[(.string ⟨#[]⟩),(.string ⟨#[]⟩),(.int .i64 30)]) w) (K (.tuple #[f,d,(.int .i64 0)]) w)
theorem Q7X (h:Q1p a0 w K):Q0 P F.cD [a0] w K:=zr (X8 6) Tryz.func248 h
def Q8Q:W4:=X8 7++[some ([27],[27,28,29])]++X8 6
def Q35:V2:=fun f a w K=>V5 .eql T.b 8 f #[119,111,114,100] w fun i w=>X0 i (X7 T.b a w fun j w=>X5 .leq T.d 12 j 64 w fun e w=>Y0 e true a w fun k w=>Q1 e true w (Q0 P F.aY [k]) fun l w=>pick P e l (.bool false) w fun b w=>Y0 b true a w fun m w=>Q1 b true w (Q0 P F.cz [m,(.string ⟨#[10]⟩)]) fun n w=>Q1 b true w (V1 P .not n) fun o w=>pick P b o (.bool false) w fun p w=>K p w) (V5 .eql T.b 8 f #[110,101,119] w fun q w=>X0 q (Q0 P F.ag [a] w fun r w=>K r w) (jn (α:=Value) w (fun J w=>V5 .eql T.b 8 f #[105,115] w fun g w=>X0 g (J g w) (V5 .eql T.b 8 f #[99,97,115,116] w fun s w=>J s w)) fun N O w=>X0 N (Q0 P F.a5 [a] w fun c w=>Y0 c true a w fun t w=>Q1 c true w (Q0 P F.bE [t]) fun u w=>Q1 c true w (V1 P .not u) fun v w=>pick P c v (.bool false) w fun y w=>K y w) (V5 .eql T.b 8 f #[97,114,114,97,121] w fun z w=>X0 z (Q0 P F.a5 [a] w fun d w=>Y0 d true a w fun A w=>Q1 d true w (Q0 P F.cL [A]) fun B w=>Q1 d true w (X5 .lss T.d 43 B 3) fun C w=>pick P d C (.bool false) w fun D w=>K D w) (Q0 P F.cD [a] w fun h w=>M8 h w fun L M w=>ext P h 2 w fun E w=>X5 .eql T.z 52 E 0 w fun H w=>K H w))))
theorem Q8Y (h:Q35 a0 a1 w K):Q0 P F.cJ [a0,a1] w K:=zr Q8Q Tryz.func235 h
def Q7B:W4:=X8 5++[some ([16],[16,17,18,19,20,21,22,23,24,25,26,27,28,29,30,31,32,33,34,35,36,37,38,39]),none,none,none,none]
def Q1j:M7:=fun u w K=>box P T.q u w fun a w=>Y2 T.q T.b a 0 w fun v w=>Q0 P F.c6 [v] w fun t w=>M8 t w fun h b w=>ext P t 2 w fun i w=>V1 P .not i w fun j w=>X0 j (K (.int .i64 40) w) (jn (α:=Value) w (fun g w=>V1 P .not h w fun c w=>J5 c true w T.q T.aa a 1 fun k w=>Q1 c true w (X5 .neq T.aa 21 k 0) fun l w=>pick P c l (.bool false) w fun e w=>X0 e (g e w) (V1 P .not b w fun d w=>J5 d true w T.q T.b a 2 fun m w=>Q1 d true w (V5 .neq T.b 28 m #[]) fun n w=>pick P d n (.bool false) w fun f w=>X0 f (g f w) (J5 b true w T.q T.b a 0 fun o w=>J5 b true w T.q T.b a 2 fun p w=>Q1 b true w (Q0 P F.cJ [o,p]) fun q w=>Q1 b true w (V1 P .not q) fun r w=>pick P b r (.bool false) w fun s w=>g s w))) fun y z w=>X0 y (K (.int .i64 41) w) (K (.int .i64 0) w))
theorem Q7R (h:Q1j a0 w K):Q0 P F.cB [a0] w K:=zr Q7B Tryz.func214 h
def Cl:M7:=fun b w K=>box P T.q b w fun a w=>Q9 P T.q a w fun c w=>Q0 P F.cB [c] w fun d w=>X5 .eql T.z 4 d 0 w fun e w=>K e w
theorem Q3I (h:Cl a0 w K):Q0 P F.bb [a0] w K:=zr (X8 2) Tryz.func213 h
def Zr:W4:=[none,none,none,some ([8],[4,5,8,9,10,11,12,13,14,15,16,17,18])]++X8 7
def G5:V2:=fun e f w K=>X7 T.m e w fun g w=>lp (α:=Value) (.int .i64 0) w fun a b i w=>X2 .lss T.d 8 7 b g w fun h w=>X0 h (Z5 T.m T.p e b w fun c w=>Y8 P f [c] w fun d w=>X0 d (K b w) (U4 8 b w a)) (K (.int .i64 (-1)) w)
theorem Zy (h:G5 a0 a1 w K):Q0 P F.z [a0,a1] w K:=zr Zr Tryz.func249 h
def B9:V2:=fun a b w K=>Q0 P F.z [a,b] w fun c w=>X5 .geq T.d 7 c 0 w fun d w=>K d w
theorem Xx (h:B9 a0 a1 w K):Q0 P F.l [a0,a1] w K:=zr (X8 2) Tryz.func236 h
def Jy:V2:=fun b c w K=>box P T.p b w fun a w=>Q9 P T.ao c w fun d w=>Q9 P T.p a w fun e w=>Y8 P d [e] w fun f w=>V1 P .not f w fun g w=>K g w
theorem Si (h:Jy a0 a1 w K):Q0 P F.bN [a0,a1] w K:=zr (X8 2) Tryz.func237 h
def Wd:V2:=fun b c w K=>box P T.ao c w fun a w=>O8 P (.func F.bN) [] [a] w fun d w=>Q0 P F.l [b,d] w fun e w=>V1 P .not e w fun f w=>K f w
theorem Bu (h:Wd a0 a1 w K):Q0 P F.an [a0,a1] w K:=zr (X8 2) Tryz.func215 h
def Iq:M7:=fun a0 w K=>box P T.c a0 w fun a w=>Y2 T.c T.b a 0 w fun t6 w=>Q0 P F.bH [t6] w fun t7 w=>V1 P .not t7 w fun i w=>J5 i false w T.c T.e a 1 fun j w=>Q1 i false w (Q0 P F.a6 [j,(.func (.func F.a5) #[] #[])]) fun k w=>Q1 i false w (V1 P .not k) fun l w=>pick P i (.bool true) l w fun b w=>J5 b false w T.c T.b a 2 fun m w=>Q1 b false w (V5 .neq T.b 17 m #[]) fun n w=>Y0 b false n w fun d w=>J5 d true w T.c T.b a 2 fun o w=>Q1 d true w (Q0 P F.a5 [o]) fun p w=>Q1 d true w (V1 P .not p) fun q w=>Q1 b false w (pick P d q (.bool false)) fun r w=>pick P b (.bool true) r w fun s w=>X0 s (K (.bool false) w) (Y2 T.c T.n a 3 w fun t w=>X0 t (Y2 T.c T.d a 4 w fun u w=>X5 .eql T.d 29 u 0 w fun e w=>J5 e true w T.c T.k a 5 fun v w=>Q1 e true w (X7 T.k v) fun y w=>Q1 e true w (X5 .eql T.d 34 y 0) fun z w=>pick P e z (.bool false) w fun f w=>J5 f true w T.c T.m a 6 fun A w=>Q1 f true w (X7 T.m A) fun B w=>Q1 f true w (X5 .eql T.d 40 B 0) fun C w=>pick P f C (.bool false) w fun D w=>K D w) (Y2 T.c T.k a 5 w fun E w=>X7 T.k E w fun H w=>M4 T.d H w fun Z w=>O8 P (.func F.ba) [] [Z] w fun J w=>Q9 P T.d Z w fun L w=>X5 .gtr T.d 47 L 0 w fun c w=>J5 c true w T.c T.d a 4 fun M w=>J5 c true w T.c T.e a 1 fun N w=>Q1 c true w (X7 T.e N) fun O w=>Q1 c true w (X2 .gtr T.d 51 54 M O) fun Q w=>pick P c Q (.bool false) w fun h w=>J5 h true w T.c T.k a 5 fun R w=>Q1 h true w (Q0 P F.ap [R,(.func (.func F.bb) #[] #[])]) fun U w=>pick P h U (.bool false) w fun g w=>J5 g true w T.c T.m a 6 fun V w=>Y0 g true J w fun W w=>Q1 g true w (Q0 P F.an [V,W]) fun X w=>pick P g X (.bool false) w fun Y w=>K Y w))
theorem Q5q (h:Iq a0 w K):Q0 P F.b2 [a0] w K:=zr (X8 10) Tryz.func175 h
def Q0d:M7:=fun a0 w K=>box P T.a a0 w fun b w=>Y2 T.a T.b b 0 w fun t8 w=>Y2 T.a T.b b 1 w fun t w=>buildSlice P T.e 2 [(0,t8),(1,t)] w fun u w=>Y2 T.a T.e b 2 w fun v w=>V9 P .append [T.e,T.e] T.e [false,false] [u,v] w fun k w=>dr w fun s r=>Z1 s r (I9 P T.e k (some (.int .i64 1)) none none) fun av=>Z1 s r (fieldAddr P T.a b 0) fun q=>Y1 s r q (fun g=>Q9 P T.b g) fun aw=> ∀l g m w,r w->av l w->q g w->aw m w->Q0 P F.ad [l,m] w fun y w=>Y2 T.a T.f b 7 w fun z w=>Q0 P F.a [z,(.func (.func F.cc) #[] #[])] w fun A w=>Y2 T.a T.f b 7 w fun B w=>Q0 P F.a [B,(.func (.func F.cd) #[] #[])] w fun C w=>Q0 P F.a6 [k,(.func (.func F.ag) #[] #[])] w fun D w=>V1 P .not D w fun n w=>Y0 n false y w fun E w=>pick P n (.bool true) E w fun c w=>J5 c false w T.a T.e b 2 fun H w=>Q1 c false w (Q0 P F.aM [H,(.func (.func F.ce) #[] #[])]) fun J w=>Q1 c false w (V1 P .not J) fun L w=>pick P c (.bool true) L w fun M w=>X0 M (K (.bool false) w) (Y2 T.a T.n b 3 w fun a w=>J5 a true w T.a T.n b 4 fun N w=>Q1 a true w (V1 P .not N) fun O w=>Y0 a true O w fun h w=>J5 h false w T.a T.b b 1 fun Q w=>Q1 h false w (V5 .neq T.b 48 Q #[79,98,106,101,99,116]) fun R w=>Q1 a true w (pick P h (.bool true) R) fun U w=>Y0 a true U w fun d w=>J5 d false w T.a T.h b 6 fun V w=>Q1 d false w (X7 T.h V) fun W w=>Q1 d false w (X5 .gtr T.d 54 W 0) fun X w=>Q1 a true w (pick P d (.bool true) X) fun Y w=>Y0 a true Y w fun o w=>Y0 o false C w fun Z w=>Q1 a true w (pick P o (.bool true) Z) fun aa w=>pick P a aa (.bool false) w fun ab w=>X0 ab (K (.bool false) w) (Y2 T.a T.n b 4 w fun p w=>J5 p true w T.a T.n b 5 fun ac w=>pick P p ac (.bool false) w fun e w=>Y0 e false A w fun ad w=>Y0 e false ad w fun i w=>J5 i true w T.a T.n b 4 fun ae w=>Q1 i true w (V1 P .not ae) fun af w=>Q1 e false w (pick P i af (.bool false)) fun ag w=>pick P e (.bool true) ag w fun ah w=>X0 ah (K (.bool false) w) (Y2 T.a T.h b 6 w fun ai w=>Q0 P F.aw [ai,(.func (.func F.cf) #[] #[])] w fun aj w=>V1 P .not aj w fun f w=>J5 f false w T.a T.f b 7 fun ak w=>Q1 f false w (Q0 P F.aq [ak,(.func (.func F.cg) #[] #[])]) fun al w=>Q1 f false w (V1 P .not al) fun am w=>pick P f (.bool true) am w fun an w=>X0 an (K (.bool false) w) (Y2 T.a T.h b 6 w fun ao w=>Q0 P F.ao [ao,(.func (.func F.bq) #[] #[])] w fun j w=>J5 j true w T.a T.f b 7 fun ap w=>Q1 j true w (Q0 P F.ak [ap,(.func (.func F.b2) #[] #[])]) fun aq w=>pick P j aq (.bool false) w fun ar w=>K ar w))))
theorem Q6v (h:Q0d a0 w K):Q0 P F.cr [a0] w K:=zr (X8 15) Tryz.func105 h
def Q0c:M7:=fun b w K=>box P T.a b w fun a w=>Q9 P T.a a w fun c w=>Q0 P F.cA [c] w fun d w=>X0 d (K (.int .i64 51) w) (Q9 P T.a a w fun e w=>Q0 P F.cr [e] w fun f w=>V1 P .not f w fun g w=>X0 g (K (.int .i64 50) w) (K (.int .i64 0) w))
theorem Q6u (h:Q0c a0 w K):Q0 P F.cq [a0] w K:=zr (X8 7) Tryz.func54 h
def Xe:M7:=fun a w K=>Y5 P .eql T.e (.tmp 3) (.const (.slice none 0 0)) a (.slice none 0 0) w fun b w=>X0 b (K (.slice none 0 0) w) (buildSlice P T.e 0 [] w fun c w=>V9 P .append [T.e,T.e] T.e [false,false] [c,a] w fun d w=>K d w)
theorem Dg (h:Xe a0 w K):Q0 P F.a4 [a0] w K:=zr (X8 5) Tryz.func106 h
def P9:M7:=fun a w K=>Y5 P .eql T.h (.tmp 3) (.const (.slice none 0 0)) a (.slice none 0 0) w fun b w=>X0 b (K (.slice none 0 0) w) (buildSlice P T.h 0 [] w fun c w=>V9 P .append [T.h,T.h] T.h [false,false] [c,a] w fun d w=>K d w)
theorem Vh (h:P9 a0 w K):Q0 P F.aa [a0] w K:=zr (X8 5) Tryz.func107 h
def T0:M7:=fun a w K=>Y5 P .eql T.k (.tmp 3) (.const (.slice none 0 0)) a (.slice none 0 0) w fun b w=>X0 b (K (.slice none 0 0) w) (buildSlice P T.k 0 [] w fun c w=>V9 P .append [T.k,T.k] T.k [false,false] [c,a] w fun d w=>K d w)
theorem Vi (h:T0 a0 w K):Q0 P F.ab [a0] w K:=zr (X8 5) Tryz.func176 h
def P8:M7:=fun a w K=>Y5 P .eql T.m (.tmp 3) (.const (.slice none 0 0)) a (.slice none 0 0) w fun b w=>X0 b (K (.slice none 0 0) w) (buildSlice P T.m 0 [] w fun c w=>V9 P .append [T.m,T.m] T.m [false,false] [c,a] w fun d w=>K d w)
theorem Vg (h:P8 a0 w K):Q0 P F.a9 [a0] w K:=zr (X8 5) Tryz.func177 h
def Q0h:M7:=fun B w K=>box P T.c B w fun a w=>Qh P T.c w fun r w=>dr w fun c b=>Z1 c b (fieldAddr P T.c a 1) fun u=>Z1 c b (fieldAddr P T.c a 5) fun y=>Z1 c b (fieldAddr P T.c a 6) fun A=>Y1 c b u (fun k=>Q9 P T.e k) fun v=>Y1 c b v (fun l=>Q0 P F.a4 [l]) fun D=>Y1 c b y (fun m=>Q9 P T.k m) fun z=>Y1 c b z (fun n=>Q0 P F.ab [n]) fun E=>Y1 c b A (fun o=>Q9 P T.m o) fun g=>Z1 c b (fieldAddr P T.c a 1) fun q=>Y1 c b g (fun d=>Q0 P F.a9 [d]) fun p=> ∀k m o l s n t d f e w,b w->u k w->y m w->A o w->v l w->D s w->z n w->E t w->g d w->q f w->p e w->M3 P T.e f s w fun _u w=>fieldAddr P T.c a 5 w fun h w=>M3 P T.k h t w fun _u w=>fieldAddr P T.c a 6 w fun i w=>M3 P T.m i e w fun _u w=>Q9 P T.c a w fun j w=>M3 P T.c r j w fun _u w=>M0 P T.c r w fun C=>K C w
theorem Q6z (h:Q0h a0 w K):Q0 P F.bV [a0] w K:=zr (X8 3) Tryz.func108 h
def Q6s:W4:=X8 5++[some ([3,17],[3,5,17,18,19,20,21,22,23,24,25,26])]++X8 6
def Q0g:M7:=fun M w K=>box P T.a M w fun a w=>Qh P T.a w fun D w=>dr w fun d c=>Z1 d c (fieldAddr P T.a a 2) fun H=>Z1 d c (fieldAddr P T.a a 6) fun L=>Y1 d c H (fun y=>Q9 P T.e y) fun J=>Y1 d c J (fun z=>Q0 P F.a4 [z]) fun O=>Y1 d c L (fun A=>Q9 P T.h A) fun k=>Z1 d c (fieldAddr P T.a a 2) fun C=>Y1 d c k (fun e=>Q0 P F.aa [e]) fun B=> ∀y A z E e h g w,c w->H y w->L A w->J z w->O E w->k e w->C h w->B g w->M3 P T.e h E w fun _u w=>fieldAddr P T.a a 6 w fun l w=>M3 P T.h l g w fun _u w=>Y2 T.a T.f a 7 w fun i w=>X7 T.f i w fun m w=>lp (α:=Value×Value) ((.slice none 0 0),(.int .i64 0)) w fun b j Q w=>X2 .lss T.d 17 16 j.2 m w fun n w=>X0 n (Z5 T.f T.c i j.2 w fun o w=>M4 T.c o w fun f w=>Q9 P T.c f w fun p w=>Q0 P F.bV [p] w fun q w=>buildSlice P T.f 1 [(0,q)] w fun r w=>V9 P .append [T.f,T.f] T.f [false,false] [j.1,r] w fun s w=>X5 .add T.d 17 j.2 1 w fun t w=>b (s,t) w) (fieldAddr P T.a a 7 w fun u w=>M3 P T.f u j.1 w fun _u w=>Q9 P T.a a w fun v w=>M3 P T.a D v w fun _u w=>M0 P T.a D w fun N=>K N w)
theorem Q6y (h:Q0g a0 w K):Q0 P F.ct [a0] w K:=zr Q6s Tryz.func55 h
def Un:V2:=fun d e w K=>nilCheck P d w fun g w=>Y2 T.y T.a1 g 1 w fun a w=>lookup P T.a1 a e true w fun b w=>M8 b w fun f c w=>K c w
theorem Rl (h:Un a0 a1 w K):Q0 P F.i [a0,a1] w K:=zr (X8 3) Tryz.func56 h
def Nq:V2:=fun n s w K=>Qh P T.a w fun o w=>dr w fun b a=>Z1 b a (nilCheck P n) fun q=>Y1 b a q (fun k=>fieldAddr P T.y k 0) fun r=>Z1 b a (nilCheck P n) fun g=>Y1 b a g (fun c=>fieldAddr P T.y c 1) fun h=>Y1 b a r (fun l=>Q9 P T.g l) fun u=>Y1 b a h (fun d=>Q9 P T.a1 d) fun i=>Y1 b a i (fun e=>lookup P T.a1 e s false) fun m=> ∀k l c d p e f w,a w->q k w->r l w->g c w->h d w->u p w->i e w->m f w->Z5 T.g T.a p f w fun j w=>M3 P T.a o j w fun _u w=>M0 P T.a o w fun t=>K t w
theorem Aa (h:Nq a0 a1 w K):Q0 P F.e [a0,a1] w K:=zr (X8 2) Tryz.func109 h
def Ka:W4:=X8 6++[some ([29],[4,6,29,30,31,32,33,34,35,36,37,38,39,40,41,42,43,44])]++X8 7
def Mi:V2:=fun f E w K=>box P T.a E w fun a w=>Y2 T.a T.b a 1 w fun H w=>Q0 P F.i [f,H] w fun i w=>V1 P .not i w fun c w=>Y0 c false f w fun j w=>J5 c false w T.a T.b a 1 fun k w=>Q1 c false w (Q0 P F.e [j,k]) fun l w=>Q1 c false w (Nk P T.a l 3) fun m w=>pick P c (.bool true) m w fun d w=>Y0 d false f w fun n w=>J5 d false w T.a T.b a 1 fun o w=>Q1 d false w (Q0 P F.e [n,o]) fun p w=>Q1 d false w (Nk P T.a p 5) fun q w=>pick P d (.bool true) q w fun r w=>X0 r (K (.int .i64 61) w) (Y2 T.a T.e a 2 w fun g w=>X7 T.e g w fun s w=>lp (α:=Value) (.int .i64 0) w fun e D J w=>X2 .lss T.d 29 28 D s w fun t w=>X0 t (Z5 T.e T.b g D w fun h w=>Q0 P F.i [f,h] w fun u w=>V1 P .not u w fun b w=>Y0 b false f w fun v w=>Y0 b false h w fun y w=>Q1 b false w (Q0 P F.e [v,y]) fun z w=>Q1 b false w (Nk P T.a z 3) fun A w=>Q1 b false w (V1 P .not A) fun B w=>pick P b (.bool true) B w fun C w=>X0 C (K (.int .i64 62) w) (U4 29 D w e)) (K (.int .i64 0) w))
theorem Ki (h:Mi a0 a1 w K):Q0 P F.b5 [a0,a1] w K:=zr Ka Tryz.func57 h
def Zs:W4:=[none,none,none,some ([8],[4,5,8,9,10,11,12,13,14,15,16,17,18])]++X8 7
def G6:V2:=fun e f w K=>X7 T.g e w fun g w=>lp (α:=Value) (.int .i64 0) w fun a b i w=>X2 .lss T.d 8 7 b g w fun h w=>X0 h (Z5 T.g T.a e b w fun c w=>Y8 P f [c] w fun d w=>X0 d (K b w) (U4 8 b w a)) (K (.int .i64 (-1)) w)
theorem Zz (h:G6 a0 a1 w K):Q0 P F.p [a0,a1] w K:=zr Zs Tryz.func58 h
def Pz:W4:=[none,none,none,some ([7],[6,7,9,10,11,12,16,17,18,19,20,21,22,23,24,25,26,27,28,29,30,31,32,33,34,35,36,37,38,39,40,41,42,43,44,45,46,47,48,49,50,51,52])]++X8 13
def Np:Ln:=fun O Q R w K=>buildSlice P T.e 1 [(0,Q)] w fun s w=>Oz P T.a1 none w fun k w=>lp (α:=Value) s w fun b L V w=>X7 T.e L w fun t w=>X5 .gtr T.d 17 t 0 w fun u w=>X0 u (Z5 T.e T.b L (.int .i64 0) w fun d w=>I9 P T.e L (some (.int .i64 1)) none none w fun l w=>lookup P T.a1 k d true w fun v w=>M8 v w fun U c w=>Y0 c false O w fun y w=>Y0 c false d w fun z w=>Q1 c false w (Q0 P F.i [y,z]) fun A w=>Q1 c false w (V1 P .not A) fun B w=>pick P c (.bool true) B w fun C w=>X0 C (b l w) (mapUpdate P T.a1 k d (.int .i64 1) w fun _u w=>Q0 P F.e [O,d] w fun D w=>M4 T.a D w fun a w=>Q9 P T.a a w fun E w=>Y8 P R [E] w fun H w=>X0 H (K (.bool true) w) (dr w fun j e=>Z1 j e (fieldAddr P T.a a 1) fun o=>Z1 j e (fieldAddr P T.a a 2) fun r=>Y1 j e o (fun f=>Q9 P T.b f) fun p=>Y1 j e p (fun g=>buildSlice P T.e 1 [(0,g)]) fun q=>Y1 j e q (fun h=>V9 P .append [T.e,T.e] T.e [false,false] [l,h]) fun M=>Y1 j e r (fun i=>Q9 P T.e i) fun N=> ∀f i g h m n w,e w->o f w->r i w->p g w->q h w->M m w->N n w->V9 P .append [T.e,T.e] T.e [false,false] [m,n] w fun J w=>b J w))) (K (.bool false) w)
theorem Tz (h:Np a0 a1 a2 w K):Q0 P F.af [a0,a1,a2] w K:=zr Pz Tryz.func111 h
def Uo:V2:=fun b c w K=>box P T.a b w fun a w=>Y2 T.a T.b a 0 w fun d w=>Y2 T.a T.b c 0 w fun e w=>X2 .eql T.b 5 7 d e w fun f w=>K f w
theorem Cx (h:Uo a0 a1 w K):Q0 P F.bT [a0,a1] w K:=zr (X8 2) Tryz.func112 h
def La:Ln:=fun a b c w K=>Q9 P T.u b w fun d w=>O8 P (.func F.bT) [] [c] w fun e w=>Q0 P F.af [d,a,e] w fun f w=>K f w
theorem Gs (h:La a0 a1 a2 w K):Q0 P F.b0 [a0,a1,a2] w K:=zr (X8 2) Tryz.func110 h
def Nr:V2:=fun i j w K=>box P T.u i w fun c w=>box P T.a j w fun a w=>O8 P (.func F.b0) [] [c,a] w fun h w=>Y2 T.a T.b a 1 w fun k w=>Y8 P h [k] w fun b w=>J5 b false w T.a T.e a 2 fun d w=>Y0 b false h w fun e w=>Q1 b false w (Q0 P F.c [d,e]) fun f w=>pick P b (.bool true) f w fun g w=>K g w
theorem Ab (h:Nr a0 a1 w K):Q0 P F.be [a0,a1] w K:=zr (X8 3) Tryz.func59 h
def Cp:W4:=[none,none,none,some ([8],[4,5,8,9,10,11,12,13,14,15,16,17,18])]++X8 7
def Uu:V2:=fun e f w K=>X7 T.o e w fun g w=>lp (α:=Value) (.int .i64 0) w fun a b i w=>X2 .lss T.d 8 7 b g w fun h w=>X0 h (Z5 T.o T.d e b w fun c w=>X2 .eql T.d 11 15 f c w fun d w=>X0 d (K b w) (U4 8 b w a)) (K (.int .i64 (-1)) w)
theorem Bd (h:Uu a0 a1 w K):Q0 P F.bY [a0,a1] w K:=zr Cp Tryz.func179 h
def Zf:V2:=fun a b w K=>Q0 P F.bY [a,b] w fun c w=>X5 .geq T.d 7 c 0 w fun d w=>K d w
theorem Rm (h:Zf a0 a1 w K):Q0 P F.aA [a0,a1] w K:=zr (X8 2) Tryz.func115 h
def Gl:W4:=[none,none,none,none,some ([35],[7,35,36,37,38,39,40,41,42,43,44,45,46,47]),none,none,none,none]
def Xp:zV5:=fun v a1 a2 a3 a4 w K=>Q9 P T.d a1 w fun t9 w=>X2 .lss T.d 8 9 v t9 w fun d w=>Q1 d false w (Q9 P T.o a2) fun ad w=>Y0 d false v w fun ae w=>Q1 d false w (Q0 P F.aA [ad,ae]) fun af w=>pick P d (.bool true) af w fun ag w=>X0 ag (K (.tuple #[]) w) (dr w fun b a=>Z1 b a (Q9 P T.u a3) fun D=>Y1 b a D (fun e=>nilCheck P e) fun E=>Y1 b a E (fun f=>fieldAddr P T.y f 0) fun H=>Y1 b a H (fun g=>Q9 P T.g g) fun J=>Y1 b a J (fun h=>indexAddr P T.g h v) fun L=>Y1 b a L (fun i=>fieldAddr P T.a i 1) fun M=>Y1 b a M (fun j=>Q9 P T.b j) fun N=>Y1 b a N (fun k=>buildSlice P T.e 1 [(0,k)]) fun ao=>Z1 b a (Q9 P T.u a3) fun O=>Y1 b a O (fun l=>nilCheck P l) fun Q=>Y1 b a Q (fun m=>fieldAddr P T.y m 0) fun R=>Y1 b a R (fun n=>Q9 P T.g n) fun U=>Y1 b a U (fun o=>indexAddr P T.g o v) fun V=>Y1 b a V (fun p=>fieldAddr P T.a p 2) fun W=>Y1 b a W (fun q=>Q9 P T.e q) fun ap=> ∀e f g h i j k y l m n o p q z w,a w->D e w->E f w->H g w->J h w->L i w->M j w->N k w->ao y w->O l w->Q m w->R n w->U o w->V p w->W q w->ap z w->V9 P .append [T.e,T.e] T.e [false,false] [y,z] w fun A w=>X7 T.e A w fun ah w=>lp (α:=Value) (.int .i64 0) w fun c x4 d_ w=>X2 .lss T.d 35 34 x4 ah w fun ai w=>X0 ai (Z5 T.e T.b A x4 w fun aj w=>dr w fun b a=>Z1 b a (Q9 P T.av a4) fun aq=>Z1 b a (Q9 P T.u a3) fun X=>Y1 b a X (fun r=>nilCheck P r) fun Y=>Y1 b a Y (fun s=>fieldAddr P T.y s 1) fun Z=>Y1 b a Z (fun t=>Q9 P T.a1 t) fun aa=>Y1 b a aa (fun u=>lookup P T.a1 u aj false) fun ar=> ∀B r s t u C w,a w->aq B w->X r w->Y s w->Z t w->aa u w->ar C w->Y8 P B [C] w fun ax w=>U4 35 x4 w c) (Q9 P T.o a2 w fun ak w=>buildSlice P T.o 1 [(0,v)] w fun al w=>V9 P .append [T.o,T.o] T.o [false,false] [ak,al] w fun am w=>M3 P T.o a2 am w fun _u w=>K (.tuple #[]) w))
theorem Lh (h:Xp a0 a1 a2 a3 a4 w K):Q0 P F.y [a0,a1,a2,a3,a4] w K:=zr Gl Tryz.func114 h
def Ta:W4:=X8 6++[some ([7],[7,10,11,12,13,14,15,16,17,18,19,20,21]),none,none,none,none]
def Ns:V2:=fun n o w K=>box P T.u n w fun d w=>box P T.d o w fun b w=>Qh P T.o w fun c w=>Qh P T.av w fun a w=>O8 P (.func F.y) [] [b,c,d,a] w fun q w=>M3 P T.av a q w fun _u w=>Q9 P T.d b w fun r w=>lp (α:=Value) r w fun e m s w=>Q9 P T.u d w fun f w=>nilCheck P f w fun g w=>Y2 T.y T.g g 0 w fun h w=>X7 T.g h w fun i w=>X2 .lss T.d 10 15 m i w fun j w=>X0 j (Q9 P T.av a w fun k w=>Y8 P k [m] w fun p w=>U4 17 m w e) (Q9 P T.o c w fun l w=>K l w)
theorem Ac (h:Ns a0 a1 w K):Q0 P F.bf [a0,a1] w K:=zr Ta Tryz.func60 h
def Js:W4:=[none,some ([2,3],[2,3,7,8,9,10,11,12,13,14,15,16,17,18,19,20,21,22,23,24,25,26,27]),none,none,none]
def K7:M7:=fun f w K=>X7 T.g f w fun r w=>X5 .sub T.d 5 r 1 w fun s w=>lp (α:=Value×Value) ((.int .i64 0),s) w fun a b u w=>X2 .lss T.d 7 8 b.1 b.2 w fun t w=>X0 t (dr w fun k e=>Z1 k e (indexAddr P T.g f b.2) fun i=>Z1 k e (indexAddr P T.g f b.1) fun j=>Y1 k e i (fun c=>Q9 P T.a c) fun p=>Y1 k e j (fun d=>Q9 P T.a d) fun q=> ∀c d g h w,e w->i c w->j d w->p g w->q h w->indexAddr P T.g f b.1 w fun n w=>M3 P T.a n g w fun _u w=>indexAddr P T.g f b.2 w fun o w=>M3 P T.a o h w fun _u w=>X5 .add T.d 10 b.1 1 w fun l w=>X5 .sub T.d 12 b.2 1 w fun m w=>a (l,m) w) (K (.tuple #[]) w)
theorem Jt (h:K7 a0 w K):Q0 P F.q [a0] w K:=zr Js Tryz.func186 h
def Q0q:W4:=[none,none,none,none,some ([5,6],[5,6,8,9,10,11,12,13,14,15,16,17,18,19,20])]++X8 5
def Dr:V2:=fun c j w K=>lp (α:=Value×Value) ((.slice none 0 0),j) w fun a b l w=>Q0 P F.i [c,b.2] w fun d w=>X0 d (Q0 P F.e [c,b.2] w fun g w=>buildSlice P T.g 1 [(0,g)] w fun h w=>V9 P .append [T.g,T.g] T.g [false,false] [b.1,h] w fun i w=>Q0 P F.e [c,b.2] w fun e w=>Nk P T.a e 1 w fun f w=>a (i,f) w) (Q0 P F.q [b.1] w fun k w=>K b.1 w)
theorem Q0F (h:Dr a0 a1 w K):Q0 P F.aL [a0,a1] w K:=zr Q0q Tryz.func131 h
def Iy:W4:=[none,none,none,none,some ([5,12],[5,7,12,13,14,15,16,17,18,19,20])]++X8 5
def Mg:V2:=fun k l w K=>Q0 P F.aL [k,l] w fun c w=>X7 T.g c w fun e w=>lp (α:=Value×Value) ((.slice none 0 0),(.int .i64 0)) w fun a d m w=>X2 .lss T.d 12 11 d.2 e w fun f w=>X0 f (Z5 T.g T.a c d.2 w fun g w=>M4 T.a g w fun b w=>Y2 T.a T.h b 6 w fun h w=>V9 P .append [T.h,T.h] T.h [false,false] [d.1,h] w fun i w=>X5 .add T.d 12 d.2 1 w fun j w=>a (i,j) w) (K d.1 w)
theorem Kg (h:Mg a0 a1 w K):Q0 P F.ac [a0,a1] w K:=zr Iy Tryz.func70 h
def Wz:V2:=fun b c w K=>box P T.j b w fun a w=>Y2 T.j T.b a 0 w fun d w=>Q9 P T.b c w fun e w=>X2 .eql T.b 5 6 d e w fun f w=>K f w
theorem Gr (h:Wz a0 a1 w K):Q0 P F.c3 [a0,a1] w K:=zr (X8 2) Tryz.func181 h
def Nn:Ln:=fun d e f w K=>box P T.b f w fun a w=>Q0 P F.ac [d,e] w fun g w=>O8 P (.func F.c3) [] [a] w fun b w=>Q0 P F.j [g,b] w fun c w=>K c w
theorem Ty (h:Nn a0 a1 a2 w K):Q0 P F.bd [a0,a1,a2] w K:=zr (X8 2) Tryz.func116 h
def Xw:V2:=fun a b w K=>nilCheck P a w fun c w=>Z5 T.am T.n c b w fun d w=>K d w
theorem Dk (h:Xw a0 a1 w K):Q0 P F.av [a0,a1] w K:=zr (X8 2) Tryz.func238 h
def Cr:W4:=[none,some ([0],[0,5,6,7,8,9,10,11,12,13,14,15,16,17,18,19,20]),some ([0],[0,5,6,7,8,9,10,11,12,13,14,15,16,17,18,19,20])]++X8 5
def Uw:V2:=fun l m w K=>jn (α:=Value) w (fun k w=>lp (α:=Value) l w fun a b n w=>X7 T.b b w fun o w=>X5 .gtr T.d 6 o 0 w fun p w=>X0 p (X7 T.b b w fun c w=>X5 .sub T.d 11 c 1 w fun d w=>B3 P T.b b d w fun e w=>Q0 P F.av [m,e] w fun f w=>V1 P .not f w fun g w=>X0 g (k b w) (X7 T.b b w fun h w=>X5 .sub T.d 18 h 1 w fun i w=>I9 P T.b b none (some i) none w fun j w=>a j w)) (k b w)) fun q n w=>K q w
theorem Bf (h:Uw a0 a1 w K):Q0 P F.al [a0,a1] w K:=zr Cr Tryz.func218 h
def Ei:V2:=fun d c w K=>V5 .eql T.b 7 d #[] w fun t w=>Y0 t false c w fun e w=>Q1 t false w (V5 .eql T.b 10 e #[]) fun f w=>pick P t (.bool true) f w fun g w=>X0 g (K d w) (X7 T.b c w fun h w=>X5 .eql T.d 15 h 1 w fun a w=>Y0 a true c w fun i w=>Q1 a true w (B3 P T.b i (.int .i64 0)) fun j w=>Q1 a true w (Y5 P .lss T.t (.tmp 19) (.const (.int .u8 128)) j (.int .u8 128)) fun k w=>pick P a k (.bool false) w fun l w=>X0 l (B3 P T.b c (.int .i64 0) w fun m w=>Q0 P F.cV [d,m] w fun n w=>K n w) (Q0 P F.cb [c] w fun o w=>M8 o w fun p q w=>M4 T.am p w fun b w=>X0 q (Q0 P F.al [d,b] w fun r w=>K r w) (Q0 P F.cT [d,c] w fun s w=>K s w)))
theorem Q0W (h:Ei a0 a1 w K):Q0 P F.bC [a0,a1] w K:=zr (X8 12) Tryz.func182 h
def Dp:V2:=fun l c w K=>V5 .eql T.b 6 c #[110,117,108,108] w fun m w=>X0 m (K (.bool true) w) (Q0 P F.bC [c,(.string ⟨#[91,93]⟩)] w fun k w=>Q0 P F.a5 [c] w fun a w=>Y0 a true k w fun d w=>Q1 a true w (Q0 P F.bE [d]) fun e w=>Y0 a true e w fun b w=>Y0 b false l w fun f w=>Y0 b false k w fun g w=>Q1 b false w (Q0 P F.i [f,g]) fun h w=>Q1 a true w (pick P b (.bool true) h) fun i w=>pick P a i (.bool false) w fun j w=>K j w)
theorem Q0D (h:Dp a0 a1 w K):Q0 P F.bs [a0,a1] w K:=zr (X8 6) Tryz.func118 h
def Up:V2:=fun c d w K=>V5 .neq T.b 4 c #[110,117,108,108] w fun a w=>Q1 a true w (Q9 P T.u d) fun e w=>Y0 a true c w fun f w=>Q1 a true w (Q0 P F.bs [e,f]) fun g w=>pick P a g (.bool false) w fun b w=>K b w
theorem Cy (h:Up a0 a1 w K):Q0 P F.ai [a0,a1] w K:=zr (X8 2) Tryz.func117 h
def Uq:V2:=fun a b w K=>Q9 P T.ab b w fun c w=>Y8 P c [a] w fun d w=>V1 P .not d w fun e w=>K e w
theorem Cz (h:Uq a0 a1 w K):Q0 P F.aj [a0,a1] w K:=zr (X8 2) Tryz.func119 h
def Q1h:M7:=fun q w K=>box P T.c q w fun a w=>dr w fun c b=>Z1 c b (fieldAddr P T.c a 1) fun l=>Z1 c b (fieldAddr P T.c a 2) fun p=>Y1 c b l (fun e=>Q9 P T.e e) fun m=>Y1 c b m (fun f=>Q0 P F.cS [f,(.string ⟨#[44]⟩)]) fun n=>Y1 c b n (fun g=>Y5 P .add T.b (.const (.string ⟨#[40]⟩)) (.tmp 5) (.string ⟨#[40]⟩) g) fun o=>Y1 c b o (fun h=>V5 .add T.b 6 h #[41]) fun r=>Y1 c b p (fun i=>Q9 P T.b i) fun s=> ∀e i f g h j k w,b w->l e w->p i w->m f w->n g w->o h w->r j w->s k w->X2 .add T.b 7 9 j k w fun d w=>K d w
theorem Q7P (h:Q1h a0 w K):Q0 P F.c4 [a0] w K:=zr (X8 2) Tryz.func123 h
def Jg:zV4:=fun W V X Y w K=>box P T.c W w fun a w=>Q9 P T.s V w fun Z w=>Y2 T.c T.b a 0 w fun C w=>lookup P T.s Z C true w fun D w=>M8 D w fun E d w=>dr w fun c b=>Z1 c b (fieldAddr P T.c a 0) fun r=>Z1 c b (fieldAddr P T.c a 0) fun t=>Z1 c b (fieldAddr P T.a X 0) fun y=>Z1 c b (Q9 P T.s V) fun n=>Y1 c b r (fun f=>Q9 P T.b f) fun s=>Z1 c b (Q9 P T.s Y) fun Q=>Y1 c b t (fun h=>Q9 P T.b h) fun R=>Z1 c b (Q9 P T.c a) fun u=>Y1 c b u (fun i=>Q0 P F.c4 [i]) fun v=>Y1 c b y (fun k=>Q9 P T.b k) fun U=>D0 c b n s (fun e g=>mapEntry P T.s e g) fun z=>Y1 c b z (fun l=>ext P l 1) fun A=>En c b n A v (fun e m j=>entryStore P T.s e m j) fun B=> ∀f h k e g o p i j q l m O w,b w->r f w->t h w->y k w->n e w->s g w->Q o w->R p w->u i w->v j w->U q w->z l w->A m w->B O w->mapUpdate P T.s o p q w fun _u w=>Y0 d true E w fun H w=>Q1 d true w (Q9 P T.c a) fun J w=>Q1 d true w (Q0 P F.c4 [J]) fun L w=>Q1 d true w (X2 .neq T.b 29 31 H L) fun M w=>pick P d M (.bool false) w fun N w=>K N w
theorem Rr (h:Jg a0 a1 a2 a3 w K):Q0 P F.aB [a0,a1,a2,a3] w K:=zr (X8 4) Tryz.func122 h
def Ur:Ln:=fun b c d w K=>box P T.a b w fun a w=>Y2 T.a T.f a 7 w fun e w=>O8 P (.func F.aB) [] [c,a,d] w fun f w=>Q0 P F.a [e,f] w fun g w=>K g w
theorem Ba (h:Ur a0 a1 a2 w K):Q0 P F.aQ [a0,a1,a2] w K:=zr (X8 2) Tryz.func120 h
def Q1n:V2:=fun b c w K=>box P T.c b w fun a w=>Y2 T.c T.b a 0 w fun d w=>Q9 P T.b c w fun e w=>X2 .eql T.b 5 6 d e w fun f w=>K f w
theorem Q7V (h:Q1n a0 a1 w K):Q0 P F.cW [a0,a1] w K:=zr (X8 2) Tryz.func223 h
def Q4d:V2:=fun k l w K=>box P T.a k w fun b w=>box P T.b l w fun a w=>Qh P T.c w fun d w=>Y2 T.a T.f b 7 w fun m w=>O8 P (.func F.cW) [] [a] w fun n w=>Q0 P F.g [m,n] w fun c w=>X5 .lss T.d 11 c 0 w fun f w=>X0 f (D7 P T.c [] w fun g w=>M3 P T.c d g w fun _u w=>M0 P T.c d w fun e=>K (.tuple #[e,(.bool false)]) w) (Y2 T.a T.f b 7 w fun h w=>Z5 T.f T.c h c w fun i w=>Q0 P F.bV [i] w fun j w=>M3 P T.c d j w fun _u w=>M0 P T.c d w fun e=>K (.tuple #[e,(.bool true)]) w)
theorem X0D (h:Q4d a0 a1 w K):Q0 P F.cx [a0,a1] w K:=zr (X8 6) Tryz.func187 h
def Q0p:W4:=[none,none,none,some ([19],[6,8,10,11,12,13,14,15,19,20,21,22,23,24,25,26,27,28,29,30,31,32,33,34,35,36,37,38,39,40,41,42,43,44,45,46,47])]++X8 12
def Dq:Ln:=fun n H E w K=>box P T.a H w fun e w=>Qh P T.c w fun f w=>Y2 T.a T.e e 2 w fun i w=>X7 T.e i w fun o w=>lp (α:=Value) (.int .i64 0) w fun a B J w=>X2 .lss T.d 19 18 B o w fun p w=>X0 p (Z5 T.e T.b i B w fun d w=>Q0 P F.e [n,d] w fun q w=>Q0 P F.cx [q,E] w fun r w=>M8 r w fun s t w=>M4 T.c s w fun b w=>X0 t (dr w fun m g=>Z1 m g (Q9 P T.c b) fun C=> ∀j w,g w->C j w->M3 P T.c f j w fun _u w=>M0 P T.c f w fun h=>K (.tuple #[d,h,(.bool true)]) w) (Q0 P F.e [n,d] w fun u w=>Q0 P F.aK [n,u,E] w fun k w=>M8 k w fun v y w=>ext P k 2 w fun z w=>M4 T.c y w fun c w=>X0 z (dr w fun m g=>Z1 m g (Q9 P T.c c) fun D=> ∀l w,g w->D l w->M3 P T.c f l w fun _u w=>M0 P T.c f w fun h=>K (.tuple #[v,h,(.bool true)]) w) (U4 19 B w a))) (D7 P T.c [] w fun A w=>M3 P T.c f A w fun _u w=>M0 P T.c f w fun h=>K (.tuple #[(.string ⟨#[]⟩),h,(.bool false)]) w)
theorem Q0E (h:Dq a0 a1 a2 w K):Q0 P F.aK [a0,a1,a2] w K:=zr Q0p Tryz.func188 h
def Iz:W4:=X8 5++[some ([26],[6,8,11,12,13,26,27,28,29,30,31,32,33,34,35,36,37,38,39,40])]++X8 9++[some ([43],[6,8,15,16,17,18,43,44,45,46,47,48,49,50,51,52,53,54,55,56,57,58])]++X8 8
def Mh:Ln:=fun U W V w K=>Qh P T.c w fun k w=>Q0 P F.aL [U,W] w fun c w=>Q0 P F.q [c] w fun Y w=>X7 T.g c w fun s w=>lp (α:=Value) (.int .i64 0) w fun d N X w=>X2 .lss T.d 26 25 N s w fun t w=>X0 t (Z5 T.g T.a c N w fun u w=>M4 T.a u w fun a w=>Q9 P T.a a w fun v w=>Q0 P F.cx [v,V] w fun y w=>M8 y w fun z A w=>M4 T.c z w fun f w=>X0 A (dr w fun l h=>Z1 l h (fieldAddr P T.a a 0) fun r=>Y1 l h r (fun i=>Q9 P T.b i) fun O=>Z1 l h (Q9 P T.c f) fun Q=> ∀i n o w,h w->r i w->O n w->Q o w->M3 P T.c k o w fun _u w=>M0 P T.c k w fun m=>K (.tuple #[n,m,(.bool true)]) w) (U4 26 N w d)) (X7 T.g c w fun B w=>lp (α:=Value) (.int .i64 0) w fun b j X w=>X2 .lss T.d 43 42 j B w fun C w=>X0 C (Z5 T.g T.a c j w fun D w=>M4 T.a D w fun e w=>Q9 P T.a e w fun E w=>Q0 P F.aK [U,E,V] w fun p w=>M8 p w fun H J w=>ext P p 2 w fun L w=>M4 T.c J w fun g w=>X0 L (dr w fun l h=>Z1 l h (Q9 P T.c g) fun R=> ∀q w,h w->R q w->M3 P T.c k q w fun _u w=>M0 P T.c k w fun m=>K (.tuple #[H,m,(.bool true)]) w) (U4 43 j w b)) (D7 P T.c [] w fun M w=>M3 P T.c k M w fun _u w=>M0 P T.c k w fun m=>K (.tuple #[(.string ⟨#[]⟩),m,(.bool false)]) w))
theorem Kh (h:Mh a0 a1 a2 w K):Q0 P F.b4 [a0,a1,a2] w K:=zr Iz Tryz.func124 h
def Gk:W4:=[none,none,none,some ([21],[4,6,21,22,23,24,25,26,27,28,29,30,31,32])]++X8 9++[some ([37],[4,9,37,38,39,40,41,42,43,44,45,46])]++X8 8++[some ([50],[4,11,50,51,52,53,54,55,56,57,58,59,60,61,62,63,64,65,66,67,68,69,70])]++X8 15++[some ([],[4,14,15,16,17,82,83,84,85,86,87,88,89,90,91,92,93,94,95,96,97,98,99,100])]++X8 7
def Lb:V2:=fun a0 a1 w K=>box P T.u a0 w fun t w=>box P T.a a1 w fun h w=>Y2 T.a T.h h 6 w fun n w=>X7 T.h n w fun y w=>lp (α:=Value) (.int .i64 0) w fun d x3 u w=>X2 .lss T.d 21 20 x3 y w fun z w=>X0 z (Z5 T.h T.j n x3 w fun A w=>M4 T.j A w fun t6 w=>Q9 P T.u t w fun B w=>Y2 T.a T.b h 1 w fun C w=>Y2 T.j T.b t6 0 w fun D w=>Q0 P F.bd [B,C,D] w fun E w=>X5 .geq T.d 30 E 0 w fun H w=>X0 H (K (.int .i64 64) w) (U4 21 x3 w d)) (O8 P (.func F.ai) [] [t] w fun J w=>M4 T.ab J w fun t7 w=>Y2 T.a T.h h 6 w fun o w=>X7 T.h o w fun L w=>lp (α:=Value) (.int .i64 0) w fun a j u w=>X2 .lss T.d 37 36 j L w fun M w=>X0 M (Z5 T.h T.j o j w fun N w=>M4 T.j N w fun t9 w=>Q9 P T.ab t7 w fun O w=>Y2 T.j T.b t9 1 w fun Q w=>Y8 P O [Q] w fun R w=>V1 P .not R w fun U w=>X0 U (K (.int .i64 65) w) (U4 37 j w a)) (Y2 T.a T.f h 7 w fun p w=>X7 T.f p w fun V w=>lp (α:=Value) (.int .i64 0) w fun b k u w=>X2 .lss T.d 50 49 k V w fun W w=>X0 W (Z5 T.f T.c p k w fun X w=>M4 T.c X w fun f w=>Q9 P T.ab t7 w fun Y w=>Y2 T.c T.b f 2 w fun Z w=>Y8 P Y [Z] w fun aa w=>V1 P .not aa w fun i w=>J5 i true w T.c T.b f 2 fun ab w=>Q1 i true w (V5 .neq T.b 61 ab #[]) fun ac w=>pick P i ac (.bool false) w fun e w=>J5 e false w T.c T.e f 1 fun ad w=>Q1 e false w (O8 P (.func F.aj) [] [t7]) fun ae w=>Q1 e false w (Q0 P F.c [ad,ae]) fun af w=>pick P e (.bool true) af w fun ag w=>X0 ag (K (.int .i64 65) w) (U4 50 k w b)) (Oz P T.s none w fun ai w=>Oz P T.s none w fun aj w=>Qh P T.s w fun m w=>Qh P T.s w fun g w=>M3 P T.s m ai w fun _u w=>M3 P T.s g aj w fun _u w=>Q9 P T.u t w fun ak w=>Y2 T.a T.b h 0 w fun al w=>O8 P (.func F.aQ) [] [m,g] w fun am w=>Q0 P F.af [ak,al,am] w fun an w=>X0 an (K (.int .i64 66) w) (Y2 T.a T.n h 4 w fun ao w=>X0 ao (K (.int .i64 0) w) (Q9 P T.s g w fun ap w=>rng P T.s ap w fun q w=>lp (α:=Unit) () w fun c ba u w=>V0 P q false T.x w fun aq w=>ext P aq 0 w fun ar w=>X0 ar (X07 P q w fun av w=>ext P av 0 w fun aw w=>Q9 P T.u t w fun ax w=>Y2 T.a T.b h 0 w fun ay w=>Q0 P F.b4 [ax,ay,aw] w fun r w=>M8 r w fun a9 az w=>ext P r 2 w fun a2 w=>M4 T.c az w fun v w=>V1 P .not a2 w fun s w=>J5 s false w T.c T.n v 3 fun a3 w=>pick P s (.bool true) a3 w fun l w=>X0 l (K (.int .i64 67) w) (c () w)) (K (.int .i64 0) w))))))
theorem Gt (h:Lb a0 a1 w K):Q0 P F.b1 [a0,a1] w K:=zr Gk Tryz.func61 h
def X0o:W4:=X8 5++[some ([30],[2,3,4,7,8,9,30,31,32,33,34,35,36,37,38,39,40,41,42,43,44,45,46,47,48,49,50,51,52])]++X8 10++[some ([58],[2,3,4,10,11,58,59,60,61,62,63,64,65,66,67,68,69,70,71,72,73,74,75,76,77])]++X8 9++[some ([85],[2,3,4,12,13,14,85,86,87,88,89,90,91,92,93,94,95,96,97])]++X8 13++[some ([114],[2,3,4,17,18,114,115,116,117,118,119,120,121,122,123,124,125,126,127,128,129,130,131,132,133])]++X8 8
def Q4c:M7:=fun a0 w K=>Q0 P F.cC [] w fun aj w=>Oz P T.a1 none w fun ak w=>D7 P T.y [(0,aj),(1,ak)] w fun al w=>box P T.y al w fun a w=>nilCheck P a w fun am w=>Y2 T.y T.g am 0 w fun an w=>X7 T.g an w fun g w=>X7 T.g a0 w fun ao w=>lp (α:=Value) (.int .i64 0) w fun i x5 d_ w=>X2 .lss T.d 30 29 x5 ao w fun ap w=>X0 ap (Z5 T.g T.a a0 x5 w fun aq w=>M4 T.a aq w fun t8 w=>Q9 P T.a t8 w fun ar w=>Q0 P F.cq [ar] w fun O w=>X5 .neq T.z 37 O 0 w fun av w=>X0 av (K (.tuple #[(.pointer none),x5,O]) w) (dr w fun c b=>Z1 c b (nilCheck P a) fun Z=>Y1 c b Z (fun o=>fieldAddr P T.y o 0) fun aa=>Y1 c b aa (fun p=>Q9 P T.g p) fun bf=>Z1 c b (Q9 P T.a t8) fun ab=>Y1 c b ab (fun q=>Q0 P F.ct [q]) fun ac=>Y1 c b ac (fun r=>buildSlice P T.g 1 [(0,r)]) fun bg=> ∀o p Q q r R w,b w->Z o w->aa p w->bf Q w->ab q w->ac r w->bg R w->V9 P .append [T.g,T.g] T.g [false,false] [Q,R] w fun aw w=>nilCheck P a w fun ax w=>fieldAddr P T.y ax 0 w fun ay w=>M3 P T.g ay aw w fun _u w=>U4 30 x5 w i)) (nilCheck P a w fun az w=>Y2 T.y T.g az 0 w fun U w=>X7 T.g U w fun a1 w=>lp (α:=Value) (.int .i64 0) w fun d h d_ w=>X2 .lss T.d 58 57 h a1 w fun a2 w=>X0 a2 (Z5 T.g T.a U h w fun a3 w=>M4 T.a a3 w fun C w=>Y2 T.a T.b C 0 w fun a4 w=>Q0 P F.i [a,a4] w fun a5 w=>X0 a5 (X2 .sub T.d 67 68 h g w fun a6 w=>K (.tuple #[(.pointer none),a6,(.int .i64 60)]) w) (dr w fun c b=>Z1 c b (nilCheck P a) fun ad=>Y1 c b ad (fun s=>fieldAddr P T.y s 1) fun ae=>Z1 c b (fieldAddr P T.a C 0) fun af=>Y1 c b ae (fun t=>Q9 P T.a1 t) fun bh=>Y1 c b af (fun u=>Q9 P T.b u) fun bi=> ∀s t u V W w,b w->ad s w->ae t w->af u w->bh V w->bi W w->mapUpdate P T.a1 V W h w fun _u w=>U4 58 h w d)) (nilCheck P a w fun a7 w=>Y2 T.y T.g a7 0 w fun a8 w=>I9 P T.g a8 (some g) none none w fun X w=>X7 T.g X w fun a9 w=>lp (α:=Value) (.int .i64 0) w fun e j d_ w=>X2 .lss T.d 85 84 j a9 w fun ba w=>X0 ba (Z5 T.g T.a X j w fun bb w=>M4 T.a bb w fun ai w=>Q9 P T.a ai w fun bc w=>Q0 P F.b5 [a,bc] w fun Y w=>X5 .neq T.z 93 Y 0 w fun bd w=>X0 bd (K (.tuple #[(.pointer none),j,Y]) w) (U4 85 j w e)) (nilCheck P a w fun be w=>Y2 T.y T.g be 0 w fun y w=>I9 P T.g y (some g) none none w fun z w=>O8 P (.func F.be) [a] [] w fun A w=>Q0 P F.p [z,A] w fun k w=>X5 .geq T.d 107 k 0 w fun B w=>X0 B (K (.tuple #[(.pointer none),k,(.int .i64 63)]) w) (Q0 P F.bf [a,g] w fun l w=>X7 T.o l w fun D w=>lp (α:=Value) (.int .i64 0) w fun f v d_ w=>X2 .lss T.d 114 113 v D w fun E w=>X0 E (Z5 T.o T.d l v w fun m w=>nilCheck P a w fun H w=>Y2 T.y T.g H 0 w fun J w=>Z5 T.g T.a J m w fun L w=>Q0 P F.b1 [a,L] w fun n w=>X5 .neq T.z 127 n 0 w fun M w=>X0 M (X2 .sub T.d 129 130 m g w fun N w=>K (.tuple #[(.pointer none),N,n]) w) (U4 114 v w f)) (K (.tuple #[a,(.int .i64 0),(.int .i64 0)]) w)))))
theorem X0C (h:Q4c a0 w K):Q0 P F.cP [a0] w K:=zr X0o Tryz.func25 h
def Lf:zV0:=fun w K=>D7 P T.q [(0,(.string ⟨#[105,110,116]⟩)),(1,(.int .i64 1))] w fun n w=>D7 P T.q [(0,(.string ⟨#[114,101,116,117,114,110]⟩))] w fun o w=>buildSlice P T.k 2 [(0,n),(1,o)] w fun p w=>D7 P T.j [(0,(.string ⟨#[120]⟩)),(1,(.string ⟨#[105,110,116]⟩))] w fun q w=>D7 P T.j [(0,(.string ⟨#[110,101,120,116]⟩)),(1,(.string ⟨#[65]⟩))] w fun r w=>buildSlice P T.h 2 [(0,q),(1,r)] w fun s w=>buildSlice P T.e 2 [(0,(.string ⟨#[105,110,116]⟩)),(1,(.string ⟨#[65]⟩))] w fun t w=>D7 P T.c [(0,(.string ⟨#[102]⟩)),(1,t),(2,(.string ⟨#[105,110,116]⟩)),(4,(.int .i64 3)),(5,p)] w fun a w=>D7 P T.q [(0,(.string ⟨#[114,101,116,117,114,110]⟩))] w fun b w=>buildSlice P T.k 1 [(0,b)] w fun c w=>D7 P T.c [(0,(.string ⟨#[103]⟩)),(4,(.int .i64 1)),(5,c)] w fun d w=>buildSlice P T.f 2 [(0,a),(1,d)] w fun e w=>D7 P T.a [(0,(.string ⟨#[65]⟩)),(1,(.string ⟨#[79,98,106,101,99,116]⟩)),(6,s),(7,e)] w fun f w=>buildSlice P T.e 1 [(0,(.string ⟨#[73]⟩))] w fun g w=>D7 P T.j [(0,(.string ⟨#[108]⟩)),(1,(.string ⟨#[65,91,93]⟩))] w fun h w=>buildSlice P T.h 1 [(0,h)] w fun i w=>D7 P T.a [(0,(.string ⟨#[66]⟩)),(1,(.string ⟨#[65]⟩)),(2,g),(6,i)] w fun j w=>D7 P T.a [(0,(.string ⟨#[73]⟩)),(1,(.string ⟨#[79,98,106,101,99,116]⟩)),(3,(.bool true)),(4,(.bool true))] w fun k w=>D7 P T.a [(0,(.string ⟨#[68]⟩)),(1,(.string ⟨#[79,98,106,101,99,116]⟩)),(4,(.bool true))] w fun l w=>buildSlice P T.g 4 [(0,f),(1,j),(2,k),(3,l)] w fun m w=>K m w
theorem Gw (h:Lf w K):Q0 P F.ax [] w K:=zr (X8 3) Tryz.func26 h
def Tk:W4:=X8 5++[some ([1,3],[1,3,10,11,12,13,14,15,16,17,18,19,20,21,22,23]),none,none,none,none]
def Oj:zV0:=fun w K=>D7 P T.a [(0,(.string ⟨#[79,98,106,101,99,116]⟩))] w fun k w=>D7 P T.j [(0,(.string ⟨#[119,104,97,116]⟩)),(1,(.string ⟨#[116,101,120,116]⟩))] w fun l w=>buildSlice P T.h 1 [(0,l)] w fun m w=>D7 P T.a [(0,(.string ⟨#[70,97,117,108,116]⟩)),(1,(.string ⟨#[79,98,106,101,99,116]⟩)),(6,m)] w fun n w=>buildSlice P T.g 2 [(0,k),(1,n)] w fun o w=>buildSlice P T.e 6 [(0,(.string ⟨#[78,117,108,108,70,97,117,108,116]⟩)),(1,(.string ⟨#[73,110,100,101,120,70,97,117,108,116]⟩)),(2,(.string ⟨#[67,97,115,116,70,97,117,108,116]⟩)),(3,(.string ⟨#[90,101,114,111,70,97,117,108,116]⟩)),(4,(.string ⟨#[82,111,111,109,70,97,117,108,116]⟩)),(5,(.string ⟨#[67,97,108,108,70,97,117,108,116]⟩))] w fun j w=>lp (α:=Value×Value) (o,(.int .i64 0)) w fun a b p w=>X7 T.e j w fun c w=>X2 .lss T.d 10 12 b.2 c w fun d w=>X0 d (Z5 T.e T.b j b.2 w fun f w=>D7 P T.a [(0,f),(1,(.string ⟨#[70,97,117,108,116]⟩)),(5,(.bool true))] w fun g w=>buildSlice P T.g 1 [(0,g)] w fun h w=>V9 P .append [T.g,T.g] T.g [false,false] [b.1,h] w fun i w=>X5 .add T.d 14 b.2 1 w fun e w=>a (i,e) w) (K b.1 w)
theorem Av (h:Oj w K):Q0 P F.bm [] w K:=zr Tk Tryz.func62 h
def Q0y:W4:=[none,none,none,some ([3],[2,3,4,5,6,7,8,9,10,11,12,13,14,15,16,17,18,19,20,21,22,23,24,25,26,27,28,29,30,31,32,33,34,35,36,37])]++X8 7
def Ec:M7:=fun L w K=>box P T.a L w fun a w=>lp (α:=Value) (.int .i64 0) w fun c J Q w=>Y2 T.a T.f a 7 w fun M w=>X7 T.f M w fun N w=>X2 .lss T.d 5 8 J N w fun O w=>X0 O (Y2 T.a T.f a 7 w fun i w=>Z5 T.f T.c i J w fun j w=>M4 T.c j w fun b w=>Y2 T.c T.e b 1 w fun k w=>X7 T.e k w fun l w=>X5 .gtr T.d 19 l 32 w fun d w=>J5 d false w T.c T.m b 6 fun m w=>Q1 d false w (X7 T.m m) fun n w=>Q1 d false w (X5 .gtr T.d 24 n 32) fun o w=>pick P d (.bool true) o w fun e w=>J5 e false w T.c T.k b 5 fun p w=>Q1 e false w (X7 T.k p) fun q w=>Q1 e false w (X5 .gtr T.d 30 q 200) fun r w=>pick P e (.bool true) r w fun h w=>J5 h false w T.c T.d b 4 fun s w=>Q1 h false w (X5 .gtr T.d 35 s 64) fun t w=>pick P h (.bool true) t w fun u w=>X0 u (K (.bool true) w) (U4 10 J w c)) (Y2 T.a T.e a 2 w fun v w=>X7 T.e v w fun y w=>X5 .gtr T.d 40 y 32 w fun f w=>J5 f false w T.a T.h a 6 fun z w=>Q1 f false w (X7 T.h z) fun A w=>Q1 f false w (X5 .gtr T.d 45 A 32) fun B w=>pick P f (.bool true) B w fun g w=>J5 g false w T.a T.f a 7 fun C w=>Q1 g false w (X7 T.f C) fun D w=>Q1 g false w (X5 .gtr T.d 51 D 32) fun E w=>pick P g (.bool true) E w fun H w=>K H w)
theorem Q0Q (h:Ec a0 w K):Q0 P F.bx [a0] w K:=zr Q0y Tryz.func125 h
def Q0v:W4:=[none,none,none,some ([0,3],[0,3,4,5,6,7,8,9,10,11,12,13,14,15,16,17,18,19,20,21]),none,none,none,none]
def Dz:M7:=fun m w K=>lp (α:=Value×Value) (m,(.int .i64 0)) w fun a c q w=>X7 T.b c.1 w fun n w=>X5 .geq T.d 5 n 2 w fun b w=>Y0 b true c.1 w fun o w=>Y0 b true c.1 w fun p w=>Q1 b true w (X7 T.b p) fun d w=>Q1 b true w (X5 .sub T.d 10 d 2) fun e w=>Q1 b true w (I9 P T.b o (some e) none none) fun f w=>Q1 b true w (V5 .eql T.b 12 f #[91,93]) fun g w=>pick P b g (.bool false) w fun h w=>X0 h (X5 .add T.d 15 c.2 1 w fun i w=>X7 T.b c.1 w fun j w=>X5 .sub T.d 19 j 2 w fun k w=>I9 P T.b c.1 none (some k) none w fun l w=>a (l,i) w) (K c.2 w)
theorem Q0N (h:Dz a0 w K):Q0 P F.am [a0] w K:=zr Q0v Tryz.func101 h
def Tf:W4:=[none,none,none,some ([4],[4,5,6,7]),none,none,none,none]
def Oc:M7:=fun b w K=>jn (α:=Value) w (fun a w=>V5 .eql T.b 3 b #[105,110,116] w fun c w=>X0 c (a c w) (V5 .eql T.b 3 b #[98,111,111,108] w fun d w=>X0 d (a d w) (V5 .eql T.b 3 b #[116,101,120,116] w fun e w=>a e w))) fun f g w=>X0 f (K (.bool true) w) (K (.bool false) w)
theorem Am (h:Oc a0 w K):Q0 P F.ah [a0] w K:=zr Tf Tryz.func158 h
def Q0w:W4:=[none,none,none,some ([3],[2,3,4,5,6,7,8,9,10,11,12,13,14,15,16,17,18,19,20,21,22,23,24,25,26,27,28,29,30,31,32,33,34,35,36,37,38,39,40,41,42,43,44,45,46,47,48,49,50])]++X8 7
def Ea:M7:=fun g w K=>lp (α:=Value) (.int .i64 0) w fun h j d_ w=>X7 T.b g w fun t7 w=>X2 .lss T.d 5 7 j t7 w fun t8 w=>X0 t8 (B3 P T.b g j w fun k w=>Y5 P .geq T.t (.tmp 13) (.const (.int .u8 97)) k (.int .u8 97) w fun c w=>Y0 c true g w fun l w=>Y0 c true j w fun m w=>Q1 c true w (B3 P T.b l m) fun n w=>Q1 c true w (Y5 P .leq T.t (.tmp 18) (.const (.int .u8 122)) n (.int .u8 122)) fun o w=>pick P c o (.bool false) w fun a w=>Y0 a false g w fun p w=>Y0 a false j w fun q w=>Q1 a false w (B3 P T.b p q) fun r w=>Q1 a false w (Y5 P .geq T.t (.tmp 24) (.const (.int .u8 65)) r (.int .u8 65)) fun s w=>Y0 a false s w fun d w=>Y0 d true g w fun t w=>Y0 d true j w fun u w=>Q1 d true w (B3 P T.b t u) fun v w=>Q1 d true w (Y5 P .leq T.t (.tmp 29) (.const (.int .u8 90)) v (.int .u8 90)) fun y w=>Q1 a false w (pick P d y (.bool false)) fun z w=>pick P a (.bool true) z w fun A w=>V1 P .not A w fun b w=>Y0 b true j w fun B w=>Q1 b true w (X5 .eql T.d 36 B 0) fun C w=>Y0 b true C w fun e w=>Y0 e false g w fun D w=>Y0 e false j w fun E w=>Q1 e false w (B3 P T.b D E) fun H w=>Q1 e false w (Y5 P .lss T.t (.tmp 41) (.const (.int .u8 48)) H (.int .u8 48)) fun J w=>Q1 b true w (pick P e (.bool true) J) fun L w=>Y0 b true L w fun f w=>Y0 f false g w fun M w=>Y0 f false j w fun N w=>Q1 f false w (B3 P T.b M N) fun O w=>Q1 f false w (Y5 P .gtr T.t (.tmp 47) (.const (.int .u8 57)) O (.int .u8 57)) fun Q w=>Q1 b true w (pick P f (.bool true) Q) fun R w=>pick P b R (.bool false) w fun U w=>X0 U (K (.bool false) w) (U4 9 j w h)) (X7 T.b g w fun V w=>X5 .geq T.d 52 V 1 w fun i w=>Y0 i true g w fun W w=>Q1 i true w (X7 T.b W) fun X w=>Q1 i true w (X5 .leq T.d 56 X 32) fun Y w=>pick P i Y (.bool false) w fun Z w=>K Z w)
theorem Q0O (h:Ea a0 w K):Q0 P F.aN [a0] w K:=zr Q0w Tryz.func200 h
def Oa:M7:=fun b w K=>Q0 P F.aN [b] w fun a w=>Y0 a true b w fun c w=>Q1 a true w (B3 P T.b c (.int .i64 0)) fun d w=>Q1 a true w (Y5 P .leq T.t (.tmp 7) (.const (.int .u8 90)) d (.int .u8 90)) fun e w=>pick P a e (.bool false) w fun f w=>K f w
theorem Ak (h:Oa a0 w K):Q0 P F.d [a0] w K:=zr (X8 2) Tryz.func159 h
def Od:M7:=fun d w K=>Q0 P F.am [d] w fun m w=>X7 T.b d w fun n w=>Y5 P .mul T.d (.const (.int .i64 2)) (.tmp 10) (.int .i64 2) m w fun e w=>X2 .sub T.d 9 11 n e w fun f w=>I9 P T.b d none (some f) none w fun c w=>X5 .leq T.d 14 m 3 w fun a w=>Y0 a true c w fun g w=>Q1 a true w (Q0 P F.ah [g]) fun h w=>Y0 a true h w fun b w=>Y0 b false c w fun i w=>Q1 b false w (Q0 P F.d [i]) fun j w=>Q1 a true w (pick P b (.bool true) j) fun k w=>pick P a k (.bool false) w fun l w=>K l w
theorem An (h:Od a0 w K):Q0 P F.h [a0] w K:=zr (X8 4) Tryz.func102 h
def Ml:M7:=fun b w K=>Q0 P F.aN [b] w fun a w=>Y0 a true b w fun c w=>Q1 a true w (B3 P T.b c (.int .i64 0)) fun d w=>Q1 a true w (Y5 P .geq T.t (.tmp 7) (.const (.int .u8 97)) d (.int .u8 97)) fun e w=>pick P a e (.bool false) w fun f w=>K f w
theorem Kl (h:Ml a0 w K):Q0 P F.v [a0] w K:=zr (X8 2) Tryz.func189 h
def Nz:V2:=fun c d w K=>X7 T.b c w fun n w=>X2 .lss T.d 5 7 d n w fun b w=>Y0 b true c w fun e w=>Y0 b true d w fun f w=>Q1 b true w (B3 P T.b e f) fun g w=>Q1 b true w (Y5 P .geq T.t (.tmp 12) (.const (.int .u8 128)) g (.int .u8 128)) fun h w=>pick P b h (.bool false) w fun a w=>Y0 a true c w fun i w=>Y0 a true d w fun j w=>Q1 a true w (B3 P T.b i j) fun k w=>Q1 a true w (Y5 P .lss T.t (.tmp 18) (.const (.int .u8 192)) k (.int .u8 192)) fun l w=>pick P a l (.bool false) w fun m w=>K m w
theorem Aj (h:Nz a0 a1 w K):Q0 P F.r [a0,a1] w K:=zr (X8 2) Tryz.func75 h
def Q0u:W4:=[none,none,some ([],[2,4,5,9,10,11,12,13,14,15,16,17,18,19,20,21,22,23,24,25,26,27,28,29,30,31,32,33,34,35,36,37,38,39,40,41,42,43,44,45,46,47,48,49,50,51,52,53,54,55,56,57,58,59,60,61,62,63,64,65,66,67,68,69,70,71,72,73,74,75,76,77,78,79,80,81,82,83,84,85,86,87,88,89,90,91,92,93,94,95,96,97,98,99,100,101,102,103,104,105,106])]++X8 13
def Dy:M7:=fun c w K=>B3 P T.b c (.int .i64 0) w fun t7 w=>conv P T.t T.d t7 w fun f w=>jn (α:=Unit) w (fun J2 w=>X5 .lss T.d 10 f 128 w fun a3 w=>X0 a3 (K (.int .i64 1) w) (X5 .geq T.d 13 f 194 w fun h w=>Y0 h true f w fun a4 w=>Q1 h true w (X5 .lss T.d 16 a4 224) fun a5 w=>pick P h a5 (.bool false) w fun i w=>Y0 i true c w fun a6 w=>Q1 i true w (Q0 P F.r [a6,(.int .i64 1)]) fun a7 w=>pick P i a7 (.bool false) w fun a8 w=>X0 a8 (K (.int .i64 2) w) (X5 .geq T.d 24 f 224 w fun j w=>Y0 j true f w fun a9 w=>Q1 j true w (X5 .lss T.d 27 a9 240) fun ba w=>pick P j ba (.bool false) w fun k w=>Y0 k true c w fun bb w=>Q1 k true w (Q0 P F.r [bb,(.int .i64 1)]) fun bc w=>pick P k bc (.bool false) w fun l w=>Y0 l true c w fun bd w=>Q1 l true w (Q0 P F.r [bd,(.int .i64 2)]) fun be w=>pick P l be (.bool false) w fun bf w=>X0 bf (dr w fun b a=>Z1 b a (X5 .rem T.d 38 f 16) fun ad=>Y1 b a ad (fun m=>X5 .mul T.d 39 m 4096) fun ae=>Z1 b a (B3 P T.b c (.int .i64 1)) fun af=>Y1 b a af (fun o=>Y5 P .rem T.t (.tmp 42) (.const (.int .u8 64)) o (.int .u8 64)) fun ag=>Z1 b a (B3 P T.b c (.int .i64 2)) fun aj=>Y1 b a aj (fun s=>Y5 P .rem T.t (.tmp 48) (.const (.int .u8 64)) s (.int .u8 64)) fun ak=>Y1 b a ag (fun p=>conv P T.t T.d p) fun ah=>Y1 b a ah (fun q=>X5 .mul T.d 44 q 64) fun ai=>D0 b a ae ai (fun n r=>X2 .add T.d 40 45 n r) fun bw=>Y1 b a ak (fun t=>conv P T.t T.d t) fun bx=> ∀m n o p s t q r Z aa w,a w->ad m w->ae n w->af o w->ag p w->aj s w->ak t w->ah q w->ai r w->bw Z w->bx aa w->X2 .add T.d 46 50 Z aa w fun u w=>X5 .geq T.d 52 u 2048 w fun e w=>Y0 e true u w fun bg w=>Q1 e true w (X5 .lss T.d 55 bg 55296) fun bh w=>Y0 e true bh w fun v w=>Y0 v false u w fun bi w=>Q1 v false w (X5 .gtr T.d 58 bi 57343) fun bj w=>Q1 e true w (pick P v (.bool true) bj) fun bk w=>pick P e bk (.bool false) w fun bl w=>X0 bl (K (.int .i64 3) w) (J2 () w)) (X5 .geq T.d 63 f 240 w fun y w=>Y0 y true f w fun bm w=>Q1 y true w (X5 .lss T.d 66 bm 245) fun bn w=>pick P y bn (.bool false) w fun z w=>Y0 z true c w fun bo w=>Q1 z true w (Q0 P F.r [bo,(.int .i64 1)]) fun bp w=>pick P z bp (.bool false) w fun A w=>Y0 A true c w fun bq w=>Q1 A true w (Q0 P F.r [bq,(.int .i64 2)]) fun br w=>pick P A br (.bool false) w fun B w=>Y0 B true c w fun bs w=>Q1 B true w (Q0 P F.r [bs,(.int .i64 3)]) fun bu w=>pick P B bu (.bool false) w fun bv w=>X0 bv (dr w fun b a=>Z1 b a (X5 .rem T.d 81 f 8) fun al=>Y1 b a al (fun C=>X5 .mul T.d 82 C 262144) fun am=>Z1 b a (B3 P T.b c (.int .i64 1)) fun an=>Y1 b a an (fun E=>Y5 P .rem T.t (.tmp 85) (.const (.int .u8 64)) E (.int .u8 64)) fun ao=>Z1 b a (B3 P T.b c (.int .i64 2)) fun av=>Y1 b a av (fun N=>Y5 P .rem T.t (.tmp 91) (.const (.int .u8 64)) N (.int .u8 64)) fun aw=>Z1 b a (B3 P T.b c (.int .i64 3)) fun az=>Y1 b a az (fun U=>Y5 P .rem T.t (.tmp 97) (.const (.int .u8 64)) U (.int .u8 64)) fun a1=>Y1 b a ao (fun H=>conv P T.t T.d H) fun ap=>Y1 b a ap (fun J=>X5 .mul T.d 87 J 4096) fun aq=>D0 b a am aq (fun D L=>X2 .add T.d 83 88 D L) fun ar=>Y1 b a aw (fun O=>conv P T.t T.d O) fun ax=>Y1 b a ax (fun Q=>X5 .mul T.d 93 Q 64) fun ay=>D0 b a ar ay (fun M R=>X2 .add T.d 89 94 M R) fun bz=>Y1 b a a1 (fun V=>conv P T.t T.d V) fun b0=> ∀C D E H N O U V J L M Q R ab ac w,a w->al C w->am D w->an E w->ao H w->av N w->aw O w->az U w->a1 V w->ap J w->aq L w->ar M w->ax Q w->ay R w->bz ab w->b0 ac w->X2 .add T.d 95 99 ab ac w fun g w=>X5 .geq T.d 101 g 65536 w fun d w=>Y0 d true g w fun W w=>Q1 d true w (X5 .leq T.d 104 W 1114111) fun X w=>pick P d X (.bool false) w fun Y w=>X0 Y (K (.int .i64 4) w) (J2 () w)) (J2 () w))))) fun z2 d_ w=>K (.int .i64 0) w
theorem Q0M (h:Dy a0 w K):Q0 P F.bw [a0] w K:=zr Q0u Tryz.func32 h
def Td:W4:=[none,none,some ([0],[0,2,3,4,5,6,7,8,9,10,11,12])]++X8 7
def Ny:M7:=fun e w K=>lp (α:=Value) e w fun a c h w=>V5 .neq T.b 4 c #[] w fun f w=>X0 f (Q0 P F.bw [c] w fun d w=>X5 .eql T.d 8 d 0 w fun g w=>X0 g (K (.bool false) w) (I9 P T.b c (some d) none none w fun b w=>a b w)) (K (.bool true) w)
theorem Ai (h:Ny a0 w K):Q0 P F.aG [a0] w K:=zr Td Tryz.func10 h
def Rc:zV0:=fun w K=>buildSlice P T.e 42 [(0,(.string ⟨#[105,110,116]⟩)),(1,(.string ⟨#[116,114,117,101]⟩)),(2,(.string ⟨#[102,97,108,115,101]⟩)),(3,(.string ⟨#[119,111,114,100]⟩)),(4,(.string ⟨#[110,117,108,108]⟩)),(5,(.string ⟨#[108,111,97,100]⟩)),(6,(.string ⟨#[115,116,111,114,101]⟩)),(7,(.string ⟨#[112,111,112]⟩)),(8,(.string ⟨#[100,117,112]⟩)),(9,(.string ⟨#[115,119,97,112]⟩)),(10,(.string ⟨#[97,100,100]⟩)),(11,(.string ⟨#[115,117,98]⟩)),(12,(.string ⟨#[109,117,108]⟩)),(13,(.string ⟨#[100,105,118]⟩)),(14,(.string ⟨#[114,101,109]⟩)),(15,(.string ⟨#[110,101,103]⟩)),(16,(.string ⟨#[108,101,115,115]⟩)),(17,(.string ⟨#[115,97,109,101]⟩)),(18,(.string ⟨#[110,111,116]⟩)),(19,(.string ⟨#[98,111,116,104]⟩)),(20,(.string ⟨#[106,111,105,110]⟩)),(21,(.string ⟨#[115,105,122,101]⟩)),(22,(.string ⟨#[106,117,109,112]⟩)),(23,(.string ⟨#[98,114,97,110,99,104]⟩)),(24,(.string ⟨#[110,101,119]⟩)),(25,(.string ⟨#[103,101,116]⟩)),(26,(.string ⟨#[112,117,116]⟩)),(27,(.string ⟨#[99,97,108,108]⟩)),(28,(.string ⟨#[97,114,114,97,121]⟩)),(29,(.string ⟨#[97,116]⟩)),(30,(.string ⟨#[115,101,116]⟩)),(31,(.string ⟨#[105,115]⟩)),(32,(.string ⟨#[99,97,115,116]⟩)),(33,(.string ⟨#[114,101,116,117,114,110]⟩)),(34,(.string ⟨#[116,104,114,111,119]⟩)),(35,(.string ⟨#[111,117,116]⟩)),(36,(.string ⟨#[101,113,117,97,108]⟩)),(37,(.string ⟨#[97,110,100]⟩)),(38,(.string ⟨#[111,114]⟩)),(39,(.string ⟨#[120,111,114]⟩)),(40,(.string ⟨#[115,104,108]⟩)),(41,(.string ⟨#[115,104,114]⟩))] w fun a w=>K a w
theorem Q1W (h:Rc w K):Q0 P F.bK [] w K:=zr (X8 2) Tryz.func270 h
def Kb:W4:=[none,none,none,none,some ([4],[2,4,6,7,8,9,10,11,12,13,14,15,16,17,18])]++X8 6
def Mn:M7:=fun f w K=>Q0 P F.bK [] w fun e w=>lp (α:=Value) (.int .i64 0) w fun a b i w=>X7 T.e e w fun g w=>X2 .lss T.d 6 8 b g w fun h w=>X0 h (Z5 T.e T.b e b w fun c w=>X2 .eql T.b 15 16 c f w fun d w=>X0 d (K b w) (U4 10 b w a)) (K (.int .i64 (-1)) w)
theorem Km (h:Mn a0 w K):Q0 P F.b7 [a0] w K:=zr Kb Tryz.func266 h
def Th:W4:=[none,none,none,some ([4],[4,5,6,7,8,9])]++X8 5++[some ([10],[10,11,12,13,14,15,16,17,18])]++X8 12
def Of:M7:=fun a w K=>jn (α:=Value) w (fun c w=>V5 .eql T.b 3 a #[105,110,116] w fun n w=>X0 n (c n w) (V5 .eql T.b 3 a #[108,111,97,100] w fun o w=>X0 o (c o w) (V5 .eql T.b 3 a #[115,116,111,114,101] w fun p w=>X0 p (c p w) (V5 .eql T.b 3 a #[106,117,109,112] w fun q w=>X0 q (c q w) (V5 .eql T.b 3 a #[98,114,97,110,99,104] w fun s w=>c s w))))) fun t r w=>X0 t (K (.int .i64 1) w) (jn (α:=Value) w (fun b w=>V5 .eql T.b 3 a #[119,111,114,100] w fun d w=>X0 d (b d w) (V5 .eql T.b 3 a #[110,101,119] w fun e w=>X0 e (b e w) (V5 .eql T.b 3 a #[103,101,116] w fun f w=>X0 f (b f w) (V5 .eql T.b 3 a #[112,117,116] w fun g w=>X0 g (b g w) (V5 .eql T.b 3 a #[99,97,108,108] w fun h w=>X0 h (b h w) (V5 .eql T.b 3 a #[97,114,114,97,121] w fun i w=>X0 i (b i w) (V5 .eql T.b 3 a #[105,115] w fun j w=>X0 j (b j w) (V5 .eql T.b 3 a #[99,97,115,116] w fun k w=>b k w)))))))) fun u r w=>X0 u (K (.int .i64 2) w) (Q0 P F.b7 [a] w fun l w=>X5 .lss T.d 20 l 0 w fun m w=>X0 m (K (.int .i64 (-1)) w) (K (.int .i64 0) w)))
theorem Aq (h:Of a0 w K):Q0 P F.bj [a0] w K:=zr Th Tryz.func255 h
def Te:W4:=[none,none,none,some ([5],[2,3,4,5,6,7,8,9,10,11,12,13,14,15,16,17,18,19,20,21,22,23,24,25,26,27,28,29,30,31,32,33])]++X8 6
def Ob:M7:=fun n w K=>lp (α:=Value) (.int .i64 0) w fun e m M w=>X7 T.b n w fun H w=>X2 .lss T.d 6 8 m H w fun L w=>X0 L (B3 P T.b n m w fun A w=>Y5 P .eql T.t (.tmp 14) (.const (.int .u8 46)) A (.int .u8 46) w fun B w=>X0 B (dr w fun d c=>Z1 d c (I9 P T.b n none (some m) none) fun C=>Z1 d c (X5 .add T.d 20 m 1) fun r=>Y1 d c r (fun f=>I9 P T.b n (some f) none none) fun D=>Z1 d c (I9 P T.b n none (some m) none) fun s=>Y1 d c s (fun g=>Q0 P F.d [g]) fun b=>Y1 d c b (fun a=>W0 a (fun w J=>J n w)) fun t=>Y1 d c b (fun a=>W0 a (fun w J=>J m w)) fun u=>D0 d c b u (fun a i=>W0 a (X5 .add T.d 29 i 1)) fun v=>En d c b t v (fun a h j=>W0 a (I9 P T.b h (some j) none none)) fun y=>D0 d c b y (fun a k=>W0 a (Q0 P F.v [k])) fun z=>D0 d c b z (fun a l=>pick P a l (.bool false)) fun E=> ∀o f p g a h i j k l q w,c w->C o w->r f w->D p w->s g w->b a w->t h w->u i w->v j w->y k w->z l w->E q w->K (.tuple #[o,p,q]) w) (U4 10 m w e)) (K (.tuple #[(.string ⟨#[]⟩),(.string ⟨#[]⟩),(.bool false)]) w)
theorem Al (h:Ob a0 w K):Q0 P F.bh [a0] w K:=zr Te Tryz.func256 h
def Tg:W4:=X8 6++[some ([4],[4,5,6,7,8,30,31,32,33,34,35,36,37,38,39,40,41,42,43,44,45,46,47,48,49,50,51,52,53,54,55,56,57,58,59,60,61,62,63,64,65,66,67,68,69,70,71,72,73,74,75,76,77,78,79,80,81,82,83,84,85,86,87,88,89,90,91,92,93,94,95,96,97,98,99,100,101,102,103,104,105,106,107,108,109,110])]++X8 5++[some ([4,5],[4,5,59,60,61,62,63,64,65,66,67,68,69,70,71,72,73]),none,none,none,none,some ([82],[82,83,84])]++X8 7
def Oe:M7:=fun a0 w K=>box P T.q a0 w fun c w=>Y2 T.q T.b c 0 w fun z w=>Q0 P F.bj [z] w fun h w=>X5 .lss T.d 12 h 0 w fun A w=>X0 A (K (.int .i64 40) w) (X5 .eql T.d 14 h 1 w fun j w=>J5 j false w T.q T.aa c 1 fun B w=>Q1 j false w (X5 .eql T.aa 18 B 0) fun C w=>pick P j (.bool true) C w fun f w=>Y0 f true h w fun D w=>Q1 f true w (X5 .eql T.d 22 D 2) fun E w=>Y0 f true E w fun k w=>J5 k false w T.q T.b c 2 fun H w=>Q1 k false w (V5 .eql T.b 26 H #[]) fun J w=>Q1 f true w (pick P k (.bool true) J) fun L w=>pick P f L (.bool false) w fun a w=>jn (α:=Value) w (fun m w=>X5 .eql T.d 30 h 2 w fun M w=>X0 M (Y2 T.q T.b c 0 w fun g w=>V5 .eql T.b 33 g #[119,111,114,100] w fun U w=>X0 U (J5 a true w T.q T.b c 2 fun V w=>Q1 a true w (X7 T.b V) fun W w=>Q1 a true w (X5 .leq T.d 51 W 64) fun X w=>pick P a X (.bool false) w fun l w=>J5 l true w T.q T.b c 2 fun Y w=>Q1 l true w (Q0 P F.aG [Y]) fun Z w=>pick P l Z (.bool false) w fun aa w=>lp (α:=Value×Value) (aa,(.int .i64 0)) w fun e b d_ w=>Y2 T.q T.b c 2 w fun ab w=>X7 T.b ab w fun ac w=>X2 .lss T.d 59 62 b.2 ac w fun ad w=>X0 ad (J5 b.1 true w T.q T.b c 2 fun af w=>Y0 b.1 true b.2 w fun ag w=>Q1 b.1 true w (B3 P T.b af ag) fun ah w=>Q1 b.1 true w (Y5 P .neq T.t (.tmp 71) (.const (.int .u8 10)) ah (.int .u8 10)) fun ai w=>pick P b.1 ai (.bool false) w fun aj w=>X5 .add T.d 64 b.2 1 w fun ae w=>e (aj,ae) w) (m b.1 w)) (V5 .eql T.b 33 g #[110,101,119] w fun ak w=>X0 ak (J5 a true w T.q T.b c 2 fun al w=>Q1 a true w (Q0 P F.d [al]) fun am w=>pick P a am (.bool false) w fun an w=>m an w) (jn (α:=Value) w (fun n w=>V5 .eql T.b 33 g #[105,115] w fun y w=>X0 y (n y w) (V5 .eql T.b 33 g #[99,97,115,116] w fun ao w=>n ao w)) fun az d_ w=>X0 az (J5 a true w T.q T.b c 2 fun ap w=>Q1 a true w (Q0 P F.h [ap]) fun aq w=>pick P a aq (.bool false) w fun i w=>J5 i true w T.q T.b c 2 fun ar w=>Q1 i true w (Q0 P F.ah [ar]) fun av w=>Q1 i true w (V1 P .not av) fun aw w=>pick P i aw (.bool false) w fun ax w=>m ax w) (V5 .eql T.b 33 g #[97,114,114,97,121] w fun ay w=>X0 ay (J5 a true w T.q T.b c 2 fun o w=>Q1 a true w (Q0 P F.h [o]) fun p w=>pick P a p (.bool false) w fun d w=>J5 d true w T.q T.b c 2 fun q w=>Q1 d true w (Q0 P F.am [q]) fun r w=>Q1 d true w (X5 .lss T.d 108 r 3) fun s w=>pick P d s (.bool false) w fun t w=>m t w) (Y2 T.q T.b c 2 w fun N w=>Q0 P F.bh [N] w fun v w=>M8 v w fun a3 a4 w=>ext P v 2 w fun O w=>Y0 a true O w fun Q w=>pick P a Q (.bool false) w fun R w=>m R w))))) (m a w)) fun z6 d_ w=>V1 P .not z6 w fun u w=>X0 u (K (.int .i64 41) w) (K (.int .i64 0) w))
theorem Ao (h:Oe a0 w K):Q0 P F.bi [a0] w K:=zr Tg Tryz.func243 h
def Q1H:W4:=[none,none,none,some ([3],[2,3,4,5,6,7,8,9,10,11,12,13,14,15,16,17,18])]++X8 7
def Rb:M7:=fun f w K=>lp (α:=Value) (.int .i64 0) w fun a e i w=>X7 T.k f w fun g w=>X2 .lss T.d 5 7 e g w fun h w=>X0 h (Z5 T.k T.q f e w fun c w=>Q0 P F.bi [c] w fun b w=>X5 .neq T.z 16 b 0 w fun d w=>X0 d (K b w) (U4 9 e w a)) (K (.int .i64 0) w)
theorem Q1V (h:Rb a0 w K):Q0 P F.aV [a0] w K:=zr Q1H Tryz.func224 h
def Kc:W4:=[none,none,none,none,some ([3,4],[3,4,21,22,23,24,25,26,27,28,29,30,31,32,33,34,35,36])]++X8 9++[some ([3,6],[3,6,7,60,61,62,63,64,65,66,67,68,69,70,71,72,73,74,75,76,77,78,79,80,81,82,83,84,85,86,87,88,89,90,91,92,93,94,95,96,97,98,99,100,101,102,103,104,105,106])]++X8 5
def Mo:M7:=fun a0 w K=>box P T.c a0 w fun c w=>Y2 T.c T.b c 0 w fun t9 w=>Q0 P F.v [t9] w fun g w=>J5 g true w T.c T.b c 2 fun M w=>Q1 g true w (V5 .eql T.b 13 M #[]) fun N w=>Y0 g true N w fun o w=>J5 o false w T.c T.b c 2 fun O w=>Q1 o false w (Q0 P F.h [O]) fun Q w=>Q1 g true w (pick P o (.bool true) Q) fun R w=>pick P g R (.bool false) w fun U w=>lp (α:=Value×Value) (U,(.int .i64 0)) w fun i e d_ w=>Y2 T.c T.e c 1 w fun V w=>X7 T.e V w fun W w=>X2 .lss T.d 21 24 e.2 W w fun X w=>X0 X (J5 e.1 true w T.c T.e c 1 fun Z w=>Y0 e.1 true e.2 w fun aa w=>zhi e.1 true w T.e T.b Z aa fun ab w=>Q1 e.1 true w (Q0 P F.h [ab]) fun ac w=>pick P e.1 ac (.bool false) w fun ad w=>X5 .add T.d 26 e.2 1 w fun Y w=>i (ad,Y) w) (Y2 T.c T.n c 3 w fun ae w=>X0 ae (J5 e.1 true w T.c T.d c 4 fun af w=>Q1 e.1 true w (X5 .eql T.d 42 af 0) fun ag w=>pick P e.1 ag (.bool false) w fun j w=>J5 j true w T.c T.k c 5 fun ah w=>Q1 j true w (X7 T.k ah) fun ai w=>Q1 j true w (X5 .eql T.d 48 ai 0) fun aj w=>pick P j aj (.bool false) w fun k w=>J5 k true w T.c T.m c 6 fun ak w=>Q1 k true w (X7 T.m ak) fun al w=>Q1 k true w (X5 .eql T.d 54 al 0) fun am w=>pick P k am (.bool false) w fun an w=>K an w) (Y2 T.c T.k c 5 w fun ao w=>X7 T.k ao w fun p w=>lp (α:=Value×Value) (e.1,(.int .i64 0)) w fun f a d_ w=>Y2 T.c T.m c 6 w fun ap w=>X7 T.m ap w fun aq w=>X2 .lss T.d 60 63 a.2 aq w fun ar w=>X0 ar (Y2 T.c T.m c 6 w fun aw w=>Z5 T.m T.p aw a.2 w fun ax w=>M4 T.p ax w fun q w=>J5 a.1 true w T.p T.d q 0 fun ay w=>Q1 a.1 true w (X5 .geq T.d 75 ay 0) fun az w=>pick P a.1 az (.bool false) w fun l w=>J5 l true w T.p T.d q 0 fun a1 w=>J5 l true w T.p T.d q 1 fun a2 w=>Q1 l true w (X2 .lss T.d 80 82 a1 a2) fun a3 w=>pick P l a3 (.bool false) w fun m w=>J5 m true w T.p T.d q 1 fun a4 w=>Y0 m true p w fun a5 w=>Q1 m true w (X2 .leq T.d 87 88 a4 a5) fun a6 w=>pick P m a6 (.bool false) w fun r w=>J5 r true w T.p T.d q 2 fun a7 w=>Q1 r true w (X5 .geq T.d 93 a7 0) fun a8 w=>pick P r a8 (.bool false) w fun n w=>J5 n true w T.p T.d q 2 fun a9 w=>Y0 n true p w fun ba w=>Q1 n true w (X2 .lss T.d 98 99 a9 ba) fun s w=>pick P n s (.bool false) w fun h w=>J5 h true w T.p T.b q 3 fun t w=>Q1 h true w (Q0 P F.d [t]) fun u w=>pick P h u (.bool false) w fun v w=>X5 .add T.d 65 a.2 1 w fun av w=>f (v,av) w) (Y0 a.1 true p w fun y w=>Q1 a.1 true w (X5 .gtr T.d 109 y 0) fun z w=>pick P a.1 z (.bool false) w fun b w=>J5 b true w T.c T.d c 4 fun A w=>J5 b true w T.c T.e c 1 fun B w=>Q1 b true w (X7 T.e B) fun C w=>Q1 b true w (X2 .gtr T.d 114 117 A C) fun D w=>pick P b D (.bool false) w fun d w=>J5 d true w T.c T.k c 5 fun E w=>Q1 d true w (Q0 P F.aV [E]) fun H w=>Q1 d true w (X5 .eql T.z 123 H 0) fun J w=>pick P d J (.bool false) w fun L w=>K L w)))
theorem Kn (h:Mo a0 w K):Q0 P F.a2 [a0] w K:=zr Kc Tryz.func190 h
def Ti:W4:=[none,none,none,none,some ([3,4],[3,4,5,26,27,28,29,30,31,32,33,34,35,36,37,38,39,40,41,42,43,44,45,46,47,48,49,50,51,52,53,54,55,56,57,58,59,60,61,62,63,64,65,66,67,68,69,70])]++X8 5++[some ([3,5],[3,5,52,53,54,55,56,57,58,59,60,61,62,63,64,65,66,67,68,69,70])]++X8 5++[some ([3,6],[3,6,7,71,72,73,74,75,76,77,78,79,80,81,82,83,84,85,86,87,88,89,90,91,92,93,94,95,96,97,98,99,100,101,102,103,104,105,106,107,108,109,110,111,112,113,114,115,116,117,118,119,120,121,122])]++X8 5++[some ([3,7],[3,7,102,103,104,105,106,107,108,109,110,111,112,113,114,115,116,117,118,119,120,121,122])]++X8 5++[some ([3,8],[3,8,9,10,123,124,125,126,127,128,129,130,131,132,133,134,135,136,137,138,139,140,141,142,143,144,145,146,147,148,149,150,151,152,153,154,155,156,157,158,159,160,161,162,163,164,165,166,167,168,169,170,171,172,173,174])]++X8 6++[some ([3,10],[3,10,158,159,160,161,162,163,164,165,166,167,168,169,170,171,172,173,174]),none,none,none,none]
def Oh:M7:=fun a0 w K=>box P T.a a0 w fun h w=>Y2 T.a T.b h 0 w fun di w=>Q0 P F.d [di] w fun ay w=>J5 ay true w T.a T.b h 1 fun dj w=>Q1 ay true w (Q0 P F.d [dj]) fun dl w=>pick P ay dl (.bool false) w fun X w=>J5 X true w T.a T.b h 0 fun dm w=>J5 X true w T.a T.b h 1 fun dn w=>Q1 X true w (X2 .neq T.b 21 23 dm dn) fun dp w=>pick P X dp (.bool false) w fun dq w=>lp (α:=Value×Value) (dq,(.int .i64 0)) w fun W o d_ w=>Y2 T.a T.e h 2 w fun ds w=>X7 T.e ds w fun dt w=>X2 .lss T.d 26 29 o.2 dt w fun du w=>X0 du (dr w fun b a=>Z1 b a (W0 o.1 (fieldAddr P T.a h 2)) fun cy=>Z1 b a (W0 o.1 (fun w J=>J o.2 w)) fun c0=>Y1 b a cy (fun az=>W0 o.1 (Q9 P T.e az)) fun cz=>D0 b a cz c0 (fun a1 a2=>W0 o.1 (indexAddr P T.e a1 a2)) fun c1=>Y1 b a c1 (fun a3=>W0 o.1 (Q9 P T.b a3)) fun c2=>Y1 b a c2 (fun a4=>W0 o.1 (Q0 P F.d [a4])) fun c3=>Y1 b a c3 (fun a5=>pick P o.1 a5 (.bool false)) fun m=>Y1 b a m (fun d=>W0 d (fieldAddr P T.a h 2)) fun c4=>Y1 b a m (fun d=>W0 d (fun w J=>J o.2 w)) fun c6=>Y1 b a m (fun d=>W0 d (fieldAddr P T.a h 0)) fun c8=>D0 b a m c4 (fun d a6=>W0 d (Q9 P T.e a6)) fun c5=>En b a m c5 c6 (fun d a7 a8=>W0 d (indexAddr P T.e a7 a8)) fun c7=>D0 b a m c7 (fun d a9=>W0 d (Q9 P T.b a9)) fun eh=>D0 b a m c8 (fun d ba=>W0 d (Q9 P T.b ba)) fun ei=> ∀az a2 a1 a3 a4 a5 d a6 a8 ba a7 a9 cq cr w,a w->cy az w->c0 a2 w->cz a1 w->c1 a3 w->c2 a4 w->c3 a5 w->m d w->c4 a6 w->c6 a8 w->c8 ba w->c5 a7 w->c7 a9 w->eh cq w->ei cr w->Q1 d true w (X2 .neq T.b 47 49 cq cr) fun dw w=>pick P d dw (.bool false) w fun dx w=>lp (α:=Value×Value) (dx,(.int .i64 0)) w fun q e d_ w=>X2 .lss T.d 52 53 e.2 o.2 w fun dy w=>X0 dy (dr w fun b a=>Z1 b a (W0 e.1 (fieldAddr P T.a h 2)) fun c9=>Z1 b a (W0 e.1 (fun w J=>J e.2 w)) fun db=>Z1 b a (W0 e.1 (fieldAddr P T.a h 2)) fun dd=>Z1 b a (W0 e.1 (fun w J=>J o.2 w)) fun df=>Y1 b a c9 (fun bb=>W0 e.1 (Q9 P T.e bb)) fun da=>D0 b a da db (fun bc bd=>W0 e.1 (indexAddr P T.e bc bd)) fun dc=>Y1 b a dc (fun be=>W0 e.1 (Q9 P T.b be)) fun ej=>Y1 b a dd (fun bf=>W0 e.1 (Q9 P T.e bf)) fun de=>D0 b a de df (fun bg bh=>W0 e.1 (indexAddr P T.e bg bh)) fun dg=>Y1 b a dg (fun bi=>W0 e.1 (Q9 P T.b bi)) fun ek=> ∀bb bd bf bh bc be cs bg bi ct w,a w->c9 bb w->db bd w->dd bf w->df bh w->da bc w->dc be w->ej cs w->de bg w->dg bi w->ek ct w->Q1 e.1 true w (X2 .neq T.b 63 68 cs ct) fun d0 w=>pick P e.1 d0 (.bool false) w fun d1 w=>X5 .add T.d 55 e.2 1 w fun dz w=>q (d1,dz) w) (X5 .add T.d 31 o.2 1 w fun dv w=>W (e.1,dv) w)) (lp (α:=Value×Value) (o.1,(.int .i64 0)) w fun r g d_ w=>Y2 T.a T.h h 6 w fun d2 w=>X7 T.h d2 w fun d3 w=>X2 .lss T.d 71 74 g.2 d3 w fun d4 w=>X0 d4 (J5 g.1 true w T.a T.h h 6 fun d6 w=>Y0 g.1 true g.2 w fun d7 w=>Q1 g.1 true w (indexAddr P T.h d6 d7) fun d8 w=>J5 g.1 true w T.j T.b d8 0 fun d9 w=>Q1 g.1 true w (Q0 P F.v [d9]) fun ea w=>pick P g.1 ea (.bool false) w fun p w=>J5 p true w T.a T.h h 6 fun eb w=>Y0 p true g.2 w fun ec w=>Q1 p true w (indexAddr P T.h eb ec) fun ed w=>J5 p true w T.j T.b ed 1 fun ee w=>Q1 p true w (Q0 P F.h [ee]) fun ef w=>pick P p ef (.bool false) w fun bj w=>J5 bj true w T.a T.n h 3 fun eg w=>Q1 bj true w (V1 P .not eg) fun bl w=>pick P bj bl (.bool false) w fun bm w=>lp (α:=Value×Value) (bm,(.int .i64 0)) w fun s c d_ w=>X2 .lss T.d 102 103 c.2 g.2 w fun bn w=>X0 bn (dr w fun b a=>Z1 b a (W0 c.1 (fieldAddr P T.a h 6)) fun af=>Z1 b a (W0 c.1 (fun w J=>J c.2 w)) fun ah=>Z1 b a (W0 c.1 (fieldAddr P T.a h 6)) fun ak=>Z1 b a (W0 c.1 (fun w J=>J g.2 w)) fun am=>Y1 b a af (fun v=>W0 c.1 (Q9 P T.h v)) fun ag=>D0 b a ag ah (fun y z=>W0 c.1 (indexAddr P T.h y z)) fun ai=>Y1 b a ai (fun A=>W0 c.1 (fieldAddr P T.j A 0)) fun aj=>Y1 b a aj (fun B=>W0 c.1 (Q9 P T.b B)) fun cu=>Y1 b a ak (fun C=>W0 c.1 (Q9 P T.h C)) fun al=>D0 b a al am (fun D E=>W0 c.1 (indexAddr P T.h D E)) fun an=>Y1 b a an (fun H=>W0 c.1 (fieldAddr P T.j H 0)) fun ao=>Y1 b a ao (fun L=>W0 c.1 (Q9 P T.b L)) fun cv=> ∀v z C E y A B Y D H L Z w,a w->af v w->ah z w->ak C w->am E w->ag y w->ai A w->aj B w->cu Y w->al D w->an H w->ao L w->cv Z w->Q1 c.1 true w (X2 .neq T.b 114 120 Y Z) fun bp w=>pick P c.1 bp (.bool false) w fun bq w=>X5 .add T.d 105 c.2 1 w fun bo w=>s (bq,bo) w) (X5 .add T.d 76 g.2 1 w fun d5 w=>r (c.1,d5) w)) (lp (α:=Value×Value) (g.1,(.int .i64 0)) w fun t i d_ w=>Y2 T.a T.f h 7 w fun br w=>X7 T.f br w fun bs w=>X2 .lss T.d 123 126 i.2 bs w fun bu w=>X0 bu (Y2 T.a T.f h 7 w fun bw w=>Z5 T.f T.c bw i.2 w fun bx w=>M4 T.c bx w fun t9 w=>Q1 i.1 true w (Q9 P T.c t9) fun bz w=>Q1 i.1 true w (Q0 P F.a2 [bz]) fun b0 w=>pick P i.1 b0 (.bool false) w fun j w=>J5 j true w T.c T.n t9 3 fun b1 w=>Q1 j true w (V1 P .not b1) fun b2 w=>Y0 j true b2 w fun aa w=>J5 aa false w T.a T.n h 4 fun b3 w=>Q1 j true w (pick P aa (.bool true) b3) fun b4 w=>pick P j b4 (.bool false) w fun k w=>J5 k true w T.a T.n h 3 fun b5 w=>Q1 k true w (V1 P .not b5) fun b6 w=>Y0 k true b6 w fun ab w=>J5 ab false w T.c T.n t9 3 fun b7 w=>Q1 k true w (pick P ab (.bool true) b7) fun b8 w=>pick P k b8 (.bool false) w fun b9 w=>lp (α:=Value×Value) (b9,(.int .i64 0)) w fun u f d_ w=>X2 .lss T.d 158 159 f.2 i.2 w fun ca w=>X0 ca (dr w fun b a=>Z1 b a (W0 f.1 (fieldAddr P T.a h 7)) fun ap=>Z1 b a (W0 f.1 (fun w J=>J f.2 w)) fun ar=>Z1 b a (W0 f.1 (fieldAddr P T.c t9 0)) fun ax=>Y1 b a ap (fun M=>W0 f.1 (Q9 P T.f M)) fun aq=>D0 b a aq ar (fun N O=>W0 f.1 (indexAddr P T.f N O)) fun av=>Y1 b a av (fun Q=>W0 f.1 (fieldAddr P T.c Q 0)) fun aw=>Y1 b a aw (fun R=>W0 f.1 (Q9 P T.b R)) fun cw=>Y1 b a ax (fun U=>W0 f.1 (Q9 P T.b U)) fun cx=> ∀M O U N Q R ac ad w,a w->ap M w->ar O w->ax U w->aq N w->av Q w->aw R w->cw ac w->cx ad w->Q1 f.1 true w (X2 .neq T.b 170 172 ac ad) fun cc w=>pick P f.1 cc (.bool false) w fun cd w=>X5 .add T.d 161 f.2 1 w fun cb w=>u (cd,cb) w) (X5 .add T.d 128 i.2 1 w fun bv w=>t (f.1,bv) w)) (J5 i.1 true w T.a T.n h 3 fun ce w=>Q1 i.1 true w (V1 P .not ce) fun cf w=>Y0 i.1 true cf w fun n w=>J5 n false w T.a T.n h 4 fun cg w=>Y0 n false cg w fun V w=>J5 V true w T.a T.b h 1 fun ch w=>Q1 V true w (V5 .eql T.b 185 ch #[79,98,106,101,99,116]) fun ci w=>Q1 n false w (pick P V ci (.bool false)) fun cj w=>Q1 i.1 true w (pick P n (.bool true) cj) fun ck w=>pick P i.1 ck (.bool false) w fun l w=>J5 l true w T.a T.n h 4 fun cl w=>Y0 l true cl w fun ae w=>J5 ae true w T.a T.n h 5 fun cm w=>Q1 l true w (pick P ae cm (.bool false)) fun cn w=>Q1 l true w (V1 P .not cn) fun co w=>pick P l co (.bool false) w fun cp w=>K cp w)))
theorem As (h:Oh a0 w K):Q0 P F.bl [a0] w K:=zr Ti Tryz.func126 h
def Og:M7:=fun b w K=>box P T.a b w fun a w=>Q9 P T.a a w fun c w=>Q0 P F.bx [c] w fun d w=>X0 d (K (.int .i64 51) w) (Q9 P T.a a w fun e w=>Q0 P F.bl [e] w fun f w=>V1 P .not f w fun g w=>X0 g (K (.int .i64 50) w) (K (.int .i64 0) w))
theorem Ar (h:Og a0 w K):Q0 P F.bk [a0] w K:=zr (X8 8) Tryz.func63 h
def Q0z:W4:=[none,none,none,some ([5],[4,5,6,7,8,9,10,11,12,13,14,15,16,17,18,19])]++X8 6
def Ed:V2:=fun f g w K=>lp (α:=Value) (.int .i64 0) w fun a b j w=>X7 T.g f w fun h w=>X2 .lss T.d 6 8 b h w fun i w=>X0 i (indexAddr P T.g f b w fun c w=>Y2 T.a T.b c 0 w fun d w=>X2 .eql T.b 16 17 d g w fun e w=>X0 e (K b w) (U4 10 b w a)) (K (.int .i64 (-1)) w)
theorem Q0R (h:Ed a0 a1 w K):Q0 P F.b [a0,a1] w K:=zr Q0z Tryz.func64 h
def Kf:W4:=X8 7++[some ([6],[4,6,7,28,29,30,31,32,33,34,35,36,37,38,39,40,41,42,43,44,45,46,47,48,49,50,51])]++X8 7
def Ms:V2:=fun g J w K=>box P T.a J w fun a w=>Y2 T.a T.b a 1 w fun i w=>Q0 P F.b [g,i] w fun f w=>X5 .lss T.d 12 f 0 w fun c w=>Y0 c false g w fun j w=>Y0 c false f w fun k w=>Q1 c false w (indexAddr P T.g j k) fun l w=>J5 c false w T.a T.n l 3 fun m w=>pick P c (.bool true) m w fun d w=>Y0 d false g w fun n w=>Y0 d false f w fun o w=>Q1 d false w (indexAddr P T.g n o) fun p w=>J5 d false w T.a T.n p 5 fun q w=>pick P d (.bool true) q w fun r w=>X0 r (K (.int .i64 61) w) (lp (α:=Value) (.int .i64 0) w fun e H L w=>Y2 T.a T.e a 2 w fun s w=>X7 T.e s w fun t w=>X2 .lss T.d 28 31 H t w fun u w=>X0 u (Y2 T.a T.e a 2 w fun v w=>Z5 T.e T.b v H w fun y w=>Q0 P F.b [g,y] w fun h w=>X5 .lss T.d 42 h 0 w fun b w=>Y0 b false g w fun z w=>Y0 b false h w fun A w=>Q1 b false w (indexAddr P T.g z A) fun B w=>J5 b false w T.a T.n B 3 fun C w=>Q1 b false w (V1 P .not C) fun D w=>pick P b (.bool true) D w fun E w=>X0 E (K (.int .i64 62) w) (U4 33 H w e)) (K (.int .i64 0) w))
theorem Kp (h:Ms a0 a1 w K):Q0 P F.b9 [a0,a1] w K:=zr Kf Tryz.func65 h
def Tj:W4:=[none,none,none,none,some ([3,4],[3,4,5,6,7,8,13,14,15,16,17,18,19,20,21,22,23,24,25,26,27,28,29,30,31,32,33,34,35,36,37,38,39,40,41,42,43,44,45,46,47,48,49,50,51,52,53,54])]++X8 7++[some ([7],[7,8,34,35,36,37,38,39,40,41,42,43,44,45,46,47,48,49,50]),none,none,some ([],[8,40,41,42,43,44,45,46,47,48,49,50]),none,none,none,none,some ([9],[9,10,11,55,56,57,58,59,60,61,62,63,64,65,66,67,68,69,70,71,72,73,74,75,76,77,78,79,80,81,82,83,84,85,86,87,88,89,90,91,92,93,94,95,96,97,98,99,100,101,102,103]),none,none,none,none,some ([10],[10,11,61,62,63,64,65,66,67,68,69,70,71,72,73,74,75,76,77,78,79,80,81,82,83,84,85,86,87,88,89,90,91,92,93,94,95,96,97,98,99,100,101,102,103]),none,none,none,none,some ([11],[11,67,68,69,70,71,72,73,74,75,76,77,78,79,80,81,82,83,84,85,86,87,88,89,90,91,92,93,94,95,96,97,98,99,100,101,102,103]),none,none,none,none]
def Oi:M7:=fun r w K=>buildSlice P T.ad 0 [] w fun bd w=>lp (α:=Value×Value) (bd,(.int .i64 0)) w fun p o d_ w=>X7 T.g r w fun be w=>X2 .lss T.d 13 15 o.2 be w fun bf w=>X0 bf (X7 T.g r w fun af w=>Q2t P T.a7 af af w fun ag w=>dr w fun d c=>Z1 d c (indexAddr P T.g r o.2) fun an=>Y1 d c an (fun v=>fieldAddr P T.a v 1) fun ao=>Z1 d c (indexAddr P T.g r o.2) fun aq=>Y1 d c aq (fun A=>fieldAddr P T.a A 2) fun ar=>Y1 d c ao (fun y=>Q9 P T.b y) fun ap=>Y1 d c ap (fun z=>buildSlice P T.e 1 [(0,z)]) fun bv=>Y1 d c ar (fun B=>Q9 P T.e B) fun bw=> ∀v y A B z ah ai w,c w->an v w->ao y w->aq A w->ar B w->ap z w->bv ah w->bw ai w->V9 P .append [T.e,T.e] T.e [false,false] [ah,ai] w fun aj w=>lp (α:=Value) (.int .i64 0) w fun g ab d_ w=>X7 T.e aj w fun bh w=>X2 .lss T.d 34 36 ab bh w fun bi w=>X0 bi (jn (α:=Unit) w (fun ac w=>Z5 T.e T.b aj ab w fun bj w=>Q0 P F.b [r,bj] w fun ak w=>X5 .geq T.d 46 ak 0 w fun bk w=>X0 bk (indexAddr P T.a7 ag ak w fun bl w=>M3 P T.n bl (.bool true) w fun _u w=>ac () w) (ac () w)) fun bz d_ w=>U4 38 ab w g) (buildSlice P T.ad 1 [(0,ag)] w fun bm w=>V9 P .append [T.ad,T.ad] T.ad [false,false] [o.1,bm] w fun bn w=>X5 .add T.d 17 o.2 1 w fun bg w=>p (bn,bg) w)) (lp (α:=Value) (.int .i64 0) w fun h q d_ w=>X7 T.g r w fun bo w=>X2 .lss T.d 55 57 q bo w fun bp w=>X0 bp (lp (α:=Value) (.int .i64 0) w fun i m d_ w=>X7 T.g r w fun bq w=>X2 .lss T.d 61 63 m bq w fun br w=>X0 br (lp (α:=Value) (.int .i64 0) w fun j n d_ w=>X7 T.g r w fun bs w=>X2 .lss T.d 67 69 n bs w fun bu w=>X0 bu (dr w fun d c=>Z1 d c (indexAddr P T.ad o.1 m) fun av=>Z1 d c (indexAddr P T.ad o.1 m) fun aw=>Y1 d c av (fun C=>Q9 P T.a7 C) fun bx=>Y1 d c aw (fun D=>Q9 P T.a7 D) fun ax=>Y1 d c ax (fun E=>indexAddr P T.a7 E n) fun ay=>Y1 d c ay (fun H=>Q9 P T.n H) fun e=>Y1 d c e (fun a=>zgf a (fun w J=>J o.1 w)) fun az=>Y1 d c e (fun a=>zgf a (fun w J=>J m w)) fun a1=>En d c e az a1 (fun a L M=>zgf a (indexAddr P T.ad L M)) fun a2=>Y1 d c e (fun a=>zgf a (fun w J=>J q w)) fun a4=>D0 d c e a2 (fun a N=>zgf a (Q9 P T.a7 N)) fun a3=>En d c e a3 a4 (fun a O Q=>zgf a (indexAddr P T.a7 O Q)) fun a5=>D0 d c e a5 (fun a R=>zgf a (Q9 P T.n R)) fun a6=>D0 d c e a6 (fun a U=>zgf a (fun w J=>J U w)) fun f=>Y1 d c f (fun b=>W0 b (fun w J=>J o.1 w)) fun a7=>Y1 d c f (fun b=>W0 b (fun w J=>J q w)) fun a8=>En d c f a7 a8 (fun b V W=>W0 b (indexAddr P T.ad V W)) fun a9=>Y1 d c f (fun b=>W0 b (fun w J=>J n w)) fun bb=>D0 d c f a9 (fun b X=>W0 b (Q9 P T.a7 X)) fun ba=>En d c f ba bb (fun b Y Z=>W0 b (indexAddr P T.a7 Y Z)) fun bc=>D0 d c f bc (fun b aa=>W0 b (Q9 P T.n aa)) fun t=>En d c e f t (fun a b k=>zgf a (pick P b k (.bool false))) fun u=>D0 d c e u (fun a l=>pick P a (.bool true) l) fun am=> ∀C D al E H a L M N Q O R U b V W X Z Y aa k l s w,c w->av C w->aw D w->bx al w->ax E w->ay H w->e a w->az L w->a1 M w->a2 N w->a4 Q w->a3 O w->a5 R w->a6 U w->f b w->a7 V w->a8 W w->a9 X w->bb Z w->ba Y w->bc aa w->t k w->u l w->am s w->indexAddr P T.a7 al n w fun ae w=>M3 P T.n ae s w fun _u w=>U4 71 n w j) (U4 65 m w i)) (U4 59 q w h)) (K o.1 w))
theorem Au (h:Oi a0 w K):Q0 P F.aH [a0] w K:=zr Tj Tryz.func66 h
def Q1K:W4:=X8 6++[some ([9],[8,9,16,17,18,19,20,21,22,23,24,25,26,27,28])]++X8 8++[some ([1,11],[1,11,41,42,43,44,45,46,47,48,49,50,51,52,53,54,55,56]),none,none,none,none]
def Rf:zV4:=fun u k U l w K=>X2 .lss T.d 12 13 l U w fun v w=>X0 v (K k w) (lp (α:=Value) (.int .i64 0) w fun c O V w=>X7 T.o k w fun y w=>X2 .lss T.d 16 18 O y w fun z w=>X0 z (Z5 T.o T.d k O w fun A w=>X2 .eql T.d 25 26 A l w fun B w=>X0 B (K k w) (U4 20 O w c)) (dr w fun e d=>Z1 e d (indexAddr P T.g u l) fun p=>Y1 e d p (fun f=>fieldAddr P T.a f 1) fun q=>Z1 e d (indexAddr P T.g u l) fun s=>Y1 e d s (fun i=>fieldAddr P T.a i 2) fun t=>Y1 e d q (fun g=>Q9 P T.b g) fun r=>Y1 e d r (fun h=>buildSlice P T.e 1 [(0,h)]) fun Q=>Y1 e d t (fun j=>Q9 P T.e j) fun R=> ∀f g i j h m n w,d w->p f w->q g w->s i w->t j w->r h w->Q m w->R n w->V9 P .append [T.e,T.e] T.e [false,false] [m,n] w fun o w=>lp (α:=Value×Value) (k,(.int .i64 0)) w fun a b V w=>X7 T.e o w fun C w=>X2 .lss T.d 41 43 b.2 C w fun D w=>X0 D (Z5 T.e T.b o b.2 w fun H w=>Q0 P F.b [u,H] w fun J w=>Q0 P F.aX [u,b.1,U,J] w fun L w=>X5 .add T.d 45 b.2 1 w fun E w=>a (L,E) w) (buildSlice P T.o 1 [(0,l)] w fun M w=>V9 P .append [T.o,T.o] T.o [false,false] [b.1,M] w fun N w=>K N w)))
theorem Q1Z (h:Rf a0 a1 a2 a3 w K):Q0 P F.aX [a0,a1,a2,a3] w K:=zr Q1K Tryz.func67 h
def Ym:V2:=fun s A w K=>Q0 P F.b [s,A] w fun v w=>X5 .lss T.d 9 v 0 w fun t w=>X0 t (K (.slice none 0 0) w) (dr w fun b a=>Z1 b a (indexAddr P T.g s v) fun m=>Y1 b a m (fun d=>fieldAddr P T.a d 1) fun n=>Z1 b a (indexAddr P T.g s v) fun q=>Y1 b a q (fun h=>fieldAddr P T.a h 6) fun r=>Z1 b a (buildSlice P T.h 0 []) fun l=>Y1 b a n (fun e=>Q9 P T.b e) fun o=>Y1 b a o (fun f=>Q0 P F.a3 [s,f]) fun p=>D0 b a l p (fun c g=>V9 P .append [T.h,T.h] T.h [false,false] [c,g]) fun y=>Y1 b a r (fun i=>Q9 P T.h i) fun z=> ∀d e h i c f g j k w,a w->m d w->n e w->q h w->r i w->l c w->o f w->p g w->y j w->z k w->V9 P .append [T.h,T.h] T.h [false,false] [j,k] w fun u w=>K u w)
theorem Mx (h:Ym a0 a1 w K):Q0 P F.a3 [a0,a1] w K:=zr (X8 6) Tryz.func103 h
end Go.Proofs.Y
