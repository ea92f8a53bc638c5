/- Parts of a proof about the given program: its functions as texts of their own, what each computes, plain laws of that. The conditions of each stand in its statement. -/
import Derived.WalkKit
import Derived.KernelRfl
import Derived.Test.YtkllbfjojoncaaaGreatDoorProg
set_option linter.unnecessarySimpa false
set_option linter.defProp false
set_option linter.unusedSectionVars false
set_option linter.unusedVariables false
set_option linter.unusedSimpArgs false
namespace Go.Emb
theorem Q9 {p:Prop} (h:p:=by assumption):p:=h
theorem Q5 {p:Prop} (h:p:=by omega):p:=h
theorem W3 {p:Prop} (h:p:=by decide):p:=h
theorem U5 {p:Prop} (h:p:=by simp):p:=h
theorem X8 {p:Prop} (h:p:=by kernel_rfl):p:=h
def Yd (P:Program) (s:Sem Next) (w:World) (K:Value->World->Prop):Prop:=
 match s.run P w with
 | .ok (.value v) w'=>K v w'
 | .ok .skip w'=>K undef w'
 | .ok (.enter f a) w'=>Calls P f a w' fun e b=>match e with | .returned v=>K v b | _=>False
 | .ok (.row row a) w'=>Rows P row a w' K
 | _=>False
theorem X6d: ∃f:Program->Sem Next->World->(Value->World->Prop)->Prop,f=Yd:=⟨_,rfl⟩
noncomputable def op:Program->Sem Next->World->(Value->World->Prop)->Prop:=Classical.choose X6d
theorem Yw:op=Yd:=Classical.choose_spec X6d
theorem X91 {P:Program} {o:Oper} {a:Act} {w:World} {next:Act->World->Prop} {Q:Exit->Act->World->Prop}
 (h:op P (execOp a.eval o) w (fun v w=>next (a.put o.dst v) w)):o.wp P a w next Q:=by
 unfold Oper.wp;rw[Yw] at h;unfold Yd at h;cases c:(execOp a.eval o).run P w with
 | halt x w'=>rw[c] at h;exact h.elim
 | ok n w'=>
  rw[c] at h;cases n<;>simp only at h<;>try exact h.elim
  .exact h
  .exact h
  .refine Calls.mono h fun e d b=>?_
   cases e<;>first | exact b | exact b.elim
  .exact h
theorem Sv {P:Program} {s:Sem Next} {K b:Value->World->Prop} {w:World} (a: ∀v w,K v w->b v w) (h:op P s w K):op P s w b:=by
 rw[Yw] at*;unfold Yd at*;cases d:s.run P w with
 | halt x w'=>rw[d] at h;exact h.elim
 | ok n w'=>
  rw[d] at h;cases n<;>simp only at h⊢ <;>try exact h.elim
  .exact a _ _ h
  .exact a _ _ h
  .refine Calls.mono h fun e f c=>?_
   cases e<;>first | exact a _ _ c | exact c.elim
  .exact h.mono a
def sv (s:Sem Value):Sem Next:=do Pure.pure (.value (<-s))
def su (s:Sem Unit):Sem Next:=do s;Pure.pure .skip
variable (P : Program)
noncomputable def pick (c a b:Value) (w:World) (K:Value->World->Prop):Prop:=op P (do Pure.pure (.value (if<-asBool c then a else b))) w K
noncomputable def G9 (e:TypeId) (w:World) (K:Value->World->Prop):Prop:=op P (sv (Instr.alloc e true (.tuple #[]))) w K
noncomputable def box (e:TypeId) (x:Value) (w:World) (K:Value->World->Prop):Prop:=op P (sv (Instr.box e x)) w K
noncomputable def B7 (t:TypeId) (a:List (Nat×Value)) (w:World) (K:Value->World->Prop):Prop:=op P (sv (Instr.build t a.toArray)) w K
noncomputable def buildSlice (t:TypeId) (n:Nat) (a:List (Nat×Value)) (w:World) (K:Value->World->Prop):Prop:=op P (sv (Instr.buildSlice t n a.toArray)) w K
noncomputable def Q6 (t:TypeId) (a:Value) (w:World) (K:Value->World->Prop):Prop:=op P (sv (Instr.loadAt t a)) w K
noncomputable def J9 (t:TypeId) (a x:Value) (w:World) (K:Value->World->Prop):Prop:=op P (su (Instr.storeAt t a x)) w K
noncomputable def nilCheck (x:Value) (w:World) (K:Value->World->Prop):Prop:=op P (execOp (fun _=>x) {dst:=none,op:= .nilCheck (.const x),type:=0,pos:= "",after:= #[],guard:=none}) w K
noncomputable def Z9 (o:BinOp) (t:TypeId) (a b:Operand) (x y:Value) (w:World) (K:Value->World->Prop):Prop:=op P (sv (do eqGuard o t a b x y;Go.binOp o t x y)) w K
noncomputable def W0 (o:UnOp) (x:Value) (w:World) (K:Value->World->Prop):Prop:=op P (sv (Op.unary o x)) w K
noncomputable def conv (s d:TypeId) (x:Value) (w:World) (K:Value->World->Prop):Prop:=op P (sv (Go.convert s d x)) w K
noncomputable def X74 (t:TypeId) (x:Value) (w:World) (K:Value->World->Prop):Prop:=op P (sv (Instr.makeInterface t x)) w K
noncomputable def C5 (f:Fn) (first caps:List Value) (w:World) (K:Value->World->Prop):Prop:=op P (sv (Instr.makeFunc f first.toArray caps.toArray)) w K
noncomputable def Oh (t:TypeId) (r:Option Value) (w:World) (K:Value->World->Prop):Prop:=op P (sv (Instr.makeMap t r)) w K
noncomputable def St (t:TypeId) (n c:Value) (w:World) (K:Value->World->Prop):Prop:=op P (sv (Instr.makeSlice t n c)) w K
noncomputable def I3 (t:TypeId) (x:Value) (b a c:Option Value) (w:World) (K:Value->World->Prop):Prop:=op P (sv (Instr.sliceAt t x b a c)) w K
noncomputable def fieldAddr (t:TypeId) (x:Value) (f:Nat) (w:World) (K:Value->World->Prop):Prop:=op P (sv (Instr.fieldAt t x f)) w K
noncomputable def Xj (t:TypeId) (x:Value) (f:Nat) (w:World) (K:Value->World->Prop):Prop:=op P (sv (Instr.field t x f)) w K
noncomputable def indexAddr (t:TypeId) (x i:Value) (w:World) (K:Value->World->Prop):Prop:=op P (sv (Instr.indexAt t x i)) w K
noncomputable def P0 (t:TypeId) (x i:Value) (w:World) (K:Value->World->Prop):Prop:=op P (sv (Instr.index t x i)) w K
noncomputable def lookup (t:TypeId) (x i:Value) (ok:Bool) (w:World) (K:Value->World->Prop):Prop:=op P (sv (Instr.lookup t x i ok)) w K
noncomputable def mapUpdate (t:TypeId) (m k x:Value) (w:World) (K:Value->World->Prop):Prop:=op P (su (Instr.mapUpdate t m k x)) w K
noncomputable def mapEntry (t:TypeId) (m k:Value) (w:World) (K:Value->World->Prop):Prop:=op P (sv (Instr.mapEntry t m k)) w K
noncomputable def entryStore (t:TypeId) (m s x:Value) (w:World) (K:Value->World->Prop):Prop:=op P (su (Instr.entryStore t m s x)) w K
noncomputable def rng (t:TypeId) (x:Value) (w:World) (K:Value->World->Prop):Prop:=op P (sv (Instr.range t x)) w K
noncomputable def L2 (b:Value) (a:Bool) (t:TypeId) (w:World) (K:Value->World->Prop):Prop:=op P (sv (Instr.next b a t)) w K
noncomputable def X2i (a:Value) (w:World) (K:Value->World->Prop):Prop:=op P (sv (Instr.entry a)) w K
noncomputable def pnc (x:Value) (w:World) (K:Value->World->Prop):Prop:=op P (sv (Instr.panic x)) w K
noncomputable def ext (x:Value) (i:Nat) (w:World) (K:Value->World->Prop):Prop:=op P (sv (Instr.extract x i)) w K
noncomputable def V0 (b:Builtin) (a:List TypeId) (t:TypeId) (cs:List Bool) (xs:List Value) (w:World) (K:Value->World->Prop):Prop:=op P (Go.builtin b a.toArray t cs.toArray xs.toArray) w K
noncomputable def Q0 (f:FuncId) (xs:List Value) (w:World) (K:Value->World->Prop):Prop:=op P (callFunc f xs.toArray) w K
noncomputable def U7 (f:Value) (xs:List Value) (w:World) (K:Value->World->Prop):Prop:=op P (do let d<-Deferred.ofValue f xs.toArray;invoke d.target d.args) w K
def get (l:List Value) (t:Nat):Value:=l.getD t undef
def ev (l:List Value):Operand->Value
 | .tmp t=>get l t
 | .const v=>v
 | .global g=> .pointer (some ⟨g,0,none⟩)
 | .func f=> .func (.func f) #[] #[]
def put (l:List Value) (d:Option Tmp) (v:Value):List Value:=
 match d with
 | some d=>l.set d v
 | none=>l
def evs (l:List Value) (xs:Array Operand):List Value:=xs.toList.map (ev l)
def evp (l:List Value) (xs:Array (Nat×Operand)):List (Nat×Value):=xs.toList.map fun p=>(p.1,ev l p.2)
def evo (l:List Value) (x:Option Operand):Option Value:=match x with | some x=>some (ev l x) | none=>none
def isC:Operand->Bool | .const _=>true | _=>false
noncomputable def Sm (P:Program) (l:List Value) (o:Oper) (c:Call) (w:World) (K:Value->World->Prop):Prop:=
 match c.callee with
 | .builtin b=>V0 P b c.argTypes.toList o.type (c.args.toList.map isC) (evs l c.args) w K
 | .value (.func f)=>Q0 P f (evs l c.args) w K
 | .value f=>U7 P (ev l f) (evs l c.args) w K
 | _=>op P (execOp (ev l) o) w K
noncomputable def O8 (P:Program) (l:List Value) (o:Oper) (w:World) (K:Value->World->Prop):Prop:=
 match o.op with
 | .move x=>K (ev l x) w
 | .assign x=>K (ev l x) w
 | .pick c a b=>pick P (ev l c) (ev l a) (ev l b) w K
 | .alloc e=>G9 P e w K
 | .box e x=>box P e (ev l x) w K
 | .build t h=>B7 P t (evp l h) w K
 | .buildSlice t n h=>buildSlice P t n (evp l h) w K
 | .load t a=>Q6 P t (ev l a) w K
 | .store t a x=>J9 P t (ev l a) (ev l x) w K
 | .nilCheck x=>nilCheck P (ev l x) w K
 | .binOp op t x y _=>Z9 P op t x y (ev l x) (ev l y) w K
 | .unOp op _ x=>W0 P op (ev l x) w K
 | .convert s d x=>conv P s d (ev l x) w K
 | .makeInterface t x=>X74 P t (ev l x) w K
 | .makeFunc f first caps=>C5 P f (evs l first) (evs l caps) w K
 | .makeMap t r=>Oh P t (evo l r) w K
 | .makeSlice t n c=>St P t (ev l n) (ev l c) w K
 | .slice t x q p u=>I3 P t (ev l x) (evo l q) (evo l p) (evo l u) w K
 | .fieldAddr t x f=>fieldAddr P t (ev l x) f w K
 | .field t x f=>Xj P t (ev l x) f w K
 | .indexAddr t x i=>indexAddr P t (ev l x) (ev l i) w K
 | .index t x i=>P0 P t (ev l x) (ev l i) w K
 | .lookup t x i ok=>lookup P t (ev l x) (ev l i) ok w K
 | .mapUpdate t m k x=>mapUpdate P t (ev l m) (ev l k) (ev l x) w K
 | .insert t m k x=>mapUpdate P t (ev l m) (ev l k) (ev l x) w K
 | .mapEntry t m k=>mapEntry P t (ev l m) (ev l k) w K
 | .entryStore t m s x=>entryStore P t (ev l m) (ev l s) (ev l x) w K
 | .range t x=>rng P t (ev l x) w K
 | .next g j=>L2 P (ev l g) j o.type w K
 | .extract x i=>ext P (ev l x) i w K
 | .entry g=>X2i P (ev l g) w K
 | .panic x=>pnc P (ev l x) w K
 | .call c=>Sm P l o c w K
 | _=>op P (execOp (ev l) o) w K
theorem X20 {α β:Type} (f:α->β) (a:Array α):a.map f=(a.toList.map f).toArray:=by rw[<-Array.toList_map,Array.toArray_toList]
theorem X6J (l:List Value) (x:Option Operand):x.map (ev l)=evo l x:=by cases x<;>rfl
theorem Q8V {P:Program} {l:List Value} {o:Oper} {c:Call} {K e:Value->World->Prop} {w:World} (d: ∀v w,K v w->e v w) (h:Sm P l o c w K):Sm P l o c w e:=by
 obtain ⟨a,g,i⟩:=c;cases a with
 | builtin b=>exact Sv d h
 | invoke r m=>exact Sv d h
 | value f=>cases f<;>(simp only[Sm,U7,Q0] at h⊢;exact Sv d h)
theorem Xf {P:Program} {l:List Value} {o:Oper} {K b:Value->World->Prop} {w:World} (a: ∀v w,K v w->b v w) (h:O8 P l o w K):O8 P l o w b:=by
 obtain ⟨d,p,e,pos,c,g⟩:=o;cases p<;>first | exact a _ _ h | exact Q8V a h | exact Sv a h | (simp only[O8] at h⊢;exact Sv a h)
theorem X0t {P:Program} {l:List Value} {o:Oper} {K:Value->World->Prop} {w:World} (h:O8 P l o w K):op P (execOp (ev l) o) w K:=by
 unfold O8 at h
 split at h<;>rename_i a
 all_goals first
  | exact h
  | (unfold execOp;rw[a];exact h)
  | (unfold execOp;rw[a];simp only[X20,X6J];exact h)
  | (unfold execOp;rw[a,Yw];exact h)
  | skip
 rename_i c;unfold Sm at h
 split at h<;>rename_i b
 .unfold execOp;rw[a];simp only[resolve,b,X20]
  simp only[pure_bind,invoke];unfold V0 at h;simp only[Array.toArray_toList] at h;refine (congrArg (fun z=>op P (builtin _ c.argTypes o.type (List.toArray z) _) w K) (List.map_congr_left (fun x _=>?_))).mp h;cases x<;>rfl
 .unfold execOp;rw[a];simp only[resolve,b,X20]
  simp only[ev,Deferred.ofValue,pure_bind,invoke]
  simpa [Q0,evs] using h
 .unfold execOp;rw[a];simp only[resolve,b,X20]
  exact h
 .exact h
def Hn (v:Value) (b:Bool) (w:World) (a:World->(Value->World->Prop)->Prop) (J:Value->World->Prop):Prop:=
 match v with
 | .bool c=>if c=b then a w J else J undef w
 | _=>J undef w
theorem X3P: ∃f:Value->Bool->World->(World->(Value->World->Prop)->Prop)->(Value->World->Prop)->Prop,f=Hn:=⟨_,rfl⟩
noncomputable def Q1:Value->Bool->World->(World->(Value->World->Prop)->Prop)->(Value->World->Prop)->Prop:=Classical.choose X3P
theorem Bg:Q1=Hn:=Classical.choose_spec X3P
def Q5B (v:Value) (t e:Prop):Prop:=
 match v with
 | .bool true=>t
 | .bool false=>e
 | _=>False
theorem X3t: ∃f:Value->Prop->Prop->Prop,f=Q5B:=⟨_,rfl⟩
noncomputable def X1:Value->Prop->Prop->Prop:=Classical.choose X3t
theorem Q8S:X1=Q5B:=Classical.choose_spec X3t
noncomputable def U0 (P:Program) (ops:List Oper) (next:List Value->World->Prop):List Oper->List Value->World->Prop
 | [],l,w=>next l w
 | o::a,l,w=>
  match o.guard with
  | none=>O8 P l o w (fun v w=>U0 P ops next a (put l o.dst v) w)
  | some (j,b)=>match (ops[j]?).bind (·.dst) with
   | some d=>Q1 (get l d) b w (O8 P l o) (fun v w=>U0 P ops next a (put l o.dst v) w)
   | none=>U0 P ops next a (put l o.dst undef) w
def Tup:Nat->Type
 | 0=>Unit
 | 1=>Value
 | n+2=>Value×Tup (n+1)
def Sj (l:List Value):(a:List Nat)->Tup a.length
 | []=>()
 | [s]=>get l s
 | s::t::r=>(get l s,Sj l (t::r))
def Gh (i:Nat) (e:Value):(a:List Nat)->Tup a.length->Value
 | [],_=>e
 | [s],x=>if s=i then x else e
 | s::t::r,x=>if s=i then x.1 else Gh i e (t::r) x.2
def F8 (a b:List Nat) (x:Tup a.length) (d:Nat->Value):Nat->List Value->List Value
 | _,[]=>[]
 | i,v::l=>Gh i (if b.contains i then d i else v) a x::F8 a b x d (i+1) l
def X68 (α:Type) (x0:α) (w:World) (a:(α->World->Prop)->α->(Nat->Value)->World->Prop):Prop:=
 ∃(I:α->World->Prop) (μ:α->World->Nat),I x0 w/\ ∀x d w,I x w->a (fun b w'=>I b w'/\μ b w'<μ x w) x d w
theorem X6a: ∃f:(α:Type)->α->World->((α->World->Prop)->α->(Nat->Value)->World->Prop)->Prop,f=X68:=⟨_,rfl⟩
noncomputable def lp {α:Type}:α->World->((α->World->Prop)->α->(Nat->Value)->World->Prop)->Prop:=Classical.choose X6a α
theorem X69 {α:Type} (x0:α) (w:World) (a:(α->World->Prop)->α->(Nat->Value)->World->Prop):lp x0 w a=X68 α x0 w a:=
 congrFun (congrFun (congrFun (congrFun (Classical.choose_spec X6a) α) x0) w) a
def X64 (α:Type) (w:World) (A:(α->World->Prop)->World->Prop) (B:α->(Nat->Value)->World->Prop):Prop:=
 ∃I:α->World->Prop,A I w/\ ∀x d w,I x w->B x d w
theorem X66: ∃f:(α:Type)->World->((α->World->Prop)->World->Prop)->(α->(Nat->Value)->World->Prop)->Prop,f=X64:=⟨_,rfl⟩
noncomputable def jn {α:Type}:World->((α->World->Prop)->World->Prop)->(α->(Nat->Value)->World->Prop)->Prop:=Classical.choose X66 α
theorem X65 {α:Type} (w:World) (A:(α->World->Prop)->World->Prop) (B:α->(Nat->Value)->World->Prop):jn w A B=X64 α w A B:=
 congrFun (congrFun (congrFun (congrFun (Classical.choose_spec X66) α) w) A) B
theorem Yu {α:Type} {w:World} {A:(α->World->Prop)->World->Prop} {B:α->(Nat->Value)->World->Prop} (I:α->World->Prop) (h:A I w) (a: ∀x d w,I x w->B x d w):jn w A B:=by
 rw[X65];exact ⟨I,h,a⟩
theorem Q9g {α:Type} {w:World} {A:(α->World->Prop)->World->Prop} {B:α->(Nat->Value)->World->Prop} (h:jn w A B): ∃I:α->World->Prop,A I w/\ ∀x d w,I x w->B x d w:=by
 rw[X65] at h;exact h
theorem Of {α:Type} {x0:α} {w:World} {a:(α->World->Prop)->α->(Nat->Value)->World->Prop} (I:α->World->Prop) (μ:α->World->Nat) (c:I x0 w)
 (e: ∀x d w,I x w->a (fun b w'=>I b w'/\μ b w'<μ x w) x d w):lp x0 w a:=by
 rw[X69];exact ⟨I,μ,c,e⟩
theorem X3X {α:Type} {x0:α} {w:World} {a:(α->World->Prop)->α->(Nat->Value)->World->Prop} (h:lp x0 w a):
 ∃(I:α->World->Prop) (μ:α->World->Nat),I x0 w/\ ∀x d w,I x w->a (fun b w'=>I b w'/\μ b w'<μ x w) x d w:=by
 rw[X69] at h;exact h
def G6 (ops:List Oper):List Nat:=ops.filterMap (·.dst)
def Zo:Code->Nat
 | .seq a b=>Zo a+Zo b+1
 | .cond _ a b=>Zo a+Zo b
 | .block _ c=>Zo c
 | .loop c=>Zo c+1
 | .scope c=>Zo c
 | _=>0
def C1 (d:List (Option (List Nat))):Nat->Code->List Nat
 | _, .region _ ops _=>G6 ops.toList
 | k, .seq a b=>(d.getD k none).getD []++(C1 d (k+1) a++C1 d (k+1+Zo a) b)
 | k, .cond _ a b=>C1 d k a++C1 d (k+Zo a) b
 | k, .block _ c=>C1 d k c
 | k, .loop c=>(d.getD k none).getD []++C1 d (k+1) c
 | k, .scope c=>C1 d k c
 | _,_=>[]
abbrev Bp:=Exit->List Value->World->Prop
def thn (next:List Value->World->Prop) (Q:Bp):Bp
 | .normal,a,w=>next a w
 | e,a,w=>Q e a w
def Q5V (id:Nat) (Q:Bp):Bp
 | .exit b,a,w=>if b=id then Q .normal a w else Q (.exit b) a w
 | e,a,w=>Q e a w
noncomputable def Rh (P:Program) (a:List (Option (List Nat))):Nat->Code->Bp->List Value->World->Prop
 | _, .skip,Q,l,w=>Q .normal l w
 | _, .label _,Q,l,w=>Q .normal l w
 | _, .exit id,Q,l,w=>Q (.exit id) l w
 | _, .ret,Q,l,w=>Q .ret l w
 | _, .region _ ops false,Q,l,w=>U0 P ops.toList (fun l w=>Q .normal l w) ops.toList l w
 | _, .region _ ops true,Q,l,w=> ∀t,U0 P ops.toList (fun l w=>Q .normal l w) ((Region.schedule (P.follows .mixedOrders) ops t).filterMap (ops[·]?)) l w.drew
 | k, .seq x y,Q,l,w=>match a.getD k none with
  | none=>Rh P a (k+1) x (thn (fun l w=>Rh P a (k+1+Zo x) y Q l w) Q) l w
  | some e=>jn w (fun J w=>Rh P a (k+1) x (thn (fun l' w'=>J (Sj l' e) w') Q) l w)
   (fun z d w=>Rh P a (k+1+Zo x) y Q (F8 e (C1 a (k+1) x) z d 0 l) w)
 | k, .cond c x y,Q,l,w=>X1 (ev l c) (Rh P a k x Q l w) (Rh P a (k+Zo x) y Q l w)
 | k, .block id c,Q,l,w=>Rh P a k c (Q5V id Q) l w
 | k, .loop c,Q,l,w=>
  lp (Sj l ((a.getD k none).getD [])) w (fun b x d w=>Rh P a (k+1) c (thn (fun l' w'=>b (Sj l' ((a.getD k none).getD [])) w') Q) (F8 ((a.getD k none).getD []) (C1 a (k+1) c) x d 0 l) w)
 | _,_,_,_,_=>False
theorem X30 {ops:List Oper} {l:List Value} {o:Oper} {j:Nat} {b:Bool} (e:o.guard=some (j,b)) {d:Nat} (a:(ops[j]?).bind (·.dst)=some d):
 Region.wanted o (yielded ops.toArray l.toArray)=true↔get l d= .bool b:=by
 unfold Region.wanted yielded;rw[e];simp only[List.getElem?_toArray];rw[a];simp only[Option.bind_some,get,List.getD_eq_getElem?_getD]
 have key: ∀x:Option Value,((match x with | some (.bool c)=>some c | _=>none)==some b)=true↔x.getD undef= .bool b:=by
  intro x;cases x with
  | none=>simp[undef]
  | some v=>cases v<;>simp
 exact key _
theorem X12 {ops:List Oper} {l:List Value} {o:Oper} {j:Nat} {b:Bool} (c:o.guard=some (j,b)) (a:(ops[j]?).bind (·.dst)=none):
 Region.wanted o (yielded ops.toArray l.toArray)=false:=by
 unfold Region.wanted yielded;rw[c];simp only[List.getElem?_toArray];rw[a];rfl
theorem Dp {v:Value} {b:Bool} {a:World->(Value->World->Prop)->Prop} {J:Value->World->Prop} {w:World} (h:Q1 v b w a J):
 (v= .bool b/\a w J)\/(v≠ .bool b/\J undef w):=by
 rw[Bg] at h;unfold Hn at h
 split at h
 .split at h
  .rename_i c;subst c;exact .inl ⟨rfl,h⟩
  .rename_i c;exact .inr ⟨by simp[c],h⟩
 .rename_i d;exact .inr ⟨d b,h⟩
theorem Q34 {v:Value} {b:Bool} {a:World->(Value->World->Prop)->Prop} {J:Value->World->Prop} {w:World}
 (h:(v= .bool b/\a w J)\/(v≠ .bool b/\J undef w)):Q1 v b w a J:=by
 rw[Bg];unfold Hn
 split
 .split
  .rename_i c;subst c
   rcases h with h | h
   .exact h.2
   .exact absurd rfl h.1
  .rename_i c
   rcases h with h | h
   .exact absurd (Value.bool.inj h.1) c
   .exact h.2
 .rename_i d
  rcases h with h | h
  .exact absurd h.1 (d b)
  .exact h.2
theorem Q6S (a:Act):a.eval=ev a.tmps.toList:=by
 funext x
 cases x<;>simp[Act.eval,ev,get,List.getD_eq_getElem?_getD]
theorem X2G (a:Act) (d:Option Tmp) (v:Value):(a.put d v).tmps.toList=put a.tmps.toList d v:=by
 cases d<;>simp[Act.put,put]
theorem X2F (a:Act) (d:Option Tmp) (v:Value):(a.put d v).defers=a.defers:=by
 cases d<;>simp[Act.put]
def lift (Q:Bp):Exit->Act->World->Prop:=fun e a w=>a.defers=[]/\Q e a.tmps.toList w
theorem Q2L (P:Program) (ops:Array Oper) (Q:Exit->Act->World->Prop) (next:List Value->World->Prop)
 (u: ∀a w,a.defers=[]->next a.tmps.toList w->Q .normal a w) (is:List Nat) (s: ∀i∈is,i<ops.size):
 ∀(a:Act) (w:World),a.defers=[]->U0 P ops.toList next (is.filterMap (ops[·]?)) a.tmps.toList w->wpOps P ops Q is a w:=by
 induction is with
 | nil=>intro a w o h;exact u a w o h
 | cons i is y=>
  intro a w o h;have p:=s i U5;have k:ops[i]? =some ops[i]:=by simp[p]
  rw[List.filterMap_cons,k] at h;simp only[U0] at h;simp only[wpOps,k];have q:ops.toList.toArray=ops:=by simp
  have r:a.tmps.toList.toArray=a.tmps:=by simp
  have f: ∀{v w},U0 P ops.toList next (is.filterMap (ops[·]?)) (put a.tmps.toList ops[i].dst v) w->wpOps P ops Q is (a.put ops[i].dst v) w:=by
   intro v w e;refine y (fun j t=>s j (by simp[t])) _ _ (by rw[X2F];exact o) ?_
   rw[X2G];exact e
  have m:O8 P a.tmps.toList ops[i] w (fun v w=>U0 P ops.toList next (is.filterMap (ops[·]?)) (put a.tmps.toList ops[i].dst v) w)->
   ops[i].wp P a w (wpOps P ops Q is) Q:=by
   intro h;refine X91 ?_;rw[Q6S];exact Sv (fun v w e=>f e) (X0t h)
  split at h
  .rename_i n
   rw[if_pos (by simp[Region.wanted,n])]
   exact .inl (m h)
  .rename_i j b n
   split at h
   .rename_i d c
    have g:=X30 (ops:=ops.toList) (l:=a.tmps.toList) n c;rw[q,r] at g
    rcases Dp h with ⟨e,h⟩ | ⟨e,h⟩
    .rw[if_pos (g.2 e)];exact .inl (m h)
    .rw[if_neg (fun h=>e (g.1 h))];exact f h
   .rename_i c
    have g:=X12 (ops:=ops.toList) (l:=a.tmps.toList) n c;rw[q,r] at g;rw[if_neg (by rw[g];simp)];exact f h
theorem Q1S (ops:Array Oper):(List.range ops.size).filterMap (ops[·]?)=ops.toList:=by
 apply List.ext_getElem?;intro i;rw[<-Array.length_toList]
 have: ∀l:List Oper,(List.range l.length).filterMap (l[·]?)=l:=by
  intro l
  induction l with
  | nil=>rfl
  | cons x l a=>
   rw[List.length_cons,List.range_succ_eq_map,List.filterMap_cons];simp only[List.getElem?_cons_zero,List.filterMap_map]
   congr 1
 have h:=this ops.toList;simp only[Array.getElem?_toList] at h;rw[h]
theorem Q50 (b:Bool) (ops:Array Oper) (t:Nat): ∀i∈Region.schedule b ops t,i<ops.size:=by
 have key: ∀m c t a e,(∀i∈e,i<ops.size)-> ∀i∈Region.linearise.go m ops c t a e,i<ops.size:=by
  intro m c
  induction c with
  | zero=>intro t a e h i d;simp[Region.linearise.go] at d;exact h i d
  | succ c g=>
   intro t a e h i d;simp only[Region.linearise.go] at d
   split at d
   .rename_i j f
    refine g _ _ _ ?_ i d;intro k hk
    rcases List.mem_cons.1 hk with rfl | hk
    .have:=List.mem_of_getElem? f
     simp only[List.mem_filter,List.mem_range] at this;exact this.1
    .exact h k hk
   .simp at d;exact h i d
 intro i d;unfold Region.schedule at d
 split at d
 .exact key _ _ _ _ _ U5 i d
 .exact key _ _ _ _ _ U5 i d
def Zg (W:List Nat) (l l':List Value):Prop:=l'.length=l.length/\ ∀i,W.contains i=false->l'[i]? =l[i]?
theorem Zg.refl (W:List Nat) (l:List Value):Zg W l l:=⟨rfl,fun _ _=>rfl⟩
theorem Zg.trans {W:List Nat} {a b c:List Value} (h:Zg W a b) (k:Zg W b c):Zg W a c:=
 ⟨k.1.trans h.1,fun i d=>(k.2 i d).trans (h.2 i d)⟩
theorem Ib (a c:List Nat) (x:Tup a.length) (d:Nat->Value) (l:List Value): ∀i,(F8 a c x d i l).length=l.length:=by
 induction l with
 | nil=>intro i;rfl
 | cons v l b=>intro i;simp[F8,b]
theorem Pj (a b:List Nat) (x:Tup a.length) (d:Nat->Value) (l:List Value): ∀i j,(F8 a b x d i l)[j]? =(l[j]?).map fun v=>Gh (i+j) (if b.contains (i+j) then d (i+j) else v) a x:=by
 induction l with
 | nil=>intro i j;simp[F8]
 | cons v l c=>
  intro i j;cases j with
  | zero=>simp[F8]
  | succ j=>simp only[F8,List.getElem?_cons_succ,c];rw[show i+1+j=i+(j+1) from by omega]
theorem Ob (i:Nat) (e:Value): ∀(b:List Nat) (x:Tup b.length),b.contains i=false->Gh i e b x=e
 | [],_,_=>rfl
 | [s],x,h=>by
  have a: ¬s=i:=by intro a;subst a;simp at h
  exact if_neg a
 | s::t::r,x,h=>by
  simp only[Gh]
  split
  .rename_i a;subst a;simp at h
  .refine Ob i e (t::r) x.2 ?_
   simp only[List.contains_cons,Bool.or_eq_false_iff] at h⊢;exact h.2
theorem X0c (l:List Value) (i:Nat) (e c:Value): ∀(b:List Nat),b.contains i=true->Gh i e b (Sj l b)=get l i
 | [],h=>by simp at h
 | [s],h=>by
  simp only[List.contains_cons,List.contains_nil,Bool.or_false,beq_iff_eq] at h;subst h;simp[Gh,Sj]
 | s::t::r,h=>by
  simp only[Gh,Sj]
  split
  .rename_i a;subst a;rfl
  .rename_i a
   refine X0c l i e c (t::r) ?_;simp only[List.contains_cons,Bool.or_eq_true,beq_iff_eq] at h⊢
   rcases h with h | h
   .exact absurd h.symm a
   .exact h
theorem Q0u (a c:List Nat) (l l':List Value) (j:l'.length=l.length)
 (h: ∀i,a.contains i=false->c.contains i=false->l'[i]? =l[i]?):l'=F8 a c (Sj l' a) (get l') 0 l:=by
 apply List.ext_getElem?;intro i;rw[Pj];simp only[Nat.zero_add];cases d:l[i]? with
 | none=>
  have:=List.getElem?_eq_none_iff.1 d;simp only[Option.map_none];exact List.getElem?_eq_none Q5
 | some v=>
  have m:i<l.length:=(List.getElem?_eq_some_iff.1 d).1
  have g:l'[i]? =some (get l' i):=by
   simp only[get,List.getD_eq_getElem?_getD];rw[List.getElem?_eq_getElem Q5];rfl
  rw[g];simp only[Option.map_some,Option.some.injEq]
  by_cases k:a.contains i=true
  .rw[X0c l' i _ undef a k]
  .have b:a.contains i=false:=by simpa using k
   rw[Ob _ _ _ _ b]
   by_cases e:c.contains i=true
   .rw[if_pos e]
   .have f:c.contains i=false:=by simpa using e
    rw[if_neg e];have:=h i b f;rw[g,d] at this;exact Option.some.inj this
theorem Q7p {v:Value} {t e b a:Prop} (d:t->b) (c:e->a) (h:X1 v t e):X1 v b a:=by
 rw[Q8S] at*;unfold Q5B at*
 split at h
 .exact d h
 .exact c h
 .exact h.elim
theorem Ww (P:Program) (c:List Oper) (next b:List Value->World->Prop) (W:List Nat) (k:List Value): ∀(ops:List Oper) (l:List Value) (w:World),
 (∀o∈ops,∀d,o.dst=some d->W.contains d=true)->Zg W k l->(∀l w,next l w->Zg W k l->b l w)->U0 P c next ops l w->U0 P c b ops l w
 | [],l,w,_,j,p,h=>p l w h j
 | o::f,l,w,q,j,p,h=>by
  have g: ∀v,Zg W k (put l o.dst v):=by
   intro v;cases t:o.dst with
   | none=>exact j
   | some d=>
    have s:=q o U5 d t;refine j.trans ⟨by simp[put],fun i r=>?_⟩
    have:d≠i:=by intro e;subst e;rw[s] at r;cases r
    simp[put,this]
  have a: ∀v w,U0 P c next f (put l o.dst v) w->U0 P c b f (put l o.dst v) w:=fun v w y=>
   Ww P c next b W k f _ w (fun o u=>q o (by simp[u])) (g v) p y
  simp only[U0] at h⊢
  split at h
  .exact Xf a h
  .split at h
   .refine Q34 ((Dp h).imp (fun ⟨m,n⟩=>⟨m,Xf a n⟩) (fun ⟨m,n⟩=>⟨m,a _ _ n⟩))
   .exact a _ _ h
theorem Q7K {α:Type} {x0:α} {c b:(α->World->Prop)->α->(Nat->Value)->World->Prop} {w:World}
 (f: ∀a x d w,c a x d w->b a x d w) (h:lp x0 w c):lp x0 w b:=by
 obtain ⟨I,μ,e,g⟩:=X3X h;exact Of I μ e fun x d w i=>f _ _ _ _ (g x d w i)
theorem Yc {a b:List Nat} {i:Nat} (h:a.contains i=true):(a++b).contains i=true:=by simp at h⊢;exact .inl h
theorem G7 {a b:List Nat} {i:Nat} (h:b.contains i=true):(a++b).contains i=true:=by simp at h⊢;exact .inr h
theorem Q7s (P:Program) (q:List (Option (List Nat))) (c:Code): ∀(k:Nat) (Q A:Bp) (W:List Nat) (m l:List Value) (w:World),
 (∀i,(C1 q k c).contains i=true->W.contains i=true)->Zg W m l->
 (∀e l w,Q e l w->Zg W m l->A e l w)->Rh P q k c Q l w->Rh P q k c A l w:=by
 induction c with
 | skip=>intro k Q A W m l w _ g j h;exact j _ _ _ h g
 | label n=>intro k Q A W m l w _ g j h;exact j _ _ _ h g
 | exit id=>intro k Q A W m l w _ g j h;exact j _ _ _ h g
 | ret=>intro k Q A W m l w _ g j h;exact j _ _ _ h g
 | goto n=>intro k Q A W m l w _ g j h;exact h.elim
 | refuse s=>intro k Q A W m l w _ g j h;exact h.elim
 | scope c=>intro k Q A W m l w _ g j h;exact h.elim
 | rangeFunc f p a b=>intro k Q A W m l w _ g j h;exact h.elim
 | region id ops L=>
  intro k Q A W m l w B g j h
  have O: ∀o∈ops.toList,∀d,o.dst=some d->W.contains d=true:=by
   intro o R d hd;refine B d ?_;simp only[C1,G6,List.contains_eq_mem,List.mem_filterMap,decide_eq_true_eq];exact ⟨o,R,hd⟩
  cases L with
  | false=>exact Ww P _ _ _ W m _ _ _ O g (fun l w X g=>j _ _ _ X g) h
  | true=>
   intro t;refine Ww P _ _ _ W m _ _ _ ?_ g (fun l w X g=>j _ _ _ X g) (h t);intro o R;simp only[List.mem_filterMap] at R;obtain ⟨i,_,r⟩:=R;exact O o (by simpa using Array.mem_of_getElem? r)
 | seq x y D E=>
  intro k Q A W m l w B g j h;have Z: ∀i,(C1 q (k+1) x).contains i=true->W.contains i=true:=fun i r=>B i (G7 (Yc r));have hy: ∀i,(C1 q (k+1+Zo x) y).contains i=true->W.contains i=true:=fun i r=>B i (G7 (G7 r));simp only[Rh] at h⊢
  split at h
  .refine D _ _ _ W m l w Z g ?_ h
   intro e l' w' C u;cases e with
   | normal=>exact E _ _ _ W m l' w' hy u j C
   | _=>exact j _ _ _ C u
  .rename_i sl Y
   obtain ⟨J,M,N⟩:=Q9g h;refine Yu J (D _ _ _ W m l w Z g ?_ M) fun z d w hz=>?_
   .intro e l' w' C u
    cases e with
    | normal=>exact C
    | _=>exact j _ _ _ C u
   .refine E _ _ _ W m _ w hy (g.trans ⟨Ib _ _ _ _ _ _,fun i r=>?_⟩) j (N z d w hz)
    rw[Pj]
    have M:sl.contains i=false:=by
     cases H:sl.contains i with
     | false=>rfl
     | true=>rw[B i (Yc (by rw[Y];exact H))] at r;cases r
    have N:(C1 q (k+1) x).contains i=false:=by
     cases H:(C1 q (k+1) x).contains i with
     | false=>rfl
     | true=>rw[Z i H] at r;cases r
    simp only[Nat.zero_add];cases hl:l[i]? with
    | none=>rfl
    | some v=>simp only[Option.map_some,Ob _ _ _ _ M,N,Bool.false_eq_true,if_false]
 | cond c x y D E=>
  intro k Q A W m l w B g j h;exact Q7p (D k _ _ W m l w (fun i r=>B i (Yc r)) g j) (E _ _ _ W m l w (fun i r=>B i (G7 r)) g j) h
 | block id c ih=>
  intro k Q A W m l w B g j h;refine ih k _ _ W m l w B g ?_ h;intro e l' w' C u;cases e with
  | exit ah=>simp only[Q5V] at C⊢;split<;>rename_i V<;>simp only[V,if_true,if_false] at C<;>exact j _ _ _ C u
  | _=>exact j _ _ _ C u
 | loop c ih=>
  intro k Q A W m l w B g j h;refine Q7K (fun U x d w hb=>?_) h;refine ih _ _ _ W m _ _ (fun i r=>B i (G7 r)) ?_ ?_ hb
  .refine g.trans ⟨Ib _ _ _ _ _ _,fun i r=>?_⟩
   rw[Pj]
   have M:((q.getD k none).getD []).contains i=false:=by
    cases H:((q.getD k none).getD []).contains i with
    | false=>rfl
    | true=>rw[B i (Yc H)] at r;cases r
   have N:(C1 q (k+1) c).contains i=false:=by
    cases H:(C1 q (k+1) c).contains i with
    | false=>rfl
    | true=>rw[B i (G7 H)] at r;cases r
   simp only[Nat.zero_add];cases hl:l[i]? with
   | none=>rfl
   | some v=>simp only[Option.map_some,Ob _ _ _ _ M,N,Bool.false_eq_true,if_false]
  .intro e l' w' C u
   cases e with
   | normal=>exact C
   | _=>exact j _ _ _ C u
theorem X3u (P:Program) (g:List (Option (List Nat))) (c:Code): ∀(k:Nat) (Q:Bp) (a:Act) (w:World),
 a.defers=[]->Rh P g k c Q a.tmps.toList w->c.wp P (lift Q) a w:=by
 induction c with
 | skip=>intro k Q a w j h;exact wp_skip ⟨j,h⟩
 | label n=>intro k Q a w j h;exact wp_label ⟨j,h⟩
 | exit id=>intro k Q a w j h;exact wp_exit ⟨j,h⟩
 | ret=>intro k Q a w j h;exact wp_ret ⟨j,h⟩
 | goto n=>intro k Q a w j h;exact h.elim
 | refuse s=>intro k Q a w j h;exact h.elim
 | scope c=>intro k Q a w j h;exact h.elim
 | rangeFunc f p a b=>intro k Q a w j h;exact h.elim
 | region id ops A=>
  intro k Q a w j h;cases A with
  | false=>
   refine wp_region (Q2L P ops _ _ (fun a w j h=>⟨j,h⟩) _ U5 a w j ?_);rw[Q1S];exact h
  | true=>
   refine wp_region_draw fun t=>?_;exact Q2L P ops _ _ (fun a w j h=>⟨j,h⟩) _ (Q50 _ _ _) a _ j (h t)
 | seq x y r u=>
  intro k Q a w j h;simp only[Rh] at h
  split at h
  .refine wp_seq (wp_mono (r _ _ a w j h) ?_)
   intro e o w' ⟨m,q⟩;cases e with
   | normal=>exact u _ _ o w' m q
   | _=>exact ⟨m,q⟩
  .rename_i Y ad
   obtain ⟨J,L,B⟩:=Q9g h;have H:=Q7s P g x (k+1) _ (fun e l' w'=>thn (fun l' w'=>J (Sj l' Y) w') Q e l' w'/\Zg (C1 g (k+1) x) a.tmps.toList l') (C1 g (k+1) x) a.tmps.toList a.tmps.toList w (fun _ h=>h) (Zg.refl _ _) (fun e l w h N=>⟨h,N⟩) L;refine wp_seq (wp_mono (r (k+1) _ a w j H) ?_);intro e o w' ⟨m,q,C⟩;cases e with
   | normal=>
    refine u (k+1+Zo x) _ o w' m ?_;rw[Q0u Y (C1 g (k+1) x) a.tmps.toList o.tmps.toList C.1 (fun i _ h=>C.2 i h)];exact B _ _ _ q
   | _=>exact ⟨m,q⟩
 | cond c x y r u=>
  intro k Q a w j h;simp only[Rh,Q8S,Q5B] at h
  split at h
  .rename_i W
   exact wp_cond_true (by rw[Q6S];exact W) (r _ _ _ _ j h)
  .rename_i W
   exact wp_cond_false (by rw[Q6S];exact W) (u _ _ _ _ j h)
  .exact h.elim
 | block id c X=>
  intro k Q a w j h;refine wp_block (wp_mono (X k _ a w j h) ?_);intro e o w' ⟨m,q⟩;cases e with
  | exit ae=>
   simp only[Q5V,Exit.inBlock] at q⊢
   split<;>rename_i V<;>simp only[V,if_true,if_false] at q<;>exact ⟨m,q⟩
  | _=>exact ⟨m,q⟩
 | loop c X=>
  intro k Q a w j h;obtain ⟨I,μ,h0,hr⟩:=X3X h;refine wp_loop (fun o w'=>o.defers=[]/\(∃d,o.tmps.toList=F8 ((g.getD k none).getD []) (C1 g (k+1) c) (Sj o.tmps.toList ((g.getD k none).getD [])) d 0 a.tmps.toList)/\I (Sj o.tmps.toList ((g.getD k none).getD [])) w') (fun o w'=>μ (Sj o.tmps.toList ((g.getD k none).getD [])) w') ⟨j,⟨get a.tmps.toList,Q0u _ _ _ _ rfl (fun _ _ _=>rfl)⟩,h0⟩ ?_;intro z w1 ⟨U,⟨d1,v⟩,M⟩;have O:=hr _ d1 w1 M;dsimp only at O;rw[<-v] at O;have R:=Q7s P g c (k+1) _ (fun e l' w'=>thn (fun l' w'=>I (Sj l' ((g.getD k none).getD [])) w'/\μ (Sj l' ((g.getD k none).getD [])) w'<μ (Sj z.tmps.toList ((g.getD k none).getD [])) w1) Q e l' w'/\Zg (C1 g (k+1) c) z.tmps.toList l') (C1 g (k+1) c) z.tmps.toList z.tmps.toList w1 (fun _ h=>h) (Zg.refl _ _) (fun e l w h N=>⟨h,N⟩) O;refine wp_mono (X _ _ z w1 U R) ?_;intro e Z w2 ⟨E,B,D⟩;cases e with
  | normal=>
   refine ⟨⟨E,⟨get Z.tmps.toList,Q0u _ _ _ _ ?_ ?_⟩,B.1⟩,B.2⟩
   .rw[D.1,v,Ib]
   .intro i L H
    rw[D.2 i H,v,Pj];simp only[Nat.zero_add,Ob _ _ _ _ L,H,Bool.false_eq_true,if_false,Option.map_id']
  | _=>exact ⟨E,B⟩
def X2T:List Value->Nat->Value->(List Value->Prop)->Prop
 | [],_,_,k=>k []
 | _::l,0,v,k=>k (v::l)
 | x::l,n+1,v,k=>X2T l n v (fun l'=>k (x::l'))
def Q74 (l:List Value) (d:Option Tmp) (v:Value) (k:List Value->Prop):Prop:=
 match d with
 | some d=>X2T l d v k
 | none=>k l
def X2n:List Value->Nat->(Value->Prop)->Prop
 | [],_,k=>k undef
 | x::_,0,k=>k x
 | _::l,n+1,k=>X2n l n k
def evK (l:List Value) (o:Operand) (k:Value->Prop):Prop:=
 match o with
 | .tmp t=>X2n l t k
 | .const v=>k v
 | .global g=>k (.pointer (some ⟨g,0,none⟩))
 | .func f=>k (.func (.func f) #[] #[])
def Q6s (i:Nat) (e:Value):(a:List Nat)->Tup a.length->(Value->Prop)->Prop
 | [],_,k=>k e
 | [s],x,k=>if s=i then k x else k e
 | s::t::r,x,k=>if s=i then k x.1 else Q6s i e (t::r) x.2 k
def Ae (a b:List Nat) (x:Tup a.length) (d:Nat->Value):Nat->List Value->(List Value->Prop)->Prop
 | _,[],k=>k []
 | i,v::l,k=>match b.contains i with
  | true=>Q6s i (d i) a x (fun u=>Ae a b x d (i+1) l (fun l'=>k (u::l')))
  | false=>Q6s i v a x (fun u=>Ae a b x d (i+1) l (fun l'=>k (u::l')))
theorem X7m (l:List Value): ∀(n:Nat) (v:Value) (k:List Value->Prop),X2T l n v k=k (l.set n v):=by
 induction l with
 | nil=>intro n v k;rfl
 | cons x l a=>intro n v k;cases n with
  | zero=>rfl
  | succ n=>simp only[X2T,a,List.set_cons_succ]
theorem X1A (l:List Value) (d:Option Tmp) (v:Value) (k:List Value->Prop):Q74 l d v k=k (put l d v):=by
 cases d with
 | none=>rfl
 | some d=>exact X7m l d v k
theorem X6P (l:List Value): ∀(n:Nat) (k:Value->Prop),X2n l n k=k (get l n):=by
 induction l with
 | nil=>intro n k;rfl
 | cons x l a=>intro n k;cases n with
  | zero=>rfl
  | succ n=>simp only[X2n,a];rfl
theorem X81 (l:List Value) (o:Operand) (k:Value->Prop):evK l o k=k (ev l o):=by
 cases o with
 | tmp t=>exact X6P l t k
 | _=>rfl
theorem Q3N (i:Nat) (e:Value) (k:Value->Prop): ∀(a:List Nat) (x:Tup a.length),Q6s i e a x k=k (Gh i e a x)
 | [],_=>rfl
 | [s],x=>by
  by_cases h:s=i
  .exact (if_pos h).trans (congrArg k (if_pos h).symm)
  .exact (if_neg h).trans (congrArg k (if_neg h).symm)
 | s::t::r,x=>by
  by_cases h:s=i
  .exact (if_pos h).trans (congrArg k (if_pos h).symm)
  .exact ((if_neg h).trans (Q3N i e k (t::r) x.2)).trans (congrArg k (if_neg h).symm)
theorem Q7z (a c:List Nat) (x:Tup a.length) (d:Nat->Value) (l:List Value): ∀(i:Nat) (k:List Value->Prop),Ae a c x d i l k=k (F8 a c x d i l):=by
 induction l with
 | nil=>intro i k;rfl
 | cons v l b=>
  intro i k;simp only[Ae,F8]
  split
  .rename_i h;rw[Q3N,b,if_pos h]
  .rename_i h;rw[Q3N,b,if_neg (by rw[h];simp)]
theorem Pi (b c a:List Nat) (h: ∀i,c.contains i=a.contains i) (x:Tup b.length) (d:Nat->Value) (l:List Value): ∀i,F8 b c x d i l=F8 b a x d i l:=by
 induction l with
 | nil=>intro i;rfl
 | cons v l e=>intro i;simp only[F8,e,h]
noncomputable def Xt (P:Program) (ops:List Oper) (next:List Value->World->Prop):List Oper->List Value->World->Prop
 | [],l,w=>next l w
 | o::a,l,w=>
  match o.guard with
  | none=>match o.op with
   | .move x=>evK l x fun v=>Q74 l o.dst v fun l=>Xt P ops next a l w
   | .assign x=>evK l x fun v=>Q74 l o.dst v fun l=>Xt P ops next a l w
   | _=>O8 P l o w (fun v w=>Q74 l o.dst v fun l=>Xt P ops next a l w)
  | some (j,b)=>match (ops[j]?).bind (·.dst) with
   | some d=>Q1 (get l d) b w (O8 P l o) (fun v w=>Q74 l o.dst v fun l=>Xt P ops next a l w)
   | none=>Q74 l o.dst undef fun l=>Xt P ops next a l w
theorem Fm (P:Program) (ops:List Oper) (next:List Value->World->Prop) (os:List Oper): ∀(l:List Value) (w:World),Xt P ops next os l w=U0 P ops next os l w:=by
 induction os with
 | nil=>intro l w;rfl
 | cons o c a=>
  intro l w;obtain ⟨dst,p,e,pos,d,g⟩:=o;cases g with
  | none=>cases p<;>simp only[Xt,U0,X1A,X81,a,O8]
  | some q=>obtain ⟨j,b⟩:=q;simp only[Xt,U0,X1A,a]
def Xy (T:World->World->Prop) (φ:Value->World->Prop):Prop:= ∀v w w',φ v w->T w w'->φ v w'
def dk (T:World->World->Prop) (φ:Value->World->Prop) (w:World):Value->World->Prop:=fun v w'=>T w w'/\φ v w'
def Q8Y (T:World->World->Prop) (A:(Value->World->Prop)->Prop) (a:(Value->World->Prop)->Prop):Prop:=
 ∃φ,Xy T φ/\A φ/\a φ
theorem X3w: ∃f:(World->World->Prop)->((Value->World->Prop)->Prop)->((Value->World->Prop)->Prop)->Prop,f=Q8Y:=⟨_,rfl⟩
noncomputable def J3:(World->World->Prop)->((Value->World->Prop)->Prop)->((Value->World->Prop)->Prop)->Prop:=Classical.choose X3w
theorem X3v:J3=Q8Y:=Classical.choose_spec X3w
def X2g (w:World) (A:(World->World->Prop)->(World->Prop)->Prop):Prop:= ∃T B,B w.drew/\(∀w w',B w->T w w'->B w')/\A T B
theorem X5X: ∃f:World->((World->World->Prop)->(World->Prop)->Prop)->Prop,f=X2g:=⟨_,rfl⟩
noncomputable def dr:World->((World->World->Prop)->(World->Prop)->Prop)->Prop:=Classical.choose X5X
theorem X5W:dr=X2g:=Classical.choose_spec X5X
theorem Pe {w:World} {A:(World->World->Prop)->(World->Prop)->Prop} (T:World->World->Prop) (B:World->Prop) (h:B w.drew) (b: ∀w w',B w->T w w'->B w') (a:A T B):dr w A:=by
 rw[X5W];exact ⟨T,B,h,b,a⟩
theorem R3 {T:World->World->Prop} {A a:(Value->World->Prop)->Prop} (φ:Value->World->Prop) (c:Xy T φ) (h:A φ) (b:a φ):J3 T A a:=by
 rw[X3v];exact ⟨φ,c,h,b⟩
def Q6P (T:World->World->Prop) (A a:(List Value->Value->World->Prop)->Prop):Prop:=
 ∃φ,(∀xs,Xy T (φ xs))/\A φ/\a φ
theorem X1j: ∃f:(World->World->Prop)->((List Value->Value->World->Prop)->Prop)->((List Value->Value->World->Prop)->Prop)->Prop,f=Q6P:=⟨_,rfl⟩
noncomputable def Gv:(World->World->Prop)->((List Value->Value->World->Prop)->Prop)->((List Value->Value->World->Prop)->Prop)->Prop:=Classical.choose X1j
theorem X1i:Gv=Q6P:=Classical.choose_spec X1j
theorem Q6Q {T:World->World->Prop} {A a:(List Value->Value->World->Prop)->Prop} (φ:List Value->Value->World->Prop) (c: ∀xs,Xy T (φ xs)) (h:A φ) (b:a φ):Gv T A a:=by
 rw[X1i];exact ⟨φ,c,h,b⟩
abbrev Iv:=Nat×Nat
def Ap (a:Nat->Iv):Prop:= ∀i j,i≠j->(a i).2<=(a j).1\/(a j).2<=(a i).1
def dkR (T:World->World->Prop) (φ:Iv->Value->World->Prop) (w:World):Value->World->Prop:=fun v w'=>T w w'/\φ (w.heap.size,w'.heap.size) v w'
def Q6O (T:(Nat->Iv)->World->World->Prop) (j:Nat) (A a:(Iv->Value->World->Prop)->Prop):Prop:=
 ∃φ,(∀b,Ap b->Xy (T b) (φ (b j)))/\A φ/\a φ
theorem X1h: ∃f:((Nat->Iv)->World->World->Prop)->Nat->((Iv->Value->World->Prop)->Prop)->((Iv->Value->World->Prop)->Prop)->Prop,f=Q6O:=⟨_,rfl⟩
noncomputable def Q2M:((Nat->Iv)->World->World->Prop)->Nat->((Iv->Value->World->Prop)->Prop)->((Iv->Value->World->Prop)->Prop)->Prop:=Classical.choose X1h
theorem X1g:Q2M=Q6O:=Classical.choose_spec X1h
theorem Q3X {T:(Nat->Iv)->World->World->Prop} {j:Nat} {A a:(Iv->Value->World->Prop)->Prop} (φ:Iv->Value->World->Prop) (d: ∀b,Ap b->Xy (T b) (φ (b j))) (h:A φ) (c:a φ):Q2M T j A a:=by
 rw[X1g];exact ⟨φ,d,h,c⟩
def Q6N (T:(Nat->Iv)->World->World->Prop) (A a:(Value->World->Prop)->Prop):Prop:=
 ∃φ,(∀b,Ap b->Xy (T b) φ)/\A φ/\a φ
theorem X1f: ∃f:((Nat->Iv)->World->World->Prop)->((Value->World->Prop)->Prop)->((Value->World->Prop)->Prop)->Prop,f=Q6N:=⟨_,rfl⟩
noncomputable def Qg:((Nat->Iv)->World->World->Prop)->((Value->World->Prop)->Prop)->((Value->World->Prop)->Prop)->Prop:=Classical.choose X1f
theorem X1e:Qg=Q6N:=Classical.choose_spec X1f
theorem X6D {T:(Nat->Iv)->World->World->Prop} {A a:(Value->World->Prop)->Prop} (φ:Value->World->Prop) (d: ∀b,Ap b->Xy (T b) φ) (h:A φ) (c:a φ):Qg T A a:=by
 rw[X1e];exact ⟨φ,d,h,c⟩
def Q5c (T:(Nat->Iv)->World->World->Prop) (A a:(List Value->Value->World->Prop)->Prop):Prop:=
 ∃φ,(∀xs b,Ap b->Xy (T b) (φ xs))/\A φ/\a φ
theorem Q90: ∃f:((Nat->Iv)->World->World->Prop)->((List Value->Value->World->Prop)->Prop)->((List Value->Value->World->Prop)->Prop)->Prop,f=Q5c:=⟨_,rfl⟩
noncomputable def Q3Y:((Nat->Iv)->World->World->Prop)->((List Value->Value->World->Prop)->Prop)->((List Value->Value->World->Prop)->Prop)->Prop:=Classical.choose Q90
theorem Q8Z:Q3Y=Q5c:=Classical.choose_spec Q90
theorem Q91 {T:(Nat->Iv)->World->World->Prop} {A a:(List Value->Value->World->Prop)->Prop} (φ:List Value->Value->World->Prop) (d: ∀xs b,Ap b->Xy (T b) (φ xs)) (h:A φ) (c:a φ):Q3Y T A a:=by
 rw[Q8Z];exact ⟨φ,d,h,c⟩
def Q92 (w:World) (A:((Nat->Iv)->World->World->Prop)->(World->Prop)->Prop):Prop:= ∃T B,B w.drew/\(∀a w w',B w->T a w w'->B w')/\(∀a w w',T a w w'->w.heap.size<=w'.heap.size)/\A T B
theorem X3y: ∃f:World->(((Nat->Iv)->World->World->Prop)->(World->Prop)->Prop)->Prop,f=Q92:=⟨_,rfl⟩
noncomputable def drR:World->(((Nat->Iv)->World->World->Prop)->(World->Prop)->Prop)->Prop:=Classical.choose X3y
theorem X3x:drR=Q92:=Classical.choose_spec X3y
theorem X7X {w:World} {A:((Nat->Iv)->World->World->Prop)->(World->Prop)->Prop} (T:(Nat->Iv)->World->World->Prop) (B:World->Prop) (h:B w.drew) (d: ∀a w w',B w->T a w w'->B w') (c: ∀a w w',T a w w'->w.heap.size<=w'.heap.size) (b:A T B):drR w A:=by
 rw[X3x];exact ⟨T,B,h,d,c,b⟩
def allI:Bool->((Nat->Iv)->Prop)->Prop
 | false,k=>k fun _=>(0,0)
 | true,k=> ∀a:Nat->Iv,Ap a->k a
def OkI:Bool->(Nat->Iv)->Prop
 | false,a=>a=fun _=>(0,0)
 | true,a=>Ap a
def Si:Bool->World->Nat
 | false,_=>0
 | true,w=>w.heap.size
theorem Q8B {r:Bool} {k:(Nat->Iv)->Prop} (h:allI r k) {b:Nat->Iv} (a:OkI r b):k b:=by
 cases r with
 | false=>have a:b=_:=a;subst a;exact h
 | true=>exact h b a
def Kz (r:Bool) (a:Nat->Iv) (w:World):Prop:=OkI r a/\ ∀q,(a q).2<=Si r w
theorem Kz.init {r:Bool} {w:World}:Kz r (fun _=>(0,0)) w:=⟨by cases r<;>first | rfl | exact fun _ _ _=> .inl (Nat.le_refl _),fun _=>Nat.zero_le _⟩
theorem Kz.step {r:Bool} {c:Nat->Iv} {w w':World} (h:Kz r c w) (g:Si r w<=Si r w') (q:Nat):Kz r (fun n=>if n=q then (Si r w,Si r w') else c n) w':=by
 obtain ⟨a,d⟩:=h;refine ⟨?_,fun n=>?_⟩
 .cases r with
  | false=>
   have a:c=_:=a;subst a
   funext n
   simp[Si]
  | true=>
   intro i j b;have a:Ap c:=a;simp only
   by_cases e:i=q
   .subst e
    rw[if_pos rfl,if_neg (Ne.symm b)];exact .inr (d j)
   .rw[if_neg e]
    by_cases f:j=q
    .subst f
     rw[if_pos rfl];exact .inl (d i)
    .rw[if_neg f]
     exact a i j b
 .simp only
  split
  .exact Nat.le_refl _
  .exact Nat.le_trans (d n) g
noncomputable def runOp (P:Program) (ops:List Oper) (l:List Value) (o:Oper) (w:World) (K:Value->World->Prop):Prop:=
 match o.guard with
 | none=>O8 P l o w K
 | some (j,b)=>match (ops[j]?).bind (·.dst) with
  | some d=>Q1 (get l d) b w (O8 P l o) K
  | none=>False
inductive Ent where
  | val (v : Value)
  | ref (j : Nat)
def Ent.at (u:Nat->Value):Ent->Value
 | .val v=>v
 | .ref j=>u j
def Qt (u:Nat->Value) (S:List Ent):List Value:=S.map (Ent.at u)
def getE:List Ent->Nat->Ent
 | [],_=> .val undef
 | x::_,0=>x
 | _::l,n+1=>getE l n
def entOf (S:List Ent):Operand->Ent
 | .tmp t=>getE S t
 | .const v=> .val v
 | .global g=> .val (.pointer (some ⟨g,0,none⟩))
 | .func f=> .val (.func (.func f) #[] #[])
def mv (o:Oper):Option Operand:=
 match o.guard with
 | some _=>none
 | none=>match o.op with
  | .move x=>some x
  | .assign x=>some x
  | _=>none
def Q5s:List Ent->Nat->Ent->List Ent
 | [],_,_=>[]
 | _::l,0,e=>e::l
 | x::l,n+1,e=>x::Q5s l n e
def putE (S:List Ent) (d:Option Nat) (e:Ent):List Ent:=
 match d with
 | some d=>Q5s S d e
 | none=>S
def I5 (o:Oper):List Nat:=o.op.operands.toList.filterMap fun | .tmp t=>some t | _=>none
def G2 (ops:List Oper) (o:Oper):List Nat:=
 match o.guard with
 | none=>[]
 | some (j,_)=>match (ops[j]?).bind (·.dst) with | some d=>[d] | none=>[]
def Q3W:List Nat->List Nat
 | []=>[]
 | x::l=>x::(Q3W l).filter (fun y=> !(y==x))
def Q8r:Ent->List Nat
 | .ref j=>[j]
 | .val _=>[]
def Q4a (S:List Ent):List Nat->List Nat
 | []=>[]
 | s::l=>Q8r (getE S s)++Q4a S l
def refs (ops:List Oper) (S:List Ent) (o:Oper):List Nat:=Q3W (Q4a S (G2 ops o++I5 o))
def Om:List Nat->(Nat->Value)->((Nat->Value)->Prop)->Prop
 | [],u,k=>k u
 | j::a,u,k=> ∀t:Value,Om a (fun n=>if n=j then t else u n) k
abbrev Gm:=List (Nat×List Nat×(List Value->Iv->Value->World->Prop))
def Mx:Gm->Nat->Option (List Nat×(List Value->Iv->Value->World->Prop))
 | [],_=>none
 | (i,φ)::l,j=>if i=j then some φ else Mx l j
def Ot (c:Gm) (u:Nat->Value) (b:Nat->Iv) (w:World) (a:Prop):List Nat->Prop
 | []=>a
 | j::d=>match Mx c j with
  | some ([],φ)=>φ [] (b j) (u j) w->Ot c u b w a d
  | _=>Ot c u b w a d
def Q45 (c:Gm) (u:Nat->Value) (b:Nat->Iv) (w:World) (a:Prop):List Nat->Prop
 | []=>a
 | j::d=>match Mx c j with
  | some (R,φ)=>φ (R.map u) (b j) (u j) w->Q45 c u b w a d
  | none=>Q45 c u b w a d
def Q9d (o:Oper):Bool:=match o.op with | .store .. =>true | _=>false
def Q38 (o:Oper):Bool:=match o.op with | .call c=>(match c.callee with | .value (.func _)=>true | _=>false) | _=>false
def X9w (o:Oper):Bool:=match o.op with | .build .. =>true | _=>false
def X5b (o:Oper):Bool:=match o.op with | .call c=>(match c.callee with | .builtin .append=>true | _=>false) | _=>false
def Sq (o:Oper):Bool:=match o.op with | .alloc .. =>true | _=>false
def X2A (r:Bool) (o:Oper):Bool:=match r with | true=>Q38 o||X5b o||Sq o | false=>false
abbrev ivZ:Nat->Iv:=fun _=>(0,0)
def X2B (r:Bool) (o:Oper):Bool:=match r with | true=>Q9d o||X9w o | false=>Q9d o
noncomputable def chain (P:Program) (r:Bool) (ops:List Oper) (T:(Nat->Iv)->World->World->Prop) (B:World->Prop) (L2:List Value->World->Prop) (tail:List Oper):Nat->List Oper->List Ent->Gm->List Nat->Prop
 | _,[],S,c,done=>Om done (fun _=>undef) fun u=>allI r fun b=> ∀w,B w->Q45 c u b w (Xt P ops L2 tail (Qt u S) w) done
 | i,o::a,S,c,done=>
  match mv o with
  | some x=>chain P r ops T B L2 tail (i+1) a (putE S o.dst (entOf S x)) c done
  | none=>match X2B r o with
   | true=>match r with
    | true=>Q3Y T (fun φ=>Om (refs ops S o) (fun _=>undef) fun u=>allI true fun b=> ∀w,B w->Ot c u b w (runOp P ops (Qt u S) o w (dk (T b) (φ ((refs ops S o).map u)) w)) (refs ops S o))
     (fun φ=>chain P r ops T B L2 tail (i+1) a (putE S o.dst (.ref i)) (c++[(i,refs ops S o,fun xs (_:Iv)=>φ xs)]) (done++[i]))
    | false=>Gv (T ivZ) (fun φ=>Om (refs ops S o) (fun _=>undef) fun u=>allI false fun b=> ∀w,B w->Ot c u b w (runOp P ops (Qt u S) o w (dk (T b) (φ ((refs ops S o).map u)) w)) (refs ops S o))
     (fun φ=>chain P r ops T B L2 tail (i+1) a (putE S o.dst (.ref i)) (c++[(i,refs ops S o,fun xs (_:Iv)=>φ xs)]) (done++[i]))
   | false=>match X2A r o with
    | true=>Q2M T i (fun φ=>Om (refs ops S o) (fun _=>undef) fun u=>allI r fun b=> ∀w,B w->Ot c u b w (runOp P ops (Qt u S) o w (dkR (T b) φ w)) (refs ops S o))
     (fun φ=>chain P r ops T B L2 tail (i+1) a (putE S o.dst (.ref i)) (c++[(i,[],fun (_:List Value)=>φ)]) (done++[i]))
    | false=>match r with
     | true=>Qg T (fun φ=>Om (refs ops S o) (fun _=>undef) fun u=>allI true fun b=> ∀w,B w->Ot c u b w (runOp P ops (Qt u S) o w (dk (T b) φ w)) (refs ops S o))
      (fun φ=>chain P r ops T B L2 tail (i+1) a (putE S o.dst (.ref i)) (c++[(i,[],fun (_:List Value) (_:Iv)=>φ)]) (done++[i]))
     | false=>J3 (T ivZ) (fun φ=>Om (refs ops S o) (fun _=>undef) fun u=>allI false fun b=> ∀w,B w->Ot c u b w (runOp P ops (Qt u S) o w (dk (T b) φ w)) (refs ops S o))
      (fun φ=>chain P r ops T B L2 tail (i+1) a (putE S o.dst (.ref i)) (c++[(i,[],fun (_:List Value) (_:Iv)=>φ)]) (done++[i]))
def Jz:Op->Bool
 | .ready _ | .waits _ | .sliceToArrayPointer .. | .makeChan .. | .typeAssert .. | .go _ | .defer _ | .send .. | .recv .. | .select .. =>false
 | .call c=>match c.callee with | .invoke .. =>false | _=>true
 | _=>true
theorem Pf {l l':List Value} {x:Option Operand} (h: ∀y∈x.toArray,ev l y=ev l' y):evo l x=evo l' x:=by
 cases x with
 | none=>rfl
 | some y=>simp only[evo];rw[h y U5]
theorem Q2O {l l':List Value} {xs:Array Operand} (h: ∀y∈xs,ev l y=ev l' y):evs l xs=evs l' xs:=by
 unfold evs;exact List.map_congr_left fun y a=>h y (by simpa using a)
theorem Q7x {l l':List Value} {xs:Array (Nat×Operand)} (h: ∀y∈(xs.toList.map (·.2)).toArray,ev l y=ev l' y):evp l xs=evp l' xs:=by
 unfold evp;refine List.map_congr_left fun y a=>?_;rw[h y.2 (by simp;exact ⟨y.1,by simpa using a⟩)]
theorem Cf {P:Program} {l l':List Value} {o:Oper} (q:Jz o.op=true) (h: ∀x∈o.op.operands,ev l x=ev l' x):O8 P l o=O8 P l' o:=by
 obtain ⟨d,p,D,pos,B,g⟩:=o
 funext w K
 cases p with
 | call c=>
  obtain ⟨j,i,C⟩:=c;have k:evs l i=evs l' i:=Q2O fun y e=>h y (by simp[Op.operands,Call.operands];exact .inr e)
  cases j with
  | invoke r m=>simp[Jz] at q
  | builtin b=>simp only[O8,Sm,k]
  | value f=>
   have s:ev l f=ev l' f:=h f (by simp[Op.operands,Call.operands])
   cases f<;>simp only[O8,Sm,k,s]
 | build t A=>simp only[O8];rw[Q7x h]
 | buildSlice t n A=>simp only[O8];rw[Q7x h]
 | makeFunc f a b=>
  simp only[O8];rw[Q2O (xs:=a) fun y e=>h y (by simp[Op.operands];exact .inl e),Q2O (xs:=b) fun y e=>h y (by simp[Op.operands];exact .inr e)]
 | makeMap t r=>simp only[O8];rw[Pf h]
 | slice t x v u z=>
  simp only[O8];rw[h x (by simp[Op.operands]),Pf (x:=v) fun y e=>h y (by simp[Op.operands] at e⊢;simp[e]),Pf (x:=u) fun y e=>h y (by simp[Op.operands] at e⊢;simp[e]),Pf (x:=z) fun y e=>h y (by simp[Op.operands] at e⊢;simp[e])]
 | _=>first
  | (simp[Jz] at q;done)
  | (simp only[Op.operands,List.mem_toArray,List.mem_cons,List.not_mem_nil,or_false,forall_eq_or_imp,forall_eq] at h;simp only[O8,h];done)
  | rfl
def Q0m:List Oper->List Nat->List Nat
 | [],acc=>acc
 | o::a,acc=>Q0m a (acc++[(o.after.toList.filter (Region.binds .any)).foldl (fun s e=>s ||| 2 ^ e.on ||| acc.getD e.on 0) 0])
def Zi (a b:Oper):Bool:=
 match a.dst with
 | some d=>(I5 b).contains d||b.dst==some d
 | none=>false
def Q6K (a:List Nat) (ops:List Oper):Bool:=
 ops.zipIdx.all fun (o,j)=>ops.zipIdx.all fun (q,i)=> !(decide (i<j))|| !(Zi q o||Zi o q)||(a.getD j 0).testBit i
def Md (ops:List Oper):Bool:=
 ops.zipIdx.all fun (o,i)=>Jz o.op&&(o.after.toList.filter (Region.binds .any)).all (fun e=>decide (e.on<i))&&
  match o.guard with | none=>true | some (j,_)=>(o.after.toList.filter (Region.binds .any)).any (fun e=>e.on==j)
def Q8s (m:Region.Mode) (ops:List Oper):List Nat->List Nat->Bool
 | [],_=>true
 | j::L,seen=>((ops[j]?.map fun o=>o.after.toList).getD []).all (fun e=> !Region.binds m e||seen.contains e.on)&&Q8s m ops L (j::seen)
def Ym (m:Region.Mode) (ops:List Oper) (L:List Nat):Bool:=
 Q8s m ops L []&&(List.range ops.length).all (L.contains ·)&&ops.all (fun o=>o.after.toList.all fun e=> !Region.binds m e||decide (e.on<ops.length))
def X5G (m:Region.Mode) (ops:List Oper):Nat->List Nat->List Nat->List Nat
 | 0,_,seen=>seen.reverse
 | n+1,a,seen=>
  match a.find? (fun j=>((ops[j]?.map fun o=>o.after.toList).getD []).all (fun e=> !Region.binds m e||seen.contains e.on)) with
  | some j=>X5G m ops n (a.erase j) (j::seen)
  | none=>seen.reverse
def Jx:List Nat->Bool
 | []=>true
 | x::l=> !l.contains x&&Jx l
def Yo (ops:List Oper) (j:Nat):List Nat:=(ops[j]?.map fun o=>(o.after.toList.filter (Region.binds .any)).map (·.on)).getD []
def Gp (ops:List Oper) (L:List Nat):Prop:= ∀b j a,L=b++j::a-> ∀i∈Yo ops j,i∈b
theorem Q98 (f:Edge->Nat) (l:List Edge): ∀(s i:Nat),(l.foldl (fun s e=>s ||| 2 ^ e.on ||| f e) s).testBit i=true->
 s.testBit i=true\/ ∃e∈l,e.on=i\/(f e).testBit i=true:=by
 induction l with
 | nil=>intro s i h;exact .inl h
 | cons e l c=>
  intro s i h
  rcases c _ _ h with h | ⟨a,b,h⟩
  .simp only[Nat.testBit_or,Bool.or_eq_true] at h
   rcases h with (h | h) | h
   .exact .inl h
   .rw[Nat.testBit_two_pow] at h
    exact .inr ⟨e,by simp, .inl (by simpa using h)⟩
   .exact .inr ⟨e,by simp, .inr h⟩
  .exact .inr ⟨a,by simp[b],h⟩
theorem Q7o (a:List Oper): ∀(b:List Oper) (acc:List Nat),acc.length+b.length=a.length->(∀k,acc.length<=k->a[k]? =b[k-acc.length]?)->
 (∀j i,j<acc.length->(acc.getD j 0).testBit i=true-> ∃k∈Yo a j,k=i\/(k<j/\(acc.getD k 0).testBit i=true))->
 (∀j,j<a.length-> ∀k∈Yo a j,k<j)->
 ∀j i,j<a.length->((Q0m b acc).getD j 0).testBit i=true-> ∃k∈Yo a j,k=i\/(k<j/\((Q0m b acc).getD k 0).testBit i=true)
 | [],acc,q,_,c,_=>by
  intro j i t h;exact c j i (by simp at q;omega) h
 | o::b,acc,q,f,c,p=>by
  have z:a[acc.length]? =some o:=by rw[f _ (Nat.le_refl _)];simp
  refine Q7o a b _ (by simp at q⊢;omega) ?_ ?_ p
  .intro k g
   simp only[List.length_append,List.length_cons,List.length_nil] at g⊢;rw[f k Q5];obtain ⟨m,y⟩: ∃m,k-acc.length=m+1:=⟨k-acc.length-1,by omega⟩
   rw[y,List.getElem?_cons_succ]
   congr 1;omega
  .intro j i t h
   simp only[List.length_append,List.length_cons,List.length_nil] at t
   have d: ∀k,k<acc.length->(acc++[(o.after.toList.filter (Region.binds .any)).foldl (fun s e=>s ||| 2 ^ e.on ||| acc.getD e.on 0) 0]).getD k 0=acc.getD k 0:=by
    intro k g;simp only[List.getD_eq_getElem?_getD];rw[List.getElem?_append_left g]
   by_cases n:j<acc.length
   .rw[d j n] at h
    obtain ⟨k,g,h⟩:=c j i n h;exact ⟨k,g,h.imp id fun ⟨u,v⟩=>⟨u,by rw[d k Q5];exact v⟩⟩
   .have r:j=acc.length:=by omega
    subst r;simp only[List.getD_eq_getElem?_getD,List.getElem?_append_right (Nat.le_refl _),Nat.sub_self,List.getElem?_cons_zero,Option.getD_some] at h
    rcases Q98 (fun e=>acc.getD e.on 0) _ _ _ (by simpa only[List.getD_eq_getElem?_getD] using h) with h | ⟨e,w,h⟩
    .simp at h
    .have l:e.on∈Yo a acc.length:=by
      unfold Yo;rw[z];simp only[Option.map_some,Option.getD_some,List.mem_map];exact ⟨e,w,rfl⟩
     refine ⟨e.on,l,h.imp id fun h=>?_⟩;have g:=p acc.length (by simp at q;omega) _ l
     exact ⟨g,by rw[d _ g];exact h⟩
theorem Q0r {ops:List Oper} (h:Md ops=true): ∀j,j<ops.length-> ∀k∈Yo ops j,k<j:=by
 intro j b k a;simp only[Md,List.all_eq_true,Bool.and_eq_true] at h;unfold Yo at a;rw[List.getElem?_eq_getElem b] at a;simp only[Option.map_some,Option.getD_some,List.mem_map] at a;obtain ⟨e,c,rfl⟩:=a;have:=(h (ops[j],j) (by rw[List.mem_zipIdx_iff_getElem?];simp[b])).1.2 e c
 simpa using this
theorem Q9Y {ops:List Oper} (l:Md ops=true) {L:List Nat} (n:Gp ops L): ∀(j:Nat),j<ops.length-> ∀i b a,L=b++j::a->((Q0m ops []).getD j 0).testBit i=true->i∈b:=by
 intro j
 induction j using Nat.strongRecOn with
 | _ j o=>
  intro d i b a f g;obtain ⟨k,m,h⟩:=Q7o ops ops [] U5 U5 (by intro j i d;simp at d) (Q0r l) j i d g
  have c:=n b j a f k m
  rcases h with rfl | ⟨e,h⟩
  .exact c
  .obtain ⟨p,q,rfl⟩:=List.append_of_mem c
   have:=o k e Q5 i p (q++j::a) (by rw[f];simp) h
   exact List.mem_append_left _ this
theorem Ov: ∀(n:Nat) (a:List Nat),(∀k,k<n->k∈a)->n<=a.length
 | 0,_,_=>Nat.zero_le _
 | n+1,a,h=>by
  have b:=Ov n (a.erase n) fun k e=>(List.mem_erase_of_ne Q5).2 (h k Q5);have c:=List.length_erase_of_mem (h n Q5);have d:=List.length_pos_of_mem (h n Q5);omega
theorem K5: ∀(n:Nat) (l:List Nat),l.Nodup->(∀k∈l,k<n)->l.length<=n
 | 0,l,_,h=>by
  cases l with
  | nil=>simp
  | cons x l=>exact absurd (h x U5) Q5
 | n+1,l,c,h=>by
  by_cases b:n∈l
  .have g:=K5 n (l.erase n) (c.erase n) fun k a=>by
    have d:=h k (List.mem_of_mem_erase a);have f:k≠n:=fun e=>by subst e;exact (List.Nodup.not_mem_erase c) a
    omega
   have d:=List.length_erase_of_mem b;have f:=List.length_pos_of_mem b;omega
  .have:=K5 n l c fun k a=>by
    have d:=h k a;have f:k≠n:=fun e=>by subst e;exact b a
    omega
   omega
theorem X3e {m:Region.Mode} {e:Edge} (h:Region.binds .any e=true):Region.binds m e=true:=by
 unfold Region.binds at h⊢;cases a:e.ground<;>rw[a] at h<;>first | rfl | (exact absurd h (by simp<;>rfl)) | (simp at h;cases h)
theorem X2D {m:Region.Mode} {ops:List Oper} {L:List Nat} (h:Ym m ops L=true) (k:Nat) (b:k<ops.length): ∀e∈(ops[k]?.map fun o=>o.after.toList).getD [],Region.binds m e=true->e.on<ops.length:=by
 intro e a c;simp only[Ym,Bool.and_eq_true,List.all_eq_true] at h;rw[List.getElem?_eq_getElem b] at a;have:=h.2 ops[k] (List.getElem_mem b) e (by simpa using a)
 rw[c] at this
 simpa using this
theorem Q9X {m:Region.Mode} {ops:List Oper} {L:List Nat} (h:Ym m ops L=true): ∀k,k<ops.length->k∈L:=by
 intro k a;simp only[Ym,Bool.and_eq_true,List.all_eq_true] at h
 simpa using h.1.2 k (by simpa using a)
theorem X1p (m:Region.Mode) (ops:Array Oper) (R:Md ops.toList=true) (U:List Nat) (O:Ym m ops.toList U=true): ∀(fuel t:Nat) (listed:Array Bool) (a:List Nat),
 fuel+a.length=ops.size->listed.size=ops.size->(∀i,i<ops.size->(listed.getD i true=true↔i∈a))->a.Nodup->(∀i∈a,i<ops.size)->Gp ops.toList a.reverse->
 (Region.linearise.go m ops fuel t listed a).Nodup/\(Region.linearise.go m ops fuel t listed a).length=ops.size/\Gp ops.toList (Region.linearise.go m ops fuel t listed a)
 | 0,t,listed,a,hf,_,_,hn,_,hr=>by
  simp only[Region.linearise.go];exact ⟨List.pairwise_reverse.2 (hn.imp fun h=>Ne.symm h),by simp;omega,hr⟩
 | fuel+1,t,listed,a,hf,M,C,hn,D,hr=>by
  -- one that isn't listed may come
  have X: ∃k,k<ops.size/\k∉a:=by
   refine Classical.byContradiction fun ad=>?_;have u: ∀k,k<ops.size->k∈a:=fun k hk=>Classical.byContradiction fun h=>ad ⟨k,hk,h⟩;have:=Ov ops.size a u;omega
  simp only[Region.linearise.go]
  split
  .rename_i i hi
   have l:=List.mem_of_getElem? hi;simp only[List.mem_filter,List.mem_range,Bool.and_eq_true,Bool.not_eq_true'] at l;obtain ⟨c,v,n⟩:=l;have H:i∉a:=fun h=>by rw[(C i c).2 h] at v;cases v
   refine X1p m ops R U O fuel _ _ _ (by simp;omega) (by simp[M]) ?_ (List.nodup_cons.2 ⟨H,hn⟩) ?_ ?_
   .intro j hj
    by_cases p:i=j
    .subst p;simp[Array.getD,M,c]
    .have:(listed.setIfInBounds i true).getD j true=listed.getD j true:=by
      simp only[Array.getD_eq_getD_getElem?];rw[Array.getElem?_setIfInBounds_ne p]
     rw[this,C j hj]
     simp[Ne.symm p]
   .intro j hj
    rcases List.mem_cons.1 hj with rfl | hj
    .exact c
    .exact D j hj
   .rw[List.reverse_cons]
    intro af j N V k hk
    rcases List.eq_nil_or_concat N with rfl | ⟨r,x,rfl⟩
    .have hh:=List.append_inj' V rfl
     obtain ⟨h1,h2⟩:=hh;simp only[List.cons.injEq,and_true] at h2;subst h2;subst h1;have Z:=hk;unfold Yo at hk;rw[show ops.toList[i]? =some ops[i] by simp[c]] at hk
     simp only[Option.map_some,Option.getD_some,List.mem_map,List.mem_filter] at hk;obtain ⟨e,⟨f,W⟩,rfl⟩:=hk;rw[show ops[i]? =some ops[i] by simp[c]] at n
     simp only[Option.map_some,Option.getD_some,Array.all_eq_true'] at n;have h4:=n e (by simpa using f)
     simp only[Bool.or_eq_true,Bool.not_eq_true'] at h4
     rcases h4 with h4 | h4
     .rw[X3e W] at h4;cases h4
     .have an:=Q0r R i (by simpa using c) e.on Z
      have:listed.getD e.on true=true:=by
       simp only[Array.getD_eq_getD_getElem?] at h4⊢;rw[Array.getElem?_eq_getElem Q5] at h4⊢
       simpa using h4
      simpa using (C e.on Q5).1 this
    .rw[List.concat_eq_append,<-List.cons_append,<-List.append_assoc] at V
     have hh:=List.append_inj' V rfl;exact hr af j r hh.1 k hk
  .rename_i q
   exfalso
   obtain ⟨k0,y,z⟩:=X;have s:=O;simp only[Ym,Bool.and_eq_true] at s
   -- every number of L0 that is none of an operation's has no edges: it may stand there, but isn't looked at
   have g: ∃k,k<ops.size/\k∉a/\ ∀e∈(ops.toList[k]?.map fun o=>o.after.toList).getD [],Region.binds m e=true->e.on∈a\/ops.size<=e.on:=by
    -- the first of L0 that is an operation's number and isn't listed
    have key: ∀(L b:List Nat),Q8s m ops.toList L b=true->(∀k∈b,k∈a\/ops.size<=k)->(∃k∈L,k<ops.size/\k∉a)->
     ∃k,k<ops.size/\k∉a/\ ∀e∈(ops.toList[k]?.map fun o=>o.after.toList).getD [],Region.binds m e=true->e.on∈a\/ops.size<=e.on:=by
     intro L
     induction L with
     | nil=>rintro b _ _ ⟨k,hk,_⟩;simp at hk
     | cons j L ih=>
      rintro b h hs ⟨k,hk,ab,B⟩;simp only[Q8s,Bool.and_eq_true,List.all_eq_true] at h
      by_cases hj:j∈a\/ops.size<=j
      .refine ih (j::b) h.2 (fun x hx=>by rcases List.mem_cons.1 hx with rfl | hx;exact hj;exact hs x hx) ⟨k,?_,ab,B⟩
       rcases List.mem_cons.1 hk with rfl | hk
       .rcases hj with hj | hj
        .exact absurd hj B
        .omega
       .exact hk
      .have Y:j<ops.size:=by
        refine Nat.lt_of_not_le fun h=>hj (.inr h)
       refine ⟨j,Y,fun h=>hj (.inl h),fun e R Q=>?_⟩;have:=h.1 e R;rw[Q] at this;exact hs _ (by simpa using this)
    exact key U [] s.1.1 U5 ⟨k0,Q9X O k0 (by simpa using y),y,z⟩
   obtain ⟨k,d,aa,A⟩:=g
   by_cases w:k∈(List.range ops.size).filter fun i=> !listed.getD i true&&((ops[i]?).map (·.after.all fun e=> !Region.binds m e||listed.getD e.on false)).getD false
   .have J:=List.length_pos_of_mem w
    have:=List.getElem?_eq_none_iff.1 q;have:=Nat.mod_lt t J;omega
   .refine w ?_
    simp only[List.mem_filter,List.mem_range,Bool.and_eq_true,Bool.not_eq_true'];refine ⟨d,?_,?_⟩
    .cases hc:listed.getD k true with
     | false=>rfl
     | true=>exact absurd ((C k d).1 hc) aa
    .rw[show ops[k]? =some ops[k] by simp[d]]
     simp only[Option.map_some,Option.getD_some,Array.all_eq_true'];intro e f;simp only[Bool.or_eq_true,Bool.not_eq_true'];cases Q:Region.binds m e with
     | false=>exact .inl rfl
     | true=>
      right;rw[show ops.toList[k]? =some ops[k] by simp[d]] at A
      rcases A e (by simpa using f) Q with h | h
      .have E:=D _ h
       have:=(C e.on E).2 h;simp only[Array.getD_eq_getD_getElem?] at this⊢;rw[Array.getElem?_eq_getElem Q5] at this⊢
       simpa using this
      .exact absurd h (by
        have:=X2D O k (by simpa using d) e (by rw[show ops.toList[k]? =some ops[k] by simp[d]];simpa using f) Q
        simp at this;omega)
theorem Q8m (b:Bool) (ops:Array Oper) (t:Nat) (d:Md ops.toList=true) (f: ∀m,∃L,Ym m ops.toList L=true):
 (Region.schedule b ops t).Nodup/\(Region.schedule b ops t).length=ops.size/\Gp ops.toList (Region.schedule b ops t):=by
 have key: ∀m t,(Region.linearise m ops t).Nodup/\(Region.linearise m ops t).length=ops.size/\Gp ops.toList (Region.linearise m ops t):=by
  intro m t;obtain ⟨L,c⟩:=f m;refine X1p m ops d L c _ _ _ _ U5 U5 ?_ List.nodup_nil U5 ?_
  .intro i e;simp[Array.getD,e]
  .intro g j a h;simp at h
 unfold Region.schedule
 split<;>exact key _ _
theorem Un: ∀(ops:List Oper),Jx (G6 ops)=true-> ∀(i j:Nat) (a b:Oper) (d:Nat),ops[i]? =some a->ops[j]? =some b->a.dst=some d->b.dst=some d->i=j
 | [],_,i,j,a,b,d,h,_,_,_=>by simp at h
 | o::c,g,i,j,a,b,d,m,n,p,r=>by
  have f: ∀(k:Nat) (q:Oper),c[k]? =some q->q.dst=some d->d∈G6 c:=by
   intro k q s v;simp only[G6,List.mem_filterMap];exact ⟨q,List.mem_of_getElem? s,v⟩
  have l:Jx (G6 c)=true:=by
   simp only[G6,List.filterMap_cons] at g
   split at g
   .exact g
   .simp only[Jx,Bool.and_eq_true] at g;exact g.2
  have e:o.dst=some d->d∉G6 c:=by
   intro u;simp only[G6,List.filterMap_cons,u,Jx,Bool.and_eq_true,Bool.not_eq_true'] at g;intro t;have:=g.1;simp only[List.contains_eq_mem,decide_eq_false_iff_not] at this;exact this t
  cases i with
  | zero=>
   simp only[List.getElem?_cons_zero,Option.some.injEq] at m;subst m;cases j with
   | zero=>rfl
   | succ j=>exact absurd (f j b (by simpa using n) r) (e p)
  | succ i=>
   cases j with
   | zero=>
    simp only[List.getElem?_cons_zero,Option.some.injEq] at n;subst n;exact absurd (f i a (by simpa using m) p) (e r)
   | succ j=>rw[Un c l i j a b d (by simpa using m) (by simpa using n) p r]
theorem Q0v (u:Nat->Value): ∀(S:List Ent) (s:Nat),get (Qt u S) s=(getE S s).at u
 | [],s=>by simp[Qt,get,getE,Ent.at]
 | e::S,0=>rfl
 | e::S,s+1=>Q0v u S s
theorem Ai: ∀(S:List Ent) (s:Nat),getE S s=(S[s]?).getD (.val undef)
 | [],s=>by simp[getE]
 | e::S,0=>rfl
 | e::S,s+1=>by simp only[getE,List.getElem?_cons_succ];exact Ai S s
theorem Q4c: ∀(S:List Ent) (n:Nat) (e:Ent),Q5s S n e=S.set n e
 | [],n,e=>by simp[Q5s]
 | x::S,0,e=>rfl
 | x::S,n+1,e=>by simp only[Q5s,List.set_cons_succ,Q4c S n e]
theorem Q7L {x:Nat}: ∀{l:List Nat},x∈l->x∈Q3W l
 | y::l,h=>by
  simp only[Q3W,List.mem_cons,List.mem_filter]
  by_cases e:x=y
  .exact .inl e
  .exact .inr ⟨Q7L ((List.mem_cons.1 h).resolve_left e),by simpa using e⟩
theorem Pd {x:Nat}: ∀{l:List Nat},x∈Q3W l->x∈l
 | y::l,h=>by
  simp only[Q3W,List.mem_cons,List.mem_filter] at h⊢;exact h.imp id fun h=>Pd h.1
theorem Q7M {S:List Ent} {j:Nat}: ∀{l:List Nat} {s:Nat},s∈l->getE S s= .ref j->j∈Q4a S l
 | x::l,s,h,e=>by
  simp only[Q4a,List.mem_append]
  rcases List.mem_cons.1 h with rfl | h
  .left;rw[e];simp[Q8r]
  .right;exact Q7M h e
theorem Pu {S:List Ent} {j:Nat}: ∀{l:List Nat},j∈Q4a S l-> ∃s∈l,getE S s= .ref j
 | x::l,h=>by
  simp only[Q4a,List.mem_append] at h
  rcases h with h | h
  .refine ⟨x,by simp,?_⟩
   cases a:getE S x with
   | val v=>rw[a] at h;simp[Q8r] at h
   | ref k=>rw[a] at h;simp[Q8r] at h;rw[h]
  .obtain ⟨s,b,e⟩:=Pu h
   exact ⟨s,by simp[b],e⟩
theorem Q55: ∀(a:List Nat) (c u:Nat->Value) (k:(Nat->Value)->Prop),Om a c k-> ∃b,k b/\ ∀x,(x∈a->b x=u x)/\(x∉a->b x=c x)
 | [],c,u,k,h=>⟨c,h,fun x=>⟨fun h=>by simp at h,fun _=>rfl⟩⟩
 | j::a,c,u,k,h=>by
  obtain ⟨b,g,d⟩:=Q55 a _ u k (h (u j));refine ⟨b,g,fun x=>⟨fun hx=>?_,fun hx=>?_⟩⟩
  .by_cases f:x∈a
   .exact (d x).1 f
   .rw[(d x).2 f]
    rcases List.mem_cons.1 hx with rfl | hx
    .simp
    .exact absurd hx f
  .rw[(d x).2 (fun h=>hx (List.mem_cons_of_mem _ h))]
   have:x≠j:=fun e=>hx (by simp[e])
   simp[this]
theorem Q5g {f:Gm} {u:Nat->Value} {e:Nat->Iv} {w:World} {a:Prop}: ∀{d:List Nat},Ot f u e w a d->(∀j∈d,∀φ,Mx f j=some ([],φ)->φ [] (e j) (u j) w)->a
 | [],h,_=>h
 | j::d,h,c=>by
  simp only[Ot] at h
  split at h
  .rename_i φ g
   exact Q5g (h (c j U5 φ g)) fun k b=>c k (by simp[b])
  .exact Q5g h fun k b=>c k (by simp[b])
theorem Q37 {f:Gm} {u:Nat->Value} {e:Nat->Iv} {w:World} {a:Prop}: ∀{d:List Nat},Q45 f u e w a d->(∀j∈d,∀R φ,Mx f j=some (R,φ)->φ (R.map u) (e j) (u j) w)->a
 | [],h,_=>h
 | j::d,h,c=>by
  simp only[Q45] at h
  split at h
  .rename_i R φ g
   exact Q37 (h (c j U5 R φ g)) fun k b=>c k (by simp[b])
  .exact Q37 h fun k b=>c k (by simp[b])
theorem Q0X {a:Gm} {i j:Nat} {φ:List Nat×(List Value->Iv->Value->World->Prop)} (h:i≠j):Mx (a++[(i,φ)]) j=Mx a j:=by
 induction a with
 | nil=>simp[Mx,h]
 | cons p a b=>obtain ⟨k,ψ⟩:=p;simp only[List.cons_append,Mx,b]
theorem Hv {a:Gm} {i:Nat} {φ:List Nat×(List Value->Iv->Value->World->Prop)} (h:Mx a i=none):Mx (a++[(i,φ)]) i=some φ:=by
 induction a with
 | nil=>simp[Mx]
 | cons p a c=>
  obtain ⟨k,ψ⟩:=p;simp only[Mx] at h
  split at h
  .cases h
  .rename_i b;simp only[List.cons_append,Mx,b,if_false];exact c h
def Kg (S:List Ent) (i:Nat) (o:Oper):Ent:=match mv o with | some x=>entOf S x | none=> .ref i
def C9 (S:List Ent):Nat->List Oper->List Ent
 | _,[]=>S
 | i,o::a=>C9 (putE S o.dst (Kg S i o)) (i+1) a
theorem Q7Y: ∀(a:List Oper) (S:List Ent) (i k:Nat) (o:Oper),a[k]? =some o->
 C9 S i (a.take (k+1))=putE (C9 S i (a.take k)) o.dst (Kg (C9 S i (a.take k)) (i+k) o)
 | [],_,_,_,_,h=>by simp at h
 | x::a,S,i,0,o,h=>by
  simp only[List.getElem?_cons_zero,Option.some.injEq] at h;subst h
  simp[C9]
 | x::a,S,i,k+1,o,h=>by
  simp only[List.getElem?_cons_succ] at h;have:=Q7Y a (putE S x.dst (Kg S i x)) (i+1) k o h;simp only[List.take_succ_cons,C9];rw[this,show i+1+k=i+(k+1) from by omega]
def Ve (S:List Ent) (D:List Nat):Prop:= ∀e∈S,∀j,e= .ref j->j∈D
theorem Ve.getE {S:List Ent} {D:List Nat} (h:Ve S D) {s j:Nat} (e:Go.Emb.getE S s= .ref j):j∈D:=by
 rw[Ai] at e;cases a:S[s]? with
 | none=>rw[a] at e;cases e
 | some x=>rw[a] at e;exact h x (List.mem_of_getElem? a) j e
theorem Ve.putE {S:List Ent} {D:List Nat} (h:Ve S D) (d:Option Nat) {e:Ent} (c: ∀j,e= .ref j->j∈D):Ve (Go.Emb.putE S d e) D:=by
 cases d with
 | none=>exact h
 | some d=>
  intro x a j b;simp only[Go.Emb.putE,Q4c] at a
  rcases List.mem_or_eq_of_mem_set a with a | rfl
  .exact h x a j b
  .exact c j b
theorem Ve.mono {S:List Ent} {D a:List Nat} (h:Ve S D) (b: ∀j∈D,j∈a):Ve S a:=fun e c j d=>b j (h e c j d)
theorem Ve.entOf {S:List Ent} {D:List Nat} (h:Ve S D) (x:Operand) {j:Nat} (e:Go.Emb.entOf S x= .ref j):j∈D:=by
 cases x with
 | tmp t=>exact h.getE e
 | _=>cases e
theorem X2c {S:List Ent} {D:List Nat} (h:Ve S D) {u a:Nat->Value} (c: ∀j∈D,a j=u j):Qt a S=Qt u S:=by
 unfold Qt;refine List.map_congr_left fun e b=>?_;cases e with
 | val v=>rfl
 | ref j=>exact c j (h _ b j rfl)
theorem Q4X {P:Program} {ops:List Oper} {l l':List Value} {o:Oper} (e:Jz o.op=true) (h: ∀s∈G2 ops o++I5 o,get l s=get l' s):runOp P ops l o=runOp P ops l' o:=by
 funext w K
 unfold runOp
 rw[Cf e fun x f=>by
  cases x with
  | tmp s=>exact h s (List.mem_append_right _ (by simp only[I5,List.mem_filterMap];exact ⟨.tmp s,by simpa using f,rfl⟩))
  | _=>rfl]
 cases a:o.guard with
 | none=>rfl
 | some q=>
  obtain ⟨j,b⟩:=q;simp only;cases c:(ops[j]?).bind (·.dst) with
  | none=>rfl
  | some d=>simp only;rw[h d (List.mem_append_left _ (by simp[G2,a,c]))]
theorem Q6m {P:Program} {ops:List Oper} {l:List Value} {o:Oper} {w:World} {K d:Value->World->Prop} (c: ∀v w,K v w->d v w) (h:runOp P ops l o w K):runOp P ops l o w d:=by
 unfold runOp at*
 split at h
 .exact Xf c h
 .split at h
  .exact Q34 ((Dp h).imp (fun ⟨a,b⟩=>⟨a,Xf c b⟩) (fun ⟨a,b⟩=>⟨a,c _ _ b⟩))
  .exact h.elim
theorem Q5C {P:Program} {ops:List Oper} {L2:List Value->World->Prop} {o:Oper} {a:List Oper} {l:List Value} {w:World}
 (h:runOp P ops l o w (fun v w=>U0 P ops L2 a (put l o.dst v) w)):U0 P ops L2 (o::a) l w:=by
 simp only[U0];unfold runOp at h;cases e:o.guard with
 | none=>simp only[e] at h⊢;exact h
 | some q=>
  obtain ⟨j,b⟩:=q;simp only[e] at h⊢
  split at h
  .rename_i d c
   first | exact h | (simp only[c];exact h) | (rw[c];exact h)
  .exact h.elim
structure Whole (P : Program) (r : Bool) (ops : List Oper) (T : (Nat -> Iv) -> World -> World -> Prop) (B : World -> Prop) (L2 : List Value -> World -> Prop) (tail : List Oper) (Φ : Nat -> (Nat -> Value) -> Iv -> World -> Prop) (S : List Ent) (i : Nat) (rest : List Oper) (D : List Nat) : Prop where
  stable : ∀ k o, rest[k]? = some o -> mv o = none -> ∀ u iv w w', OkI r iv -> Φ (i + k) u (iv (i + k)) w -> T iv w w' -> Φ (i + k) u (iv (i + k)) w'
  loc : ∀ k o, rest[k]? = some o -> mv o = none -> ∀ u u', (∀ r ∈ (i + k) :: refs ops (C9 S i (rest.take k)) o, u r = u' r) -> Φ (i + k) u = Φ (i + k) u'
  run : ∀ k o, rest[k]? = some o -> mv o = none -> Jz o.op = true -> ∀ u iv w, OkI r iv -> B w -> (∀ j ∈ refs ops (C9 S i (rest.take k)) o, Φ j u (iv j) w) ->
    runOp P ops (Qt u (C9 S i (rest.take k))) o w (fun v w' => T iv w w' /\ ∀ u', (∀ r ∈ refs ops (C9 S i (rest.take k)) o, u' r = u r) -> u' (i + k) = v -> Φ (i + k) u' (Si r w, Si r w') w')
  last : ∀ u iv w, OkI r iv -> B w -> (∀ j ∈ D, Φ j u (iv j) w) -> (∀ k o, rest[k]? = some o -> mv o = none -> Φ (i + k) u (iv (i + k)) w) -> U0 P ops L2 tail (Qt u (C9 S i rest)) w
theorem Q2J (P:Program) (r:Bool) (ops:List Oper) (T:(Nat->Iv)->World->World->Prop) (B:World->Prop) (L2:List Value->World->Prop) (tail:List Oper): ∀(l:List Oper) (i:Nat) (S:List Ent) (t:Gm) (done:List Nat),
 Ve S done->(∀j,j∈done->j<i/\ ∃φ,Mx t j=some φ)->(∀j φ,Mx t j=some φ->j<i/\ ∀r∈φ.1,r∈done)->chain P r ops T B L2 tail i l S t done->
 ∃Φ:Nat->(Nat->Value)->Iv->World->Prop,(∀j R φ,Mx t j=some (R,φ)->Φ j=fun u p w=>φ (R.map u) p (u j) w)/\Whole P r ops T B L2 tail Φ S i l done
 | [],i,S,t,done,O,X,N,h=>by
  refine ⟨fun j u p w=>match Mx t j with | some (R,φ)=>φ (R.map u) p (u j) w | none=>True,fun j R φ hj=>by simp[hj],⟨by simp,by simp,by simp,?_⟩⟩
  intro u b w y hB J _;obtain ⟨C,m,d⟩:=Q55 done _ u _ h
  have n:=Q37 (Q8B m y w hB) fun j hj R φ V=>by
   have:=J j hj;simp only[V] at this;rw[(d j).1 hj,show R.map C=R.map u from List.map_congr_left fun r g=>(d r).1 ((N j _ V).2 r g)];exact this
  rw[X2c O fun j hj=>(d j).1 hj,Fm] at n;exact n
 | o::l,i,S,t,done,O,X,N,h=>by
  simp only[chain] at h;cases z:mv o with
  | some x=>
   simp only[z] at h;have f:Kg S i o=entOf S x:=by simp[Kg,z]
   obtain ⟨Φ,m,d⟩:=Q2J P r ops T B L2 tail l (i+1) _ t done (O.putE _ fun j hj=>O.entOf x hj) (fun j hj=>⟨by have:=(X j hj).1;omega,(X j hj).2⟩) (fun j φ hj=>⟨by have:=(N j φ hj).1;omega,(N j φ hj).2⟩) h
   refine ⟨Φ,m,⟨?_,?_,?_,?_⟩⟩
   .intro k q c a
    cases k with
    | zero=>simp only[List.getElem?_cons_zero,Option.some.injEq] at c;subst c;rw[z] at a;cases a
    | succ k=>have:=d.stable k q (by simpa using c) a;rwa [show i+1+k=i+(k+1) from by omega] at this
   .intro k q c a u C Q
    cases k with
    | zero=>simp only[List.getElem?_cons_zero,Option.some.injEq] at c;subst c;rw[z] at a;cases a
    | succ k=>
     simp only[List.take_succ_cons,C9,f] at Q;have:=d.loc k q (by simpa using c) a u C (by rwa [show i+1+k=i+(k+1) from by omega])
     rwa [show i+1+k=i+(k+1) from by omega] at this
   .intro k q c a D u b w y hB g
    cases k with
    | zero=>simp only[List.getElem?_cons_zero,Option.some.injEq] at c;subst c;rw[z] at a;cases a
    | succ k=>
     simp only[List.take_succ_cons,C9,f] at g⊢;have:=d.run k q (by simpa using c) a D u b w y hB g
     rwa [show i+1+k=i+(k+1) from by omega] at this
   .intro u b w y hB J Z
    simp only[C9,f];refine d.last u b w y hB J fun k q c a=>?_;have:=Z (k+1) q (by simpa using c) a
    rwa [show i+(k+1)=i+1+k from by omega] at this
  | none=>
   have h': ∃(R:List Nat) (φ:List Value->Iv->Value->World->Prop),(∀r∈R,r∈refs ops S o)/\(∀xs b,OkI r b->Xy (T b) (φ xs (b i)))/\
    (Om (refs ops S o) (fun _=>undef) fun u=>allI r fun b=> ∀w,B w->Ot t u b w (runOp P ops (Qt u S) o w (fun v w'=>T b w w'/\φ (R.map u) (Si r w,Si r w') v w')) (refs ops S o))/\
    chain P r ops T B L2 tail (i+1) l (putE S o.dst (.ref i)) (t++[(i,R,φ)]) (done++[i]):=by
    cases L:X2B r o with
    | true=>
     cases r with
     | true=>
      simp only[z,L,Q8Z,Q5c] at h;obtain ⟨φ,m,d,n⟩:=h;exact ⟨_,fun xs _=>φ xs,fun _ h=>h,fun xs b e=>m xs b e,d,n⟩
     | false=>
      simp only[z,L,X1i,Q6P] at h;obtain ⟨φ,m,d,n⟩:=h;exact ⟨_,fun xs _=>φ xs,fun _ h=>h,fun xs b e=>by have e:b=_:=e;subst e;exact m xs,d,n⟩
    | false=>
     cases Y:X2A r o with
     | true=>
      simp only[z,L,Y,X1g,Q6O] at h;obtain ⟨φ,m,d,n⟩:=h;cases r with
      | false=>cases Y
      | true=>exact ⟨[],fun _=>φ,by simp,fun _ b e=>m b e,d,n⟩
     | false=>
      cases r with
      | true=>
       simp only[z,L,Y,X1e,Q6N] at h;obtain ⟨φ,m,d,n⟩:=h;exact ⟨[],fun _ _=>φ,by simp,fun _ b e=>m b e,d,n⟩
      | false=>
       simp only[z,L,Y,X3v,Q8Y] at h;obtain ⟨φ,m,d,n⟩:=h;exact ⟨[],fun _ _=>φ,by simp,fun _ b e=>by have e:b=_:=e;subst e;exact m,d,n⟩
   clear h;obtain ⟨R,φ,W,ad,U,h⟩:=h'
   have ac: ∀r∈refs ops S o,r∈done:=fun r g=>by
    obtain ⟨s,_,he⟩:=Pu (Pd g);exact O.entOf (.tmp s) he
   have f:Kg S i o= .ref i:=by simp[Kg,z]
   have A:Mx t i=none:=by
    cases J:Mx t i with
    | none=>rfl
    | some ψ=>have:=(N i ψ J).1;omega
   obtain ⟨Φ,m,d⟩:=Q2J P r ops T B L2 tail l (i+1) _ (t++[(i,R,φ)]) (done++[i])
    ((O.mono fun j hj=>List.mem_append_left _ hj).putE _ fun j hj=>by cases hj;simp)
    (fun j hj=>by
     rcases List.mem_append.1 hj with hj | hj
     .obtain ⟨n,ψ,H⟩:=X j hj
      exact ⟨by omega,ψ,by rw[Q0X Q5];exact H⟩
     .simp at hj;subst hj;exact ⟨by omega,(R,φ),Hv A⟩)
    (fun j ψ hj=>by
     by_cases e:i=j
     .subst e
      rw[Hv A] at hj;cases hj;exact ⟨by omega,fun r g=>List.mem_append_left _ (ac r (W r g))⟩
     .rw[Q0X e] at hj
      obtain ⟨n,H⟩:=N j ψ hj;exact ⟨by omega,fun r g=>List.mem_append_left _ (H r g)⟩) h
   have M:Φ i=fun u p w=>φ (R.map u) p (u i) w:=m i R φ (Hv A);have E: ∀j R' ψ,Mx t j=some (R',ψ)->Φ j=fun u p w=>ψ (R'.map u) p (u j) w:=fun j R' ψ hj=>m j R' ψ (by rw[Q0X (by have:=(N j _ hj).1;omega)];exact hj)
   refine ⟨Φ,E,⟨?_,?_,?_,?_⟩⟩
   .intro k q c a
    cases k with
    | zero=>
     intro u b w w' y ha hT;rw[Nat.add_zero,M] at ha⊢;exact ad _ b y _ _ _ ha hT
    | succ k=>have:=d.stable k q (by simpa using c) a;rwa [show i+1+k=i+(k+1) from by omega] at this
   .intro k q c a u C Q
    cases k with
    | zero=>
     simp only[List.getElem?_cons_zero,Option.some.injEq] at c;subst c;simp only[List.take_zero,C9,Nat.add_zero] at Q;rw[Nat.add_zero,M]
     funext p w
     show φ (R.map u) p (u i) w=φ (R.map C) p (C i) w
     rw[show R.map u=R.map C from List.map_congr_left fun r g=>Q r (List.mem_cons_of_mem _ (W r g)),Q i U5]
    | succ k=>
     simp only[List.take_succ_cons,C9,f] at Q;have:=d.loc k q (by simpa using c) a u C (by rwa [show i+1+k=i+(k+1) from by omega])
     rwa [show i+1+k=i+(k+1) from by omega] at this
   .intro k q c a D u b w y hB g
    cases k with
    | zero=>
     simp only[List.getElem?_cons_zero,Option.some.injEq] at c;subst c;simp only[List.take_zero,C9,Nat.add_zero] at g⊢;obtain ⟨C,n,H⟩:=Q55 _ _ u _ U
     have h5:=Q5g (Q8B n y w hB) fun j hj ψ hψ=>by
      have h6:=g j hj;rw[E j [] ψ hψ] at h6;rw[(H j).1 hj];exact h6
     rw[Q4X D (l':=Qt u S)] at h5
     .refine Q6m ?_ h5
      rintro v w' ⟨hT,hf⟩;refine ⟨hT,fun u2 ae hi=>?_⟩;rw[M]
      show φ (R.map u2) (Si r w,Si r w') (u2 i) w'
      rw[hi,show R.map u2=R.map C from List.map_congr_left fun r g=>by rw[ae r (W r g),(H r).1 (W r g)]]
      exact hf
     .intro s L
      rw[Q0v,Q0v];cases he:getE S s with
      | val v=>rfl
      | ref j=>exact (H j).1 (Q7L (Q7M L he))
    | succ k=>
     simp only[List.take_succ_cons,C9,f] at g⊢;have:=d.run k q (by simpa using c) a D u b w y hB g
     rwa [show i+1+k=i+(k+1) from by omega] at this
   .intro u b w y hB J Z
    simp only[C9,f];refine d.last u b w y hB (fun j hj=>?_) fun k q c a=>?_
    .rcases List.mem_append.1 hj with hj | hj
     .exact J j hj
     .simp at hj;subst hj
      have:=Z 0 o U5 z
      simpa using this
    .have:=Z (k+1) q (by simpa using c) a
     rwa [show i+(k+1)=i+1+k from by omega] at this
def Zs (os:List Oper) (S0:List Ent) (q:Nat):Ent:=
 match os[q]? with
 | some o=>Kg (C9 S0 0 (os.take q)) q o
 | none=> .val undef
theorem X1M {os:List Oper} {S0:List Ent} {q:Nat} {o:Oper} (h:os[q]? =some o):C9 S0 0 (os.take (q+1))=putE (C9 S0 0 (os.take q)) o.dst (Zs os S0 q):=by
 rw[Q7Y os S0 0 q o h]
 simp[Zs,h]
theorem X0M (S:List Ent) (d:Option Nat) (e:Ent):(putE S d e).length=S.length:=by
 cases d with
 | none=>rfl
 | some d=>simp[putE,Q4c]
theorem Q1y (os:List Oper) (S0:List Ent): ∀q,q<=os.length->(C9 S0 0 (os.take q)).length=S0.length
 | 0,_=>by simp[C9]
 | q+1,h=>by rw[X1M (List.getElem?_eq_getElem Q5),X0M,Q1y os S0 q Q5]
theorem Ko {os:List Oper} {S0:List Ent} (u:Jx (G6 os)=true) (t: ∀d∈G6 os,d<S0.length): ∀q,q<=os.length->
 (∀p,p<q-> ∀o d,os[p]? =some o->o.dst=some d->(C9 S0 0 (os.take q))[d]? =some (Zs os S0 p))/\
  (∀s,(∀p,p<q-> ∀o,os[p]? =some o->o.dst≠some s)->(C9 S0 0 (os.take q))[s]? =S0[s]?)
 | 0,_=>⟨fun p k=>absurd k Q5,fun s _=>by simp[C9]⟩
 | q+1,h=>by
  obtain ⟨n,r⟩:=Ko u t q Q5;have j:os[q]? =some os[q]:=List.getElem?_eq_getElem Q5;have i:=Q1y os S0 q Q5;rw[X1M j];cases a:os[q].dst with
  | none=>
   refine ⟨fun p k o d c b=>?_,fun s l=>r s fun p k=>l p Q5⟩
   by_cases e:p=q
   .subst e;rw[j] at c;cases c;rw[a] at b;cases b
   .exact n p Q5 o d c b
  | some g=>
   have m:g<S0.length:=t g (by simp only[G6,List.mem_filterMap];exact ⟨os[q],List.getElem_mem _,a⟩)
   simp only[putE,Q4c];refine ⟨fun p k o d c b=>?_,fun s l=>?_⟩
   .by_cases e:p=q
    .subst e;rw[j] at c;cases c;rw[a] at b;cases b
     rw[List.getElem?_set_self (by rw[i];exact m)]
    .have f:g≠d:=by
      rintro rfl;exact e (Un os u p q o os[q] g c j b a)
     rw[List.getElem?_set_ne f];exact n p Q5 o d c b
   .have f:g≠s:=fun e=>l q Q5 os[q] j (by rw[a,e])
    rw[List.getElem?_set_ne f];exact r s fun p k=>l p Q5
def Hp (os:List Oper) (p:Nat):Bool:=
 match os[p]? with
 | some o=>match mv o with
  | some (.tmp s)=> !(G6 os).contains s
  | some _=>true
  | none=>false
 | none=>false
theorem X8i {P:Program} {o:Oper} {x:Operand} (h:mv o=some x) (l:List Value) (w:World) (K:Value->World->Prop):o.guard=none/\O8 P l o w K=K (ev l x) w:=by
 unfold mv at h
 split at h
 .cases h
 .rename_i b
  refine ⟨b,?_⟩
  split at h
  .rename_i y a;cases h;simp only[O8,a]
  .rename_i y a;cases h;simp only[O8,a]
  .cases h
theorem X0u {P:Program} {ops:List Oper} {L2:List Value->World->Prop} {o:Oper} {c a:List Oper} {l l':List Value} {w:World} (p:Jz o.op=true) (n: ∀s∈G2 ops o++I5 o,get l' s=get l s)
 (f: ∀v w,U0 P ops L2 c (put l o.dst v) w->U0 P ops L2 a (put l' o.dst v) w) (h:U0 P ops L2 (o::c) l w):U0 P ops L2 (o::a) l' w:=by
 have m:O8 P l' o=O8 P l o:=Cf p fun x r=>by
  cases x with
  | tmp s=>exact n s (List.mem_append_right _ (by simp only[I5,List.mem_filterMap];exact ⟨.tmp s,by simpa using r,rfl⟩))
  | _=>rfl
 simp only[U0] at h⊢;cases e:o.guard with
 | none=>simp only[e] at h⊢;rw[m];exact Xf f h
 | some q=>
  obtain ⟨j,b⟩:=q;simp only[e] at h⊢;cases k:(ops[j]?).bind (·.dst) with
  | none=>simp only[k] at h⊢;exact f _ _ h
  | some d=>
   simp only[k] at h⊢;rw[n d (List.mem_append_left _ (by simp[G2,e,k])),m]
   exact Q34 ((Dp h).imp (fun ⟨g,i⟩=>⟨g,Xf f i⟩) (fun ⟨g,i⟩=>⟨g,f _ _ i⟩))
structure At (os : List Oper) (l0 : List Value) (pre : List Nat) (l : List Value) (u : Nat -> Value) : Prop where
  len : l.length = l0.length
  done : ∀ p ∈ pre, ∀ o d, os[p]? = some o -> o.dst = some d -> l[d]? = some ((Zs os (l0.map .val) p).at u)
  rest : ∀ s, (∀ p ∈ pre, ∀ o, os[p]? = some o -> o.dst ≠ some s) -> l[s]? = l0[s]?
  refs : ∀ p ∈ pre, ∀ r, Zs os (l0.map .val) p = .ref r -> r ∈ pre /\ ∃ o, os[r]? = some o /\ mv o = none
theorem X9t {P:Program} {r0:Bool} {ops os:List Oper} {T:(Nat->Iv)->World->World->Prop} {B:World->Prop} {L2:List Value->World->Prop} {m:Nat} {C:List Value} {Φ:Nat->(Nat->Value)->Iv->World->Prop}
 (bit:Nat->Nat->Bool) (bz: ∀o∈os,Jz o.op=true) (hn:Jx (G6 os)=true) (hd: ∀d∈G6 os,d<C.length)
 (ae: ∀p q a b,p<q->os[p]? =some a->os[q]? =some b->(Zi a b||Zi b a)=true->bit p q=true)
 (hg: ∀q o j b,os[q]? =some o->o.guard=some (j,b)-> ∃p,p<q/\os[p]? =ops[j]? /\bit p q=true)
 (hm:m<=os.length) (an: ∀q,m<=q->q<os.length-> ∀p,p<q->bit p q=true\/(p<m/\Hp os p=true))
 (hT: ∀iv w w',B w->T iv w w'->B w') (hM: ∀iv w w',T iv w w'->Si r0 w<=Si r0 w') (hW:Whole P r0 ops T B L2 (os.drop m) Φ (C.map .val) 0 (os.take m) [])
 (L:List Nat) (H:L.Nodup) (bo:L.length=os.length) (ac: ∀q∈L,q<os.length)
 (hC: ∀c q f,L=c++q::f-> ∀p,bit p q=true->p<os.length->p∈c):
 ∀(f c:List Nat),L=c++f->(∀q∈c,q<m)-> ∀(l:List Value) (u:Nat->Value) (iv:Nat->Iv) (w:World),Kz r0 iv w->At os C c l u->B w->
  (∀r∈c,∀o,os[r]? =some o->mv o=none->Φ r u (iv r) w/\ ∀j∈refs ops (C9 (C.map .val) 0 (os.take r)) o,j∈c)->U0 P ops L2 (f.filterMap (os[·]?)) l w:=by
 have a8: ∀d∈G6 os,d<(C.map Ent.val).length:=by simpa using hd
 have a4: ∀q,q<=m->(os.take m).take q=os.take q:=fun q hq=>by rw[List.take_take,Nat.min_eq_left hq]
 have X: ∀q,q<m->(os.take m)[q]? =os[q]? :=fun q hq=>by rw[List.getElem?_take_of_lt hq]
 -- when all of the first part is done
 have cq: ∀(c f:List Nat),L=c++f->(∀q∈c,q<m)->(∀q,q<m->q∈c)-> ∀l u iv w,Kz r0 iv w->At os C c l u->B w->
  (∀r∈c,∀o,os[r]? =some o->mv o=none->Φ r u (iv r) w/\ ∀j∈refs ops (C9 (C.map .val) 0 (os.take r)) o,j∈c)->U0 P ops L2 (f.filterMap (os[·]?)) l w:=by
  intro c f E D ao l u iv w hI hA hB hΦ
  have cf: ∀(f c:List Nat),L=c++f->m<=c.length->(∀q,q∈c↔q<c.length)->f.filterMap (os[·]?)=os.drop c.length:=by
   intro f
   induction f with
   | nil=>
    intro c E _ _;rw[List.append_nil] at E;rw[<-E,bo];simp
   | cons q f ih=>
    intro c E da ax
    have cy:q∉c:=by
     rw[E] at H;intro h;exact (List.nodup_append.1 H).2.2 q h q U5 rfl
    have cv:c.length<=q:=Nat.le_of_not_lt fun h=>cy ((ax q).2 h);have V:=ac q (by rw[E];simp)
    have cw:q=c.length:=by
     refine Nat.le_antisymm (Nat.le_of_not_lt fun h=>?_) cv;have:=hC c q f E c.length ((an q Q5 V _ h).resolve_right Q5) Q5;have:=(ax _).1 this;omega
    subst cw;rw[List.filterMap_cons,List.getElem?_eq_getElem V];simp only;rw[ih (c++[c.length]) (by rw[E];simp) (by simp;omega) (by intro x;simp only[List.mem_append,ax,List.mem_singleton,List.length_append,List.length_cons,List.length_nil];omega)]
    simp only[List.length_append,List.length_cons,List.length_nil];rw[<-List.drop_eq_getElem_cons V]
  have bk:c.length=m:=by
   have J:=K5 m c (by rw[E] at H;exact (List.nodup_append.1 H).1) D
   have R:=Ov m c ao;omega
  have J:=cf f c E Q5 (fun q=>by rw[bk];exact ⟨D q,ao q⟩)
  rw[J,bk]
  have R:=hW.last u iv w hI.1 hB U5 fun k o hk t=>by
   have az:k<m:=by
    have:=(List.getElem?_eq_some_iff.1 hk).1
    simp at this;omega
   rw[Nat.zero_add];rw[X k az] at hk;exact (hΦ k (ao k az) o hk t).1
  have h3:l=Qt u (C9 (C.map .val) 0 (os.take m)):=by
   obtain ⟨g1,g2⟩:=Ko hn a8 m hm;apply List.ext_getElem?;intro s;rw[Qt,List.getElem?_map]
   by_cases hs: ∃p,p<m/\ ∃o,os[p]? =some o/\o.dst=some s
   .obtain ⟨p,hp,o,i,z⟩:=hs
    rw[hA.done p (ao p hp) o s i z,g1 p hp o s i z];rfl
   .have af: ∀p,p<m-> ∀o,os[p]? =some o->o.dst≠some s:=fun p hp o i z=>hs ⟨p,hp,o,i,z⟩
    rw[hA.rest s (fun p hp=>af p (D p hp)),g2 s af,List.getElem?_map];cases C[s]? <;>rfl
  rw[h3];exact R
 -- moves that come late, among the tail
 have cj: ∀(f c:List Nat) (k:Nat),L=c++f->m<=k->k<=os.length->(∀q,m<=q->(q∈c↔q<k))->(∀p∈f,p<m->Hp os p=true)->
  ∀(l lf:List Value) (w:World),l.length=C.length->lf.length=C.length->(∀s,(∀p∈f,p<m-> ∀o,os[p]? =some o->o.dst≠some s)->l[s]? =lf[s]?)->
   (∀p∈f,p<m-> ∀o d x,os[p]? =some o->mv o=some x->o.dst=some d->lf[d]? =some (ev C x))->(∀s,(G6 os).contains s=false->l[s]? =C[s]?)->
   U0 P ops L2 (os.drop k) lf w->U0 P ops L2 (f.filterMap (os[·]?)) l w:=by
  intro f
  induction f with
  | nil=>
   intro c k E bb bu ad _ l lf w hl ba ap _ _ h;rw[List.append_nil] at E
   have hk:k=os.length:=by
    refine Nat.le_antisymm bu (Nat.le_of_not_lt fun D=>?_);have cu:k∉c:=fun e=>by have:=(ad k bb).1 e;omega
    have J:=K5 os.length (k::c) (List.nodup_cons.2 ⟨cu,E▸H⟩) (fun x hx=>by
     rcases List.mem_cons.1 hx with rfl | hx
     .exact D
     .exact ac x (by rw[E];exact hx))
    simp at J
    rw[E] at bo;omega
   have:l=lf:=List.ext_getElem? fun s=>ap s U5;rw[this];rw[hk,List.drop_length] at h;exact h
  | cons q f ih=>
   intro c k E bb bu ad al l lf w hl ba ap a5 aa h
   have O:q∉c:=by
    rw[E] at H;intro h;exact (List.nodup_append.1 H).2.2 q h q U5 rfl
   have cp:q∉f:=by
    rw[E] at H;exact (List.nodup_cons.1 (List.nodup_append.1 H).2.1).1
   have V:=ac q (by rw[E];simp)
   have A:os[q]? =some os[q]:=List.getElem?_eq_getElem V;have b7:L=(c++[q])++f:=by rw[E];simp
   rw[List.filterMap_cons,A];simp only
   by_cases Z:q<m
   ·-- a late move
    have D:=al q U5 Z;unfold Hp at D;rw[A] at D;simp only at D;cases t:mv os[q] with
    | none=>rw[t] at D;cases D
    | some x=>
     rw[t] at D
     have hx:ev l x=ev C x:=by
      cases x with
      | tmp s=>
       simp only[Bool.not_eq_true'] at D;simp only[ev,get,List.getD_eq_getElem?_getD,aa s D]
      | _=>rfl
     obtain ⟨a9,aw⟩:=X8i (P:=P) t l w (fun v w=>U0 P ops L2 (f.filterMap (os[·]?)) (put l os[q].dst v) w);simp only[U0,a9];rw[aw,hx];refine ih (c++[q]) k b7 bb bu (fun q' a1=>?_) (fun p hp=>al p (by simp[hp])) _ lf w ?_ ba (fun s hs=>?_) (fun p hp=>a5 p (by simp[hp])) (fun s hs=>?_) h
     .rw[<-ad q' a1];simp only[List.mem_append,List.mem_singleton]
      exact ⟨fun e=>e.resolve_right Q5, .inl⟩
     .cases g:os[q].dst<;>simp[put,hl]
     .cases g:os[q].dst with
      | none=>
       refine ap s fun p hp M o i=>?_
       rcases List.mem_cons.1 hp with rfl | hp
       .rw[A] at i;cases i;rw[g];simp
       .exact hs p hp M o i
      | some d=>
       have aq:d<C.length:=hd d (by simp only[G6,List.mem_filterMap];exact ⟨os[q],List.getElem_mem _,g⟩)
       simp only[put]
       by_cases e:d=s
       .subst e
        rw[List.getElem?_set_self (by rw[hl];exact aq)]
        exact (a5 q U5 Z os[q] d x A t g).symm
       .rw[List.getElem?_set_ne e]
        refine ap s fun p hp M o i=>?_
        rcases List.mem_cons.1 hp with rfl | hp
        .rw[A] at i;cases i;rw[g];simpa using e
        .exact hs p hp M o i
     .cases g:os[q].dst with
      | none=>exact aa s hs
      | some d=>
       have ai:(G6 os).contains d=true:=by
        rw[List.contains_iff_mem];simp only[G6,List.mem_filterMap];exact ⟨os[q],List.getElem_mem _,g⟩
       simp only[put];rw[List.getElem?_set_ne (by rintro rfl;rw[hs] at ai;cases ai)]
       exact aa s hs
   .have Z:m<=q:=by omega
    have cx:q=k:=by
     have J:k<=q:=Nat.le_of_not_lt fun e=>O ((ad q Z).2 e);refine Nat.le_antisymm (Nat.le_of_not_lt fun e=>?_) J;have:=hC c q f E k ((an q Z V k e).resolve_right Q5) Q5;have:=(ad k bb).1 this;omega
    subst cx;rw[List.drop_eq_getElem_cons V] at h
    have cb: ∀p∈f,p<m->bit p q=true->False:=fun p hp M hb=>by
     have:=hC c q f E p hb Q5;rw[E] at H;exact (List.nodup_append.1 H).2.2 p this p (by simp[hp]) rfl
    refine X0u (bz _ (List.getElem_mem _)) (fun s hs=>?_) (fun v w' hv=>?_) h
    .have:l[s]? =lf[s]? :=ap s fun p hp M o i z=>by
      rcases List.mem_cons.1 hp with rfl | hp
      .omega
      refine cb p hp M ?_
      rcases List.mem_append.1 hs with hs | hs
      .unfold G2 at hs
       split at hs
       .simp at hs
       .rename_i j b br
        split at hs
        .rename_i d bq
         simp only[List.mem_singleton] at hs;subst hs;obtain ⟨p',av,bx,hb⟩:=hg q os[q] j b A br;obtain ⟨o',bw,cc⟩:=Option.bind_eq_some_iff.1 bq;have:=Un os hn p' p o' o s (by rw[bx,bw]) i cc z
         subst this;exact hb
        .simp at hs
      .exact ae p q o os[q] Q5 i A (by simp only[Zi,z,Bool.or_eq_true];left;left;simpa using hs)
     simp only[get,List.getD_eq_getElem?_getD,this]
    .refine ih (c++[q]) (q+1) b7 Q5 Q5 (fun q' a1=>?_) (fun p hp=>al p (by simp[hp])) _ _ w' ?_ ?_ (fun s hs=>?_) (fun p hp M o d x i bc z=>?_) (fun s hs=>?_) hv
     .simp only[List.mem_append,List.mem_singleton,ad q' a1];omega
     .cases g:os[q].dst<;>simp[put,hl]
     .cases g:os[q].dst<;>simp[put,ba]
     .have hb:l[s]? =lf[s]? \/os[q].dst=some s:=by
       left;refine ap s fun p hp M o i=>?_
       rcases List.mem_cons.1 hp with rfl | hp
       .omega
       .exact hs p hp M o i
      cases g:os[q].dst with
      | none=>
       rcases hb with hb | hb
       .exact hb
       .rw[g] at hb;cases hb
      | some d=>
       simp only[put]
       by_cases e:d=s
       .subst e
        have aq:d<C.length:=hd d (by simp only[G6,List.mem_filterMap];exact ⟨os[q],List.getElem_mem _,g⟩)
        rw[List.getElem?_set_self (by rw[hl];exact aq),List.getElem?_set_self (by rw[ba];exact aq)]
       .rw[List.getElem?_set_ne e,List.getElem?_set_ne e]
        rcases hb with hb | hb
        .exact hb
        .rw[g] at hb;cases hb;exact absurd rfl e
     .have cg:=a5 p (by simp[hp]) M o d x i bc z
      cases g:os[q].dst with
      | none=>exact cg
      | some d'=>
       have Y:d'≠d:=by
        rintro rfl;have:=Un os hn p q o os[q] d' i A z g;omega
       simp only[put];rw[List.getElem?_set_ne Y];exact cg
     .cases g:os[q].dst with
      | none=>exact aa s hs
      | some d=>
       have ai:(G6 os).contains d=true:=by
        rw[List.contains_iff_mem];simp only[G6,List.mem_filterMap];exact ⟨os[q],List.getElem_mem _,g⟩
       simp only[put];rw[List.getElem?_set_ne (by rintro rfl;rw[hs] at ai;cases ai)]
       exact aa s hs
 intro f
 induction f with
 | nil=>
  intro c E D l u iv w hI hA hB hΦ;refine cq c [] E D ?_ l u iv w hI hA hB hΦ;intro q hq;rw[List.append_nil] at E;refine Classical.byContradiction fun a0=>?_
  have J:=K5 os.length (q::c) (List.nodup_cons.2 ⟨a0,E▸H⟩) (fun k hk=>by
   rcases List.mem_cons.1 hk with rfl | hk
   .omega
   .exact ac k (by rw[E];exact hk))
  simp at J
  rw[E] at bo;omega
 | cons q f ih=>
  intro c E D l u iv w hI hA hB hΦ
  have O:q∉c:=by
   rw[E] at H;intro h;exact (List.nodup_append.1 H).2.2 q h q U5 rfl
  have V:=ac q (by rw[E];simp)
  by_cases Z:m<=q
  ·-- the tail begins
   have am: ∀p,p<m->p∉c->Hp os p=true:=fun p hp bv=>by
    rcases an q Z V p Q5 with h | h
    .exact absurd (hC c q f E p h Q5) bv
    .exact h.2
   have bg: ∀p,Hp os p=true-> ∀o,os[p]? =some o-> ∃x,mv o=some x/\ ∀s,x= .tmp s->(G6 os).contains s=false:=by
    intro p hp o i;unfold Hp at hp;rw[i] at hp;simp only at hp;cases N:mv o with
    | none=>rw[N] at hp;cases hp
    | some x=>
     refine ⟨x,rfl,fun s hs=>?_⟩;subst hs;rw[N] at hp;simpa using hp
   obtain ⟨g1,g2⟩:=Ko hn a8 m hm
   have bj: ∀s,(G6 os).contains s=false-> ∀(p:Nat) o,os[p]? =some o->o.dst≠some s:=by
    intro s hs p o i z
    have:(G6 os).contains s=true:=by
     rw[List.contains_iff_mem];simp only[G6,List.mem_filterMap];exact ⟨o,List.mem_of_getElem? i,z⟩
    rw[hs] at this;cases this
   refine cj (q::f) c m E (Nat.le_refl _) hm (fun q' a1=>⟨fun e=>D q' e,fun e=>absurd a1 Q5⟩) (fun p hp M=>am p M fun e=>by
    rw[E] at H;exact (List.nodup_append.1 H).2.2 p e p hp rfl) l (Qt u (C9 (C.map .val) 0 (os.take m))) w hA.len (by simp[Qt,Q1y os _ m hm]) (fun s hs=>?_) (fun p hp M o d x i bc z=>?_) (fun s hs=>?_) ?_
   .rw[Qt,List.getElem?_map]
    by_cases ar: ∃p,p<m/\ ∃o,os[p]? =some o/\o.dst=some s
    .obtain ⟨p,hp,o,i,z⟩:=ar
     by_cases U:p∈c
     .rw[hA.done p U o s i z,g1 p hp o s i z];rfl
     .exfalso
      have cd:p∈L:=by
       refine Classical.byContradiction fun a0=>?_
       have J:=K5 os.length (p::L) (List.nodup_cons.2 ⟨a0,H⟩) (fun k hk=>by
        rcases List.mem_cons.1 hk with rfl | hk
        .omega
        .exact ac k hk)
       simp at J;omega
      rw[E] at cd
      rcases List.mem_append.1 cd with h | h
      .exact U h
      .exact hs p h hp o i z
    .have af: ∀p,p<m-> ∀o,os[p]? =some o->o.dst≠some s:=fun p hp o i z=>ar ⟨p,hp,o,i,z⟩
     rw[hA.rest s (fun p hp=>af p (D p hp)),g2 s af,List.getElem?_map];cases C[s]? <;>rfl
   .have U:p∉c:=fun e=>by
     rw[E] at H;exact (List.nodup_append.1 H).2.2 p e p hp rfl
    rw[Qt,List.getElem?_map,g1 p M o d i z];simp only[Option.map_some,Option.some.injEq];have W:Zs os (C.map .val) p=entOf (C9 (C.map .val) 0 (os.take p)) x:=by simp[Zs,i,Kg,bc]
    rw[W];obtain ⟨x',ch,c1⟩:=bg p (am p M U) o i;rw[bc] at ch;cases ch;cases x with
    | tmp s=>
     have hs:=c1 s rfl;obtain ⟨_,k2⟩:=Ko (S0:=C.map .val) hn a8 p Q5;simp only[entOf];rw[Ai,k2 s (fun p' _ o' bw=>bj s hs p' o' bw),List.getElem?_map];simp only[ev,get,List.getD_eq_getElem?_getD];cases C[s]? <;>rfl
    | _=>rfl
   .exact hA.rest s fun p _ o i=>bj s hs p o i
   .refine hW.last u iv w hI.1 hB U5 fun k o hk t=>?_
    have az:k<m:=by
     have:=(List.getElem?_eq_some_iff.1 hk).1
     simp at this;omega
    rw[Nat.zero_add];rw[X k az] at hk;refine (hΦ k (Classical.byContradiction fun bv=>?_) o hk t).1;obtain ⟨x,hx,_⟩:=bg k (am k az bv) o hk;rw[t] at hx;cases hx
  .have Z:q<m:=by omega
   have A:os[q]? =some os[q]:=List.getElem?_eq_getElem V;obtain ⟨g1,g2⟩:=Ko (S0:=C.map .val) hn a8 q Q5
   -- what a slot holds that this operation reads
   have ag: ∀s,(∃p o,os[p]? =some o/\o.dst=some s/\p<q/\bit p q=true)\/s∈I5 os[q]->
    get l s=(getE (C9 (C.map .val) 0 (os.take q)) s).at u/\ ∀r,getE (C9 (C.map .val) 0 (os.take q)) s= .ref r->r∈c/\ ∃o,os[r]? =some o/\mv o=none:=by
    intro s hs
    have af:(∀p∈c,∀o,os[p]? =some o->o.dst≠some s)->(∀p,p<q-> ∀o,os[p]? =some o->o.dst≠some s)->
     get l s=(getE (C9 (C.map .val) 0 (os.take q)) s).at u/\ ∀r,getE (C9 (C.map .val) 0 (os.take q)) s= .ref r->r∈c/\ ∃o,os[r]? =some o/\mv o=none:=by
     intro J R;rw[Ai,g2 s R,List.getElem?_map];simp only[get,List.getD_eq_getElem?_getD,hA.rest s J];cases C[s]? with
     | none=>exact ⟨rfl,fun r hr=>by cases hr⟩
     | some v=>exact ⟨rfl,fun r hr=>by cases hr⟩
    have bm: ∀p o,os[p]? =some o->o.dst=some s->p<q->p∈c->
     get l s=(getE (C9 (C.map .val) 0 (os.take q)) s).at u/\ ∀r,getE (C9 (C.map .val) 0 (os.take q)) s= .ref r->r∈c/\ ∃o,os[r]? =some o/\mv o=none:=by
     intro p o hp i av U;rw[Ai,g1 p av o s hp i];simp only[get,List.getD_eq_getElem?_getD,hA.done p U o s hp i,Option.getD_some]
     first | exact ⟨rfl,hA.refs p U⟩ | exact ⟨trivial,hA.refs p U⟩
    rcases hs with ⟨p,o,hp,i,av,hb⟩ | hs
    .exact bm p o hp i av (hC c q f E p hb Q5)
    .by_cases ar: ∃(p:Nat) (o:Oper),os[p]? =some o/\o.dst=some s
     .obtain ⟨p,o,hp,i⟩:=ar
      have c5:=(List.getElem?_eq_some_iff.1 hp).1;have aa: ∀p' o',os[p']? =some o'->o'.dst=some s->p'=p:=fun p' o' J R=>Un os hn p' p o' o s J hp R i
      rcases Nat.lt_trichotomy p q with h | h | h
      .have hb:=ae p q o os[q] h hp A (by simp only[Zi,i,Bool.or_eq_true];left;left;simpa using hs)
       exact bm p o hp i h (hC c q f E p hb Q5)
      .subst h
       exact af (fun p' aj o' J R=>by rw[aa p' o' J R] at aj;exact O aj) (fun p' aj o' J R=>by rw[aa p' o' J R] at aj;omega)
      .refine af (fun p' aj o' J R=>?_) (fun p' aj o' J R=>by rw[aa p' o' J R] at aj;omega)
       have e:=aa p' o' J R;subst e;have hb:=ae q p' os[q] o' h A J (by simp only[Zi,R,Bool.or_eq_true];right;left;simpa using hs)
       obtain ⟨p1,p2,U⟩:=List.append_of_mem aj;have:=hC p1 p' (p2++q::f) (by rw[E,U];simp) q hb V
       exact O (by rw[U];exact List.mem_append_left _ this)
     .exact af (fun p _ o J R=>ar ⟨p,o,J,R⟩) (fun p _ o J R=>ar ⟨p,o,J,R⟩)
   have bs: ∀s∈G2 ops os[q]++I5 os[q],(∃p o,os[p]? =some o/\o.dst=some s/\p<q/\bit p q=true)\/s∈I5 os[q]:=by
    intro s hs
    rcases List.mem_append.1 hs with hs | hs
    .left
     unfold G2 at hs
     split at hs
     .simp at hs
     .rename_i j b br
      split at hs
      .rename_i d bq
       simp only[List.mem_singleton] at hs;subst hs;obtain ⟨p,av,bx,hb⟩:=hg q os[q] j b A br;obtain ⟨o,i,z⟩:=Option.bind_eq_some_iff.1 bq;exact ⟨p,o,by rw[bx,i],z,av,hb⟩
      .simp at hs
    .exact .inr hs
   have a3:=X q Z;rw[A] at a3;rw[List.filterMap_cons,A];simp only
   -- the state behind it
   have step: ∀(v:Value) (u':Nat->Value) (be:Nat->Iv) (w':World),Kz r0 be w'->(∀p∈c,(Zs os (C.map .val) p).at u'=(Zs os (C.map .val) p).at u)->v=(Zs os (C.map .val) q).at u'->
    (∀r,Zs os (C.map .val) q= .ref r->r∈q::c/\ ∃o,os[r]? =some o/\mv o=none)->B w'->(∀r∈q::c,∀o,os[r]? =some o->mv o=none->Φ r u' (be r) w'/\ ∀j∈refs ops (C9 (C.map .val) 0 (os.take r)) o,j∈q::c)->
    U0 P ops L2 (f.filterMap (os[·]?)) (put l os[q].dst v) w':=by
    intro v u' be w' ct hu hv hr cs ci;have Q: ∀x,x∈c++[q]↔x∈q::c:=by intro x;simp[or_comm]
    refine ih (c++[q]) (by rw[E];simp) (fun x hx=>by rcases List.mem_cons.1 ((Q x).1 hx) with rfl | hx;exact Z;exact D x hx) _ u' be w' ct ?_ cs (fun r hr o i N=>⟨(ci r ((Q r).1 hr) o i N).1,fun j hj=>(Q j).2 ((ci r ((Q r).1 hr) o i N).2 j hj)⟩)
    have a2: ∀p∈c++[q],∀r,Zs os (C.map .val) p= .ref r->r∈c++[q]/\ ∃o,os[r]? =some o/\mv o=none:=by
     intro p hp r b0
     rcases List.mem_cons.1 ((Q p).1 hp) with rfl | hp
     .exact ⟨(Q r).2 (hr r b0).1,(hr r b0).2⟩
     .obtain ⟨J,R⟩:=hA.refs p hp r b0
      exact ⟨List.mem_append_left _ J,R⟩
    cases g:os[q].dst with
    | none=>
     refine ⟨hA.len,?_,?_,a2⟩
     .intro p hp o d i z
      rcases List.mem_cons.1 ((Q p).1 hp) with rfl | hp
      .rw[A] at i;cases i;rw[g] at z;cases z
      .rw[hu p hp];exact hA.done p hp o d i z
     .intro s hs;exact hA.rest s fun p hp=>hs p (List.mem_append_left _ hp)
    | some d0=>
     have aq:d0<C.length:=hd d0 (by simp only[G6,List.mem_filterMap];exact ⟨os[q],List.getElem_mem _,g⟩)
     refine ⟨by simp[put,hA.len],?_,?_,a2⟩
     .intro p hp o d i z
      rcases List.mem_cons.1 ((Q p).1 hp) with rfl | hp2
      .rw[A] at i;cases i
       rw[g] at z;cases z;simp only[put];rw[List.getElem?_set_self (by rw[hA.len];exact aq),hv]
      .have Y:d0≠d:=by
        rintro rfl;have:=Un os hn p q o os[q] d0 i A z g;subst this;exact O hp2
       simp only[put];rw[List.getElem?_set_ne Y,hu p hp2];exact hA.done p hp2 o d i z
     .intro s hs
      have Y:d0≠s:=fun e=>hs q U5 os[q] A (by rw[g,e])
      simp only[put];rw[List.getElem?_set_ne Y];exact hA.rest s fun p hp=>hs p (List.mem_append_left _ hp)
   cases t:mv os[q] with
   | some x=>
    have W:Zs os (C.map .val) q=entOf (C9 (C.map .val) 0 (os.take q)) x:=by simp[Zs,A,Kg,t]
    -- a move: what the operand holds
    have hx:ev l x=(entOf (C9 (C.map .val) 0 (os.take q)) x).at u/\ ∀r,entOf (C9 (C.map .val) 0 (os.take q)) x= .ref r->r∈c/\ ∃o,os[r]? =some o/\mv o=none:=by
     cases x with
     | tmp s=>
      have hs:s∈I5 os[q]:=by
       unfold mv at t
       split at t
       .cases t
       .simp only[I5,List.mem_filterMap]
        split at t
        .rename_i y hy;cases t;exact ⟨.tmp s,by rw[hy];simp[Op.operands],rfl⟩
        .rename_i y hy;cases t;exact ⟨.tmp s,by rw[hy];simp[Op.operands],rfl⟩
        .cases t
      exact ag s (.inr hs)
     | _=>exact ⟨rfl,fun r hr=>by cases hr⟩
    have a9:os[q].guard=none:=by
     unfold mv at t
     split at t
     .cases t
     .assumption
    simp only[U0,a9]
    have aw:O8 P l os[q] w (fun v w=>U0 P ops L2 (f.filterMap (os[·]?)) (put l os[q].dst v) w)=U0 P ops L2 (f.filterMap (os[·]?)) (put l os[q].dst (ev l x)) w:=by
     unfold mv at t;rw[a9] at t;simp only at t
     split at t
     .rename_i y hy;cases t;simp only[O8,hy]
     .rename_i y hy;cases t;simp only[O8,hy]
     .cases t
    rw[aw]
    refine step _ u iv w hI (fun _ _=>rfl) (by rw[W];exact hx.1) (fun r hr=>by
     rw[W] at hr;obtain ⟨J,R⟩:=hx.2 r hr;exact ⟨List.mem_cons_of_mem _ J,R⟩) hB (fun r hr o i N=>by
     rcases List.mem_cons.1 hr with rfl | hr
     .rw[A] at i;cases i;rw[t] at N;cases N
     .exact ⟨(hΦ r hr o i N).1,fun j hj=>List.mem_cons_of_mem _ ((hΦ r hr o i N).2 j hj)⟩)
   | none=>
    have W:Zs os (C.map .val) q= .ref q:=by simp[Zs,A,Kg,t]
    have bl:=hW.run q os[q] a3 t (bz _ (List.getElem_mem _)) u iv w hI.1 hB;rw[a4 q Q5,Nat.zero_add] at bl;have cz:=hW.stable
    have b1:=bl (fun j hj=>by
     obtain ⟨s,hs,he⟩:=Pu (Pd hj);obtain ⟨J,o,R,h3⟩:=(ag s (bs s hs)).2 j he;exact (hΦ j J o R h3).1)
    have ca: ∀j∈refs ops (C9 (C.map .val) 0 (os.take q)) os[q],j∈c:=fun j hj=>by
     obtain ⟨s,hs,he⟩:=Pu (Pd hj);exact ((ag s (bs s hs)).2 j he).1
    refine Q5C ?_;rw[Q4X (bz _ (List.getElem_mem _)) (l':=Qt u (C9 (C.map .val) 0 (os.take q))) (fun s hs=>by rw[Q0v];exact (ag s (bs s hs)).1)]
    refine Q6m ?_ b1;intro v w' ⟨bp,hφ⟩;have Y: ∀r∈c,r≠q:=fun r hr e=>O (e▸hr);refine step v (fun n=>if n=q then v else u n) (fun n=>if n=q then (Si r0 w,Si r0 w') else iv n) w' (hI.step (hM iv w w' bp) q) ?_ (by rw[W];simp[Ent.at]) (fun r hr=>by rw[W] at hr;cases hr;exact ⟨by simp,os[q],A,t⟩) (hT iv w w' hB bp) ?_
    .intro p hp
     cases he:Zs os (C.map .val) p with
     | val x=>rfl
     | ref r=>
      have:=Y r (hA.refs p hp r he).1
      simp[Ent.at,this]
    .intro r hr o i N
     rcases List.mem_cons.1 hr with rfl | hr
     .rw[A] at i;cases i
      refine ⟨?_,fun j hj=>List.mem_cons_of_mem _ (ca j hj)⟩;simp only[if_true];exact hφ _ (fun x hx=>by simp[Y x (ca x hx)]) U5
     .obtain ⟨f1,f2⟩:=hΦ r hr o i N
      have ce:=D r hr;have bi:=Y r hr
      have hl:=hW.loc r o (by rw[X r ce];exact i) N (fun n=>if n=q then v else u n) u (fun x hx=>by
       rw[a4 r Q5,Nat.zero_add] at hx
       have:x≠q:=by
        rcases List.mem_cons.1 hx with rfl | hx
        .exact bi
        .exact Y x (f2 x hx)
       simp[this])
      have hs:=cz r o (by rw[X r ce];exact i) N
      rw[Nat.zero_add] at hs hl;refine ⟨?_,fun j hj=>List.mem_cons_of_mem _ (f2 j hj)⟩;simp only[if_neg bi];rw[hl];exact hs _ iv _ _ hI.1 f1 bp
def X87:Op->Bool
 | .move _ | .assign _ | .fieldAddr .. | .indexAddr .. | .field .. | .index .. | .binOp .. | .unOp .. | .extract .. | .pick .. | .makeFunc .. | .nilCheck _ | .slice .. =>true
 | _=>false
def ready (ops:List Oper) (a:List Nat) (j:Nat):Bool:=(Yo ops j).all (a.contains ·)
def X86 (ops:List Oper) (j:Nat):Bool:=match ops[j]? with | some o=>X87 o.op | none=>false
def X2C (ops:List Oper):Nat->List Nat->List Nat->List Nat
 | 0,_,a=>a.reverse
 | n+1,b,a=>
  match b.find? (fun j=>X86 ops j&&ready ops a j) with
  | some j=>X2C ops n (b.erase j) (j::a)
  | none=>match b.find? (ready ops a) with
   | some j=>X2C ops n (b.erase j) (j::a)
   | none=>a.reverse
def H4 (ops:List Oper):List Nat:=X2C ops ops.length (List.range ops.length) []
def T8 (ops:List Oper) (a:List Nat) (p q:Nat):Bool:=((Q0m ops []).getD (a.getD q 0) 0).testBit (a.getD p 0)
def U2 (ops:List Oper) (a:List Nat):List Oper:=a.map fun i=>ops.getD i default
def cutA (ops:List Oper) (a:List Nat):Nat->Nat
 | 0=>0
 | j+1=>if (List.range j).all (fun i=>T8 ops a i j||Hp (U2 ops a) i) then cutA ops a j else j+1
def X9r (ops:List Oper) (a:List Nat) (c n:Nat):Bool:=(List.range n).all fun q=>(List.range q).all fun p=>decide (p<c)||T8 ops a p q
def Mc (ops:List Oper) (a:List Nat) (n:Nat):Nat:=if X9r ops a (cutA ops a n) n then cutA ops a n else n
theorem Q7r (ops:List Oper) (a:List Nat): ∀n,cutA ops a n<=n/\ ∀q,cutA ops a n<=q->q<n-> ∀p,p<q->T8 ops a p q=true\/Hp (U2 ops a) p=true
 | 0=>⟨Nat.le_refl _,fun q _ h=>by omega⟩
 | j+1=>by
  obtain ⟨g,f⟩:=Q7r ops a j;simp only[cutA]
  split
  .rename_i h
   refine ⟨by omega,fun q d b p c=>?_⟩
   by_cases e:q=j
   .subst e
    simpa using List.all_eq_true.1 h p (by simpa using c)
   .exact f q d Q5 p c
  .exact ⟨Nat.le_refl _,fun q d b=>by omega⟩
theorem X2d (ops:List Oper) (a:List Nat) (n:Nat):Mc ops a n<=n/\ ∀q,Mc ops a n<=q->q<n-> ∀p,p<q->T8 ops a p q=true\/(p<Mc ops a n/\Hp (U2 ops a) p=true):=by
 obtain ⟨f,g⟩:=Q7r ops a n;unfold Mc
 split
 .rename_i i
  refine ⟨f,fun q e b p d=>?_⟩
  by_cases c:p<cutA ops a n
  .exact (g q e b p d).imp id fun h=>⟨c,h⟩
  .left
   have:=List.all_eq_true.1 (List.all_eq_true.1 i q (by simpa using b)) p (by simpa using d)
   simpa [c] using this
 .exact ⟨Nat.le_refl _,fun q e b=>by omega⟩
def Q8p (ops:List Oper) (a:List Nat):Bool:=
 a.length==ops.length&&(List.range ops.length).all (a.contains ·)&&Jx a&&a.all (fun i=>decide (i<ops.length))&&
  (List.range ops.length).all fun q=>(List.range q).all fun p=> !T8 ops a q p
def Nj (ops:List Oper) (n:Nat):Bool:=
 Md ops&&Q6K (Q0m ops []) ops&&Jx (G6 (U2 ops (H4 ops)))&&(G6 (U2 ops (H4 ops))).all (fun d=>decide (d<n))&&
  (Ym .any ops (List.range ops.length)&&Ym .text ops (List.range ops.length)&&Ym .gc ops (X5G .gc ops ops.length (List.range ops.length) []))&&Q8p ops (H4 ops)
theorem Q3i: ∀{l:List Nat},Jx l=true->l.Nodup
 | [],_=>List.nodup_nil
 | x::l,h=>by
  simp only[Jx,Bool.and_eq_true,Bool.not_eq_true'] at h;exact List.nodup_cons.2 ⟨by simpa using h.1,Q3i h.2⟩
theorem Q8Q {ops:List Oper}: ∀(b:List Oper) (a:List Nat),a.length+b.length=ops.length->(∀k,a.length<=k->ops[k]? =b[k-a.length]?)->
 (∀j k,j<a.length->k∈Yo ops j->(a.getD j 0).testBit k=true)-> ∀j k,j<ops.length->k∈Yo ops j->((Q0m b a).getD j 0).testBit k=true
 | [],a,n,_,c=>fun j k p d=>c j k (by simp at n;omega) d
 | o::b,a,n,f,c=>by
  have t:ops[a.length]? =some o:=by rw[f _ (Nat.le_refl _)];simp
  refine Q8Q b _ (by simp at n⊢;omega) ?_ ?_
  .intro k d
   simp only[List.length_append,List.length_cons,List.length_nil] at d⊢;rw[f k Q5];obtain ⟨m,r⟩: ∃m,k-a.length=m+1:=⟨k-a.length-1,by omega⟩
   rw[r,List.getElem?_cons_succ]
   congr 1;omega
  .intro j k p d
   simp only[List.length_append,List.length_cons,List.length_nil] at p
   by_cases g:j<a.length
   .simp only[List.getD_eq_getElem?_getD,List.getElem?_append_left g]
    simpa only[List.getD_eq_getElem?_getD] using c j k g d
   .have i:j=a.length:=by omega
    subst i;simp only[List.getD_eq_getElem?_getD,List.getElem?_append_right (Nat.le_refl _),Nat.sub_self,List.getElem?_cons_zero,Option.getD_some];unfold Yo at d;rw[t] at d;simp only[Option.map_some,Option.getD_some,List.mem_map] at d;obtain ⟨e,q,rfl⟩:=d
    have key: ∀(l:List Edge) (s:Nat),(e∈l\/s.testBit e.on=true)->(l.foldl (fun s e=>s ||| 2 ^ e.on ||| (a[e.on]?).getD 0) s).testBit e.on=true:=by
     intro l
     induction l with
     | nil=>intro s h;simpa using h
     | cons x l u=>
      intro s h;refine u _ ?_
      rcases h with h | h
      .rcases List.mem_cons.1 h with rfl | h
       .right;simp
       .exact .inl h
      .right;simp[h]
    exact key _ _ (.inl q)
theorem Gy {α β:Type} {f g:α->Option β}: ∀{l:List α},(∀x∈l,f x=g x)->l.filterMap f=l.filterMap g
 | [],_=>rfl
 | x::l,h=>by
  rw[List.filterMap_cons,List.filterMap_cons,h x U5,Gy fun y a=>h y (by simp[a])]
structure Arr (ops : List Oper) (ord : List Nat) (L : List Nat) : Prop where
  hpl : ∀ o ∈ U2 ops ord, Jz o.op = true
  hclash : ∀ p q a b, p < q -> (U2 ops ord)[p]? = some a -> (U2 ops ord)[q]? = some b -> (Zi a b || Zi b a) = true -> T8 ops ord p q = true
  hg : ∀ q o j b, (U2 ops ord)[q]? = some o -> o.guard = some (j, b) -> ∃ p, p < q /\ (U2 ops ord)[p]? = ops[j]? /\ T8 ops ord p q = true
  hn : L.Nodup
  hlt : ∀ q ∈ L, q < (U2 ops ord).length
  hC : ∀ pre q post, L = pre ++ q :: post -> ∀ p, T8 ops ord p q = true -> p < (U2 ops ord).length -> p ∈ pre
  hLl : L.length = (U2 ops ord).length
theorem Q0q {ops:Array Oper} {c:List Nat} (X:Md ops.toList=true) (hc:Q6K (Q0m ops.toList []) ops.toList=true) (a9:Ym .any ops.toList (List.range ops.toList.length)=true) (ba:Ym .text ops.toList (List.range ops.toList.length)=true) (bb:Ym .gc ops.toList (X5G .gc ops.toList ops.toList.length (List.range ops.toList.length) [])=true) (O:Q8p ops.toList c=true) (b:Bool) (t:Nat):
 (Region.schedule b ops t).filterMap (ops[·]?)=((Region.schedule b ops t).map (c.idxOf ·)).filterMap ((U2 ops.toList c)[·]?)/\Arr ops.toList c ((Region.schedule b ops t).map (c.idxOf ·))/\(U2 ops.toList c).length=ops.toList.length/\(Region.schedule b ops t).Nodup/\ ∀i∈Region.schedule b ops t,i<ops.toList.length/\c.getD (c.idxOf i) 0=i:=by
 simp only[Q8p,Bool.and_eq_true,beq_iff_eq] at O;obtain ⟨⟨⟨⟨ad,R⟩,ax⟩,N⟩,E⟩:=O;have ae:=Q3i ax;have af:(U2 ops.toList c).length=ops.toList.length:=by simp[U2,ad]
 have g: ∀p,p<ops.toList.length->c.getD p 0<ops.toList.length:=by
  intro p U;simp only[List.getD_eq_getElem?_getD];rw[List.getElem?_eq_getElem Q5];have:=List.all_eq_true.1 N c[p] (List.getElem_mem _)
  simpa using this
 have d: ∀p,p<ops.toList.length->(U2 ops.toList c)[p]? =ops.toList[c.getD p 0]? :=by
  intro p U;have n:=g p U;simp only[List.getD_eq_getElem?_getD] at n;rw[List.getElem?_eq_getElem (by omega:p<c.length)] at n
  simp only[Option.getD_some] at n;simp only[U2,List.getElem?_map,List.getD_eq_getElem?_getD];rw[List.getElem?_eq_getElem (by omega:p<c.length)]
  simp only[Option.map_some,Option.getD_some];rw[List.getElem?_eq_getElem n]
  simp
 obtain ⟨Q,M,A⟩:=Q8m b ops t X (fun m=>by cases m<;>exact ⟨_,by assumption⟩)
 have f:=Q50 b ops t;generalize Region.schedule b ops t=L0 at Q M A f⊢;have z: ∀i,i<ops.toList.length->i∈c:=fun i s=>by simpa using List.all_eq_true.1 R i (by simpa using s)
 have l: ∀i,i<ops.toList.length->c.idxOf i<ops.toList.length/\c.getD (c.idxOf i) 0=i:=by
  intro i s;have n:=List.idxOf_lt_length_of_mem (z i s);refine ⟨by omega,?_⟩
  simp only[List.getD_eq_getElem?_getD];rw[List.getElem?_eq_getElem n]
  simp
 have r: ∀p,p<ops.toList.length->c.idxOf (c.getD p 0)=p:=by
  intro p U;simp only[List.getD_eq_getElem?_getD];rw[List.getElem?_eq_getElem (by omega:p<c.length)]
  simp only[Option.getD_some];exact List.Nodup.idxOf_getElem ae p Q5
 have ac: ∀p q,p<q->q<ops.toList.length->T8 ops.toList c q p=false:=by
  intro p q V u;have:=List.all_eq_true.1 (List.all_eq_true.1 E q (by simpa using u)) p (by simpa using V)
  simpa using this
 have ao:L0.filterMap (ops[·]?)=(L0.map (c.idxOf ·)).filterMap ((U2 ops.toList c)[·]?):=by
  rw[List.filterMap_map];refine Gy fun i s=>?_;have:=f i s;have n:=l i (by simpa using this)
  simp only[Function.comp];rw[d _ n.1,n.2]
  simp
 refine ⟨ao,⟨?_,?_,?_,?_,?_,?_,by simp[M,ad,U2]⟩,af,Q,fun i s=>⟨by simpa using f i s,(l i (by simpa using f i s)).2⟩⟩
 .intro o ho
  simp only[U2,List.mem_map] at ho;obtain ⟨i,s,rfl⟩:=ho;have w:i<ops.toList.length:=by simpa using List.all_eq_true.1 N i s
  simp only[Md,List.all_eq_true,Bool.and_eq_true] at X;have:=(X (ops.toList[i],i) (by rw[List.mem_zipIdx_iff_getElem?];simpa using w)).1.1
  rw[List.getD_eq_getElem?_getD,List.getElem?_eq_getElem w];exact this
 .intro p q a b' V ha C D
  have U:p<ops.toList.length:=by have:=(List.getElem?_eq_some_iff.1 ha).1;omega
  have u:q<ops.toList.length:=by have:=(List.getElem?_eq_some_iff.1 C).1;omega
  rw[d p U] at ha;rw[d q u] at C
  have Z: ∀i i' x x',i<i'->ops.toList[i]? =some x->ops.toList[i']? =some x'->(Zi x x'||Zi x' x)=true->((Q0m ops.toList []).getD i' 0).testBit i=true:=by
   intro i i' x x' av hx a1 D;simp only[Q6K,List.all_eq_true] at hc;have:=hc (x',i') (by rw[List.mem_zipIdx_iff_getElem?];simpa using a1) (x,i) (by rw[List.mem_zipIdx_iff_getElem?];simpa using hx)
   simp only[av,D,decide_true,Bool.not_true,Bool.false_or,Bool.or_self] at this;exact this
  have ab:c.getD p 0≠c.getD q 0:=by
   intro e;have:=r p U;rw[e,r q u] at this;omega
  rcases Nat.lt_or_gt_of_ne ab with h | h
  .exact Z _ _ a b' h ha C D
  .have n:=Z _ _ b' a h C ha (by rw[Bool.or_comm];exact D)
   have v:=ac p q V u;unfold T8 at v;rw[n] at v;cases v
 .intro q o j b' u ap
  have H:q<ops.toList.length:=by have:=(List.getElem?_eq_some_iff.1 u).1;omega
  rw[d q H] at u
  have L:j∈Yo ops.toList (c.getD q 0):=by
   have aa:=X;simp only[Md,List.all_eq_true,Bool.and_eq_true] at aa;have:=(aa (o,c.getD q 0) (by rw[List.mem_zipIdx_iff_getElem?];simpa using u)).2
   rw[ap] at this;simp only[List.any_eq_true] at this;obtain ⟨e,an,am⟩:=this;unfold Yo;rw[u];simp only[Option.map_some,Option.getD_some,List.mem_map];exact ⟨e,an,by simpa using am⟩
  have ar:=Q0r X _ (g q H) j L;have hj:j<ops.toList.length:=by have:=g q H;omega
  have C:=Q8Q (ops:=ops.toList) ops.toList [] U5 U5 (by intro j k hj;simp at hj) _ j (g q H) L
  obtain ⟨n,v⟩:=l j hj;have J:T8 ops.toList c (c.idxOf j) q=true:=by unfold T8;rw[v];exact C
  refine ⟨c.idxOf j,?_,by rw[d _ n,v],J⟩
  rcases Nat.lt_trichotomy (c.idxOf j) q with h | h | h
  .exact h
  .rw[<-h,v] at ar;omega
  .have:=ac q _ h n
   rw[J] at this;cases this
 .refine List.pairwise_map.2 (Q.imp_of_mem ?_)
  intro x y hx hy aw a2;have n:=(l x (by simpa using f x hx)).2
  have v:=(l y (by simpa using f y hy)).2
  exact aw (by rw[<-n,<-v,a2])
 .intro q u
  simp only[List.mem_map] at u;obtain ⟨i,s,rfl⟩:=u;have:=(l i (by simpa using f i s)).1
  omega
 .intro be q a8 hL p C U
  rw[List.map_eq_append_iff] at hL;obtain ⟨ai,a3,Y,ag,B⟩:=hL;rw[List.map_eq_cons_iff] at B;obtain ⟨i,W,hr,s,az⟩:=B;subst hr s ag;have w:i<ops.toList.length:=by simpa using f i (by rw[Y];simp)
  obtain ⟨n,v⟩:=l i w;unfold T8 at C;rw[v] at C;have ay:p<ops.toList.length:=by omega
  have:=Q9Y X A i w (c.getD p 0) ai W Y C;rw[List.mem_map];exact ⟨c.getD p 0,this,r p ay⟩
theorem Q7u {ops:Array Oper} {n:Nat} (a:Nj ops.toList n=true) (b:Bool) (t:Nat): ∃L,(Region.schedule b ops t).filterMap (ops[·]?)=L.filterMap ((U2 ops.toList (H4 ops.toList))[·]?)/\Arr ops.toList (H4 ops.toList) L/\(U2 ops.toList (H4 ops.toList)).length=ops.toList.length:=by
 simp only[Nj,Bool.and_eq_true] at a;obtain ⟨⟨⟨⟨⟨k,j⟩,m⟩,l⟩,⟨d,e⟩,f⟩,c⟩:=a;obtain ⟨g,h,i,_⟩:=Q0q k j d e f c b t;exact ⟨_,g,h,i⟩
theorem X1d (P:Program) (r:Bool) (ops:Array Oper) (T:(Nat->Iv)->World->World->Prop) (B:World->Prop) (L2:List Value->World->Prop) (i:List Value) (g:Nj ops.toList i.length=true)
 (z: ∀o w w',B w->T o w w'->B w') (y: ∀o w w',T o w w'->Si r w<=Si r w')
 (h:chain P r ops.toList T B L2 ((U2 ops.toList (H4 ops.toList)).drop (Mc ops.toList (H4 ops.toList) ops.toList.length)) 0
  ((U2 ops.toList (H4 ops.toList)).take (Mc ops.toList (H4 ops.toList) ops.toList.length)) (i.map .val) [] [])
 (b:Bool) (t:Nat) (w:World) (U:B w):U0 P ops.toList L2 ((Region.schedule b ops t).filterMap (ops[·]?)) i w:=by
 obtain ⟨L,n,c,u⟩:=Q7u g b t;simp only[Nj,Bool.and_eq_true] at g;obtain ⟨⟨⟨⟨⟨l,V⟩,H⟩,C⟩,⟨J,M⟩,N⟩,s⟩:=g;generalize H4 ops.toList=a at*;obtain ⟨Φ,_,A⟩:=Q2J P r ops.toList T B L2 _ _ 0 (i.map .val) [] [] (by intro e l j D;simp only[List.mem_map] at l;obtain ⟨v,_,rfl⟩:=l;cases D) U5 (by simp[Mx]) h
 rw[n];obtain ⟨k,f⟩:=X2d ops.toList a ops.toList.length
 exact X9t (os:=U2 ops.toList a) (m:=Mc ops.toList a ops.toList.length) (T:=T) (B:=B) (Φ:=Φ) (T8 ops.toList a) c.hpl H (fun d E=>by simpa using List.all_eq_true.1 C d E) c.hclash c.hg Q5
  (fun q Q R p O=>f q Q Q5 p O) z y A L c.hn c.hLl c.hlt c.hC _ [] rfl U5 i (fun _=>undef) (fun _=>(0,0)) w .init
  ⟨rfl,by simp,fun _ _=>rfl,by simp⟩ U U5
def Vy {α:Type} (P:Program) (s:Sem α):Prop:= ∀w v w',s.run P w= .ok v w'->w'=w
variable {P : Program} {α β : Type}
theorem Mf (a:α):Vy P (Pure.pure a:Sem α):=fun w v w' h=>by simp at h;exact h.2.symm
theorem X11 (m:String):Vy P (stuck m:Sem α):=fun w v w' h=>by simp at h
theorem Zt {s:Sem α} {f:α->Sem β} (d:Vy P s) (c: ∀a,Vy P (f a)):Vy P (s>>=f):=fun w v w' h=>by
 rw[Sem.run_bind] at h;cases b:s.run P w with
 | halt x w1=>rw[b] at h;simp[Result.andThen] at h
 | ok a w1=>
  rw[b] at h;have:=d _ _ _ b;subst this;exact c a _ _ _ h
theorem Q6n (a:Addr) (m:Mode):Vy P (load a m):=fun w v w' h=>by
 unfold load at h;simp only[Sem.run] at h
 split at h
 .cases h;rfl
 .split at h
  .cases h;rfl
  .cases h
theorem Q0b (t:TypeId):Vy P (typeInfo t):=fun w v w' h=>by
 unfold typeInfo at h;simp only[Sem.run_bind,run_program,Result.andThen_ok] at h
 split at h<;>simp at h
 exact h.2.symm
theorem Q5r (t:TypeId):Vy P (underlying t):=fun w v w' h=>by
 unfold underlying at h;simp only[Sem.run_bind,run_program,Result.andThen_ok] at h
 split at h<;>simp at h
 exact h.2.symm
theorem X10 (t:TypeId):Vy P (isAgg t):=by
 unfold isAgg;refine Zt (Q5r t) fun d=>?_
 split<;>exact Mf _
theorem X05 (t:TypeId):Vy P (sizeOf t):=Zt (Q0b t) fun _=>Mf _
theorem Q4Z (a:Addr): ∀(n i:Nat) (b:Array Value),Vy P (loadCellsFrom a i n b)
 | 0,i,b=>Mf _
 | n+1,i,b=>Zt (Q6n _ _) fun v=>Q4Z a n (i+1) _
theorem Q8l (t:TypeId) (a:Addr):Vy P (loadVar t a):=by
 unfold loadVar;refine Zt (X10 t) fun b=>?_
 split
 .exact Zt (X05 t) fun n=>Zt (Q4Z a n 0 #[]) fun cs=>Mf _
 .exact Q6n _ _
theorem X04 (t:TypeId) (v:Value):Vy P (Instr.loadAt t v):=by
 unfold Instr.loadAt;refine Zt ?_ fun a=>Q8l t a;unfold Instr.sureAddr
 split
 .exact Mf _
 .exact X11 _
def Vx (P:Program) (s:Sem α):Prop:= ∀w v w1,s.run P w= .ok v w1->w1=w/\ ∀w',s.run P w'= .ok v w'
theorem Wz (a:α):Vx P (Pure.pure a:Sem α):=fun w v w' h=>by simp at h⊢;exact ⟨h.2.symm,h.1⟩
theorem Ed (m:String):Vx P (stuck m:Sem α):=fun w v w' h=>by simp at h
theorem Zk {s:Sem α} {f:α->Sem β} (j:Vx P s) (i: ∀a,Vx P (f a)):Vx P (s>>=f):=fun w v w' h=>by
 rw[Sem.run_bind] at h;cases b:s.run P w with
 | halt x w1=>rw[b] at h;simp[Result.andThen] at h
 | ok a w1=>
  rw[b] at h;obtain ⟨rfl,d⟩:=j _ _ _ b;obtain ⟨e,g⟩:=i a _ _ _ h;refine ⟨e,fun c=>?_⟩;rw[Sem.run_bind,d c];exact g c
theorem Q1E (t:TypeId):Vx P (typeInfo t):=fun w v w' h=>by
 unfold typeInfo at h⊢;simp only[Sem.run_bind,run_program,Result.andThen_ok] at h⊢
 split at h<;>simp at h
 rename_i i a;refine ⟨h.2.symm,fun w'=>?_⟩
 simp[a,h.1]
theorem Ee (t:TypeId):Vx P (underlying t):=fun w v w' h=>by
 unfold underlying at h⊢;simp only[Sem.run_bind,run_program,Result.andThen_ok] at h⊢
 split at h<;>simp at h
 rename_i i a;refine ⟨h.2.symm,fun w'=>?_⟩
 simp[a,h.1]
theorem Gz (v:Value) (i:Nat):Vx P (Instr.extract v i):=by
 unfold Instr.extract
 split
 .split
  .exact Wz _
  .exact Ed _
 .exact Ed _
theorem X3L (v:Value):Vx P (Instr.sureAddr v):=by
 unfold Instr.sureAddr
 split
 .exact Wz _
 .exact Ed _
theorem Q6V {s:Sem α} (h: ∀w v w',s.run P w≠ .ok v w'):Vx P s:=fun w v w' e=>absurd e (h w v w')
theorem Q70 {s:Sem α} {f:α->Sem β} (c: ∀a w v w',(f a).run P w≠ .ok v w'): ∀w v w',(s>>=f).run P w≠ .ok v w':=fun w v w' h=>by
 rw[Sem.run_bind] at h;cases b:s.run P w with
 | halt x w1=>rw[b] at h;simp[Result.andThen] at h
 | ok a w1=>rw[b] at h;exact c a _ _ _ h
theorem Q63 (e:Int×Int×Bool×BoundsCode): ∀w v w',(runtimePanic (.bounds e.1 e.2.1 e.2.2.1 e.2.2.2):Sem α).run P w≠ .ok v w':=by
 unfold runtimePanic;exact Q70 fun p=>fun w v w' h=>by cases h
theorem Q4K (k:IntKind) (x y:Int) (c:BoundsCode):Vx P (boundsPanic k x y c:Sem α):=Q6V (by
 unfold boundsPanic;dsimp only
 split
 .exact Q70 fun b=>Q63 (_,_,_,_)
 .exact Q70 fun b=>Q63 (_,_,_,_))
theorem Ia (t:TypeId) (x i:Value):Vx P (Instr.indexAt t x i):=by
 unfold Instr.indexAt;refine Zk ?_ fun q=>?_
 .unfold asIntOf
  split
  .exact Wz _
  .exact Q6V fun w v w' h=>by cases h
  .exact Ed _
 refine Zk (Ee t) fun d=>?_;dsimp only
 have key: ∀(z:Option Addr×Nat×TypeId),Vx P (match z with
  | (base,b,elem)=>do
   let __do_lift<-underlying t
   have c:Bool:=decide (b<=1)&&match __do_lift with
    | TypeDesc.array b elem=>true
    | x=>false
   match base with
    | some a=>
     if 0<=q.snd/\q.snd< ↑b then do
      let __do_lift<-sizeOf elem
      pure (Value.pointer (some (a.add (q.snd.toNat*__do_lift))))
     else
      if c=true then unsupported (Unsupported.noEntry "op/indexAddr.an index out of range at an array of length 0 or 1 (ledger 616)")
      else boundsPanic q.fst q.snd (↑b) BoundsCode.index
    | none=>boundsPanic q.fst q.snd 0 BoundsCode.index):=by
  rintro ⟨base,b,elem⟩;dsimp only;refine Zk (Ee t) fun g=>?_;cases base with
  | none=>exact Q4K _ _ _ _
  | some a=>
   dsimp only
   by_cases e:0<=q.snd/\q.snd< ↑b
   .rw[if_pos e]
    exact Zk (Zk (Q1E _) fun _=>Wz _) fun n=>Wz _
   .rw[if_neg e]
    by_cases f:(decide (b<=1)&&match g with
     | TypeDesc.array b elem=>true
     | x=>false)=true
    .rw[if_pos f]
     exact Q6V fun w v w' h=>by cases h
    .rw[if_neg f]
     exact Q4K _ _ _ _
 split
 .exact Zk (X3L _) fun a=>Zk (Wz _) key
 .exact Zk (Wz _) key
 .exact Zk (Ed _) key
def Q3E (o:Oper):Bool:=match o.op with | .move _ | .assign _ | .load .. | .extract .. | .indexAddr .. =>true | _=>false
def Q6U (o:Oper):Bool:=match o.op with | .move _ | .assign _ | .extract .. | .indexAddr .. =>true | _=>false
theorem Ft {s:Sem Value} {w:World} {K:Value->World->Prop} (h:op P (sv s) w K): ∃v w',s.run P w= .ok v w'/\K v w':=by
 rw[Yw] at h;unfold Yd sv at h;rw[Sem.run_bind] at h;cases a:s.run P w with
 | halt x w1=>rw[a] at h;exact h.elim
 | ok v w1=>rw[a] at h;exact ⟨v,w1,rfl,h⟩
theorem Gg {s:Sem Value} {v:Value} {w w':World} {K:Value->World->Prop} (h:s.run P w= .ok v w') (k:K v w'):op P (sv s) w K:=by
 rw[Yw];unfold Yd sv;rw[Sem.run_bind,h];exact k
theorem X4q {p:Program} {w w':World} {a k:Addr} {u:TypeId} {b:Bool} {r} (h: ∀(i:Nat) o,w.heap[i]? =some o->w'.heap[i]? =some o) (c:w.seen p a u k b= .ok r):w'.seen p a u k b= .ok r:=by
 cases e:w.heap[a.block]? with
 | some o=>
  have d:=h _ _ e;unfold World.seen at*;rw[d];rw[e] at c;exact c
 | none=>
  exfalso
  unfold World.seen at c;simp only[e,bind,Except.bind,throw,throwThe,MonadExceptOf.throw,pure,Except.pure] at c
  repeat (first | cases c | split at c)
theorem X50 {p:Program} {w w':World} {a:Addr} {b:Bool} {r} (h: ∀(i:Nat) o,w.heap[i]? =some o->w'.heap[i]? =some o) (c:w.farLoad p a b= .ok r):w'.farLoad p a b= .ok r:=by
 unfold World.farLoad at*;cases e:w.heap[a.block]? with
 | none=>rw[e] at c;cases c
 | some o=>
  rw[e] at c;rw[h _ _ e];cases o with
  | view d u=>
   simp only at c⊢;cases f:w.viewLoad p d u a b with
   | error s=>rw[f] at c;cases c
   | ok q=>
    rw[f] at c
    have:w'.viewLoad p d u a b= .ok q:=by
     unfold World.viewLoad at*;cases g:w.seen p d u a b with
     | error s=>rw[g] at f;cases f
     | ok z=>rw[X4q h g];rw[g] at f;exact f
    rw[this];exact c
  | _=>simp only at c;cases c
def Ce {α:Type} (P:Program) (s:Sem α):Prop:= ∀w v w1,s.run P w= .ok v w1->w1=w/\ ∀w':World,(∀(i:Nat) o,w.heap[i]? =some o->w'.heap[i]? =some o)->s.run P w'= .ok v w'
theorem Bh (a:α):Ce P (Pure.pure a:Sem α):=fun w v w' h=>by simp at h⊢;exact ⟨h.2.symm,fun _ _=>h.1⟩
theorem X2q (m:String):Ce P (stuck m:Sem α):=fun w v w' h=>by simp at h
theorem Lk {s:Sem α} {f:α->Sem β} (k:Ce P s) (j: ∀a,Ce P (f a)):Ce P (s>>=f):=fun w v w' h=>by
 rw[Sem.run_bind] at h;cases b:s.run P w with
 | halt x w1=>rw[b] at h;simp[Result.andThen] at h
 | ok a w1=>
  rw[b] at h;obtain ⟨rfl,e⟩:=k _ _ _ b;obtain ⟨g,i⟩:=j a _ _ _ h;refine ⟨g,fun d c=>?_⟩;rw[Sem.run_bind,e d c];exact i d c
theorem Q7E (a:Addr) (m:Mode):Ce P (load a m):=fun w v w1 h=>by
 unfold load at h⊢;simp only[Sem.run] at h⊢;cases e:w.cell? a with
 | some x=>
  rw[e] at h;cases h;refine ⟨rfl,fun w' d=>?_⟩
  have:w'.cell? a=some v:=by
   unfold World.cell? at*;cases c:w.heap[a.block]? with
   | none=>rw[c] at e;cases e
   | some o=>rw[c] at e;rw[d _ _ c];exact e
  rw[this]
 | none=>
  rw[e] at h;simp only at h;cases b:w.farLoad P a (m== .atomic) with
  | error s=>rw[b] at h;cases h
  | ok q=>
   rw[b] at h;cases h;refine ⟨rfl,fun w' d=>?_⟩;have g:=X50 d b;cases f:w'.cell? a with
   | none=>simp only[g]
   | some x=>
    exfalso
    unfold World.farLoad at b;unfold World.cell? at f;cases c:w.heap[a.block]? with
    | none=>rw[c] at b;cases b
    | some o=>
     rw[d _ _ c] at f;rw[c] at b;cases o<;>first | cases f | (simp only at b;cases b)
theorem Q7D {s:Sem α} (h:Vx P s):Ce P s:=fun w v w1 e=>⟨(h w v w1 e).1,fun w' _=>(h w v w1 e).2 w'⟩
theorem X2p (t:TypeId):Ce P (isAgg t):=by
 unfold isAgg;refine Lk (Q7D (Ee t)) fun d=>?_
 split<;>exact Bh _
theorem Q5S (a:Addr): ∀(n i:Nat) (b:Array Value),Ce P (loadCellsFrom a i n b)
 | 0,i,b=>Bh _
 | n+1,i,b=>Lk (Q7E _ _) fun v=>Q5S a n (i+1) _
theorem X0B (t:TypeId) (v:Value):Ce P (Instr.loadAt t v):=by
 unfold Instr.loadAt;refine Lk ?_ fun a=>?_
 .unfold Instr.sureAddr
  split
  .exact Bh _
  .exact X2q _
 .unfold loadVar
  refine Lk (X2p t) fun b=>?_
  split
  .exact Lk (Lk (Q7D (Q1E t)) fun _=>Bh _) fun n=>Lk (Q5S a n 0 #[]) fun cs=>Bh _
  .exact Q7E _ _
theorem X4g {l:List Value} {o:Oper} {w:World} {K:Value->World->Prop} (h:Q3E o=true) (c:O8 P l o w K): ∃v,K v w/\ ∀(w':World) b,(∀(i:Nat) o,w.heap[i]? =some o->w'.heap[i]? =some o)->b v w'->O8 P l o w' b:=by
 obtain ⟨d,p,n,pos,m,g⟩:=o;cases p<;>(first | (simp[Q3E] at h;done) | skip)<;>simp only[O8] at c⊢
 .exact ⟨_,c,fun w' b _ a=>a⟩
 .exact ⟨_,c,fun w' b _ a=>a⟩
 .obtain ⟨v,w',e,f⟩:=Ft c
  obtain ⟨rfl,j⟩:=X0B _ _ _ _ _ e;exact ⟨v,f,fun w' b k a=>Gg (j w' k) a⟩
 .obtain ⟨v,w',e,f⟩:=Ft c
  obtain ⟨rfl,j⟩:=Ia _ _ _ _ _ _ e;exact ⟨v,f,fun w' b k a=>Gg (j w') a⟩
 .obtain ⟨v,w',e,f⟩:=Ft c
  obtain ⟨rfl,j⟩:=Gz _ _ _ _ _ e;exact ⟨v,f,fun w' b k a=>Gg (j w') a⟩
theorem Q72 {γ δ:Type} {s:Sem γ} {f:γ->Sem δ} {w w':World} {v:δ} (h:(s>>=f).run P w= .ok v w'): ∃a w1,s.run P w= .ok a w1/\(f a).run P w1= .ok v w':=by
 rw[Sem.run_bind] at h;cases b:s.run P w with
 | halt x w1=>rw[b] at h;simp[Result.andThen] at h
 | ok a w1=>rw[b] at h;exact ⟨a,w1,rfl,h⟩
theorem X5B {γ:Type} {r:Unsupported}:Vy P (unsupported r:Sem γ):=fun w v w' h=>by simp[unsupported] at h
theorem Q8A {l:List Value} {o:Oper} {w:World} {K:Value->World->Prop} (h:Sq o=true) (j:O8 P l o w K): ∃v w',(∀(i:Nat) o,w.heap[i]? =some o->w'.heap[i]? =some o)/\K v w'/\ ∀b:Value->World->Prop,b v w'->O8 P l o w b:=by
 obtain ⟨d,p,D,pos,B,g⟩:=o;cases p<;>(first | (simp[Sq] at h;done) | skip)
 simp only[O8] at j⊢;obtain ⟨v,w',f,s⟩:=Ft j;refine ⟨v,w',?_,s,fun b t=>Gg f t⟩;have a:=f;unfold Instr.alloc zeroValue at a;obtain ⟨z,w1,A,m⟩:=Q72 a;have y:w1=w:=Zt (Q0b _) (fun i=>by split;exact Mf _;exact X5B) _ _ _ A
 subst y;simp only at m;obtain ⟨c,E,n,q⟩:=Q72 m;simp only[Sem.run_pure,Result.ok.injEq] at q;obtain ⟨_,rfl⟩:=q;unfold newVar newRow at n;obtain ⟨C,H,e,r⟩:=Q72 n;simp only[Sem.run_pure,Result.ok.injEq] at r;obtain ⟨_,rfl⟩:=r;unfold newObj at e;simp only[Sem.run,Result.ok.injEq] at e;obtain ⟨_,rfl⟩:=e;intro i o k;have u:=(Array.getElem?_eq_some_iff.1 k).1;simp only[Array.getElem?_push];rw[if_neg Q5];exact k
theorem Q9P {l:List Value} {o:Oper} {w:World} {K:Value->World->Prop} (h:Q3E o=true) (e:O8 P l o w K): ∃v,K v w/\ ∀c,c v w->O8 P l o w c:=by
 obtain ⟨d,p,j,pos,i,g⟩:=o;cases p<;>(first | (simp[Q3E] at h;done) | skip)<;>simp only[O8] at e⊢
 .exact ⟨_,e,fun c a=>a⟩
 .exact ⟨_,e,fun c a=>a⟩
 .obtain ⟨v,w',b,f⟩:=Ft e
  have:=X04 _ _ _ _ _ b;subst this;exact ⟨v,f,fun c a=>Gg b a⟩
 .obtain ⟨v,w',b,f⟩:=Ft e
  have:=(Ia _ _ _ _ _ _ b).1;subst this;exact ⟨v,f,fun c a=>Gg b a⟩
 .obtain ⟨v,w',b,f⟩:=Ft e
  have:=(Gz _ _ _ _ _ b).1;subst this;exact ⟨v,f,fun c a=>Gg b a⟩
theorem Q5d {l:List Value} {o:Oper} {w:World} {K:Value->World->Prop} (h:Q6U o=true) (c:O8 P l o w K): ∃v,K v w/\ ∀w' b,b v w'->O8 P l o w' b:=by
 obtain ⟨d,p,k,pos,j,g⟩:=o;cases p<;>(first | (simp[Q6U] at h;done) | skip)<;>simp only[O8] at c⊢
 .exact ⟨_,c,fun w' b a=>a⟩
 .exact ⟨_,c,fun w' b a=>a⟩
 .obtain ⟨v,w',e,f⟩:=Ft c
  obtain ⟨rfl,i⟩:=Ia _ _ _ _ _ _ e;exact ⟨v,f,fun w' b a=>Gg (i w') a⟩
 .obtain ⟨v,w',e,f⟩:=Ft c
  obtain ⟨rfl,i⟩:=Gz _ _ _ _ _ e;exact ⟨v,f,fun w' b a=>Gg (i w') a⟩
structure Swap (ops : List Oper) (a b : Oper) : Prop where
  pa : Jz a.op = true
  pb : Jz b.op = true
  ga : a.guard = none
  ab : ∀ d, a.dst = some d -> d ∉ G2 ops b ++ I5 b
  ba : ∀ d, b.dst = some d -> d ∉ G2 ops a ++ I5 a
  dd : ∀ d, a.dst = some d -> b.dst ≠ some d
  gb : ∀ j c, b.guard = some (j, c) -> ((ops[j]?).bind (·.dst)).isSome = true
  rd : (Q3E a = true /\ (Q3E b = true \/ Sq b = true) /\ b.guard = none \/ Sq a = true /\ Q6U b = true /\ b.guard = none) \/ Q6U a = true
variable {ops : List Oper} {L2 : List Value -> World -> Prop}
theorem Q5u {l:List Value} {d:Option Nat} {v:Value} {s:Nat} (h: ∀e,d=some e->e≠s):get (put l d v) s=get l s:=by
 cases d with
 | none=>rfl
 | some e=>simp only[put,get,List.getD_eq_getElem?_getD,List.getElem?_set_ne (h e rfl)]
theorem X4t {l:List Value} {d e:Option Nat} {v u:Value} (h: ∀x,d=some x->e≠some x):put (put l d v) e u=put (put l e u) d v:=by
 cases d with
 | none=>rfl
 | some d=>cases e with
  | none=>rfl
  | some e=>simp only[put];exact List.set_comm _ _ (by intro a;subst a;exact h d rfl rfl)
theorem Q7N {o:Oper} {s:Nat} (a:Operand.tmp s∈o.op.operands):s∈I5 o:=by
 simp only[I5,List.mem_filterMap];exact ⟨.tmp s,by simpa using a,rfl⟩
theorem X0v {a b:Oper} {R:List Oper} {l:List Value} {w:World} (Y:Swap ops a b) (h:U0 P ops L2 (a::b::R) l w):U0 P ops L2 (b::a::R) l w:=by
 obtain ⟨pa,Z,V,L,O,Q,W,N⟩:=Y
 have o: ∀v,O8 P (put l a.dst v) b=O8 P l b:=fun v=>Cf Z fun x J=>by
  cases x with
  | tmp s=>exact Q5u fun e t g=>L e t (List.mem_append_right _ (g▸Q7N J))
  | _=>rfl
 have m: ∀v,O8 P (put l b.dst v) a=O8 P l a:=fun v=>Cf pa fun x J=>by
  cases x with
  | tmp s=>exact Q5u fun e t g=>O e t (List.mem_append_right _ (g▸Q7N J))
  | _=>rfl
 have n: ∀v u,put (put l b.dst u) a.dst v=put (put l a.dst v) b.dst u:=fun v u=>(X4t Q).symm;simp only[U0,V] at h⊢;cases k:b.guard with
 | none=>
  simp only[k] at h⊢
  rcases N with (⟨z,rb | rb,_⟩ | ⟨z,U,_⟩) | fa
  .obtain ⟨A,f,i⟩:=Q9P z h
   rw[o] at f;obtain ⟨B,p,r⟩:=Q9P rb f;refine r _ ?_;rw[m];exact i _ (by rw[n];exact p)
  .obtain ⟨A,f,i⟩:=X4g z h
   rw[o] at f;obtain ⟨B,wb,k,p,r⟩:=Q8A rb f;refine r _ ?_;rw[m];exact i wb _ k (by rw[n];exact p)
  .obtain ⟨A,wa,k,f,i⟩:=Q8A z h
   rw[o] at f;obtain ⟨B,p,r⟩:=Q5d U f;refine r w _ ?_;rw[m];exact i _ (by rw[n];exact p)
  .obtain ⟨A,f,i⟩:=Q5d fa h
   rw[o] at f;refine Xf (fun B w' H=>?_) f;rw[m];exact i w' _ (by rw[n];exact H)
 | some q=>
  obtain ⟨j,c⟩:=q
  rcases N with (⟨_,_,y⟩ | ⟨_,_,y⟩) | fa
  .rw[k] at y;cases y
  .rw[k] at y;cases y
  obtain ⟨d,M⟩:=Option.isSome_iff_exists.1 (W j c k);have E:d∈G2 ops b:=by simp[G2,k,M]
  have X: ∀v,get (put l a.dst v) d=get l d:=fun v=>Q5u fun e t g=>L e t (List.mem_append_left _ (g▸E));simp only[k,M] at h⊢;obtain ⟨A,f,i⟩:=Q5d fa h;rw[o,X] at f;refine Q34 ((Dp f).imp (fun ⟨C,D⟩=>⟨C,Xf (fun B w' H=>?_) D⟩) (fun ⟨C,D⟩=>⟨C,?_⟩))
  .rw[m];exact i w' _ (by rw[n];exact H)
  .rw[m];exact i w _ (by rw[n];exact D)
theorem Q4I {a:Oper} {R R':List Oper} {l:List Value} {w:World} (b: ∀l w,U0 P ops L2 R l w->U0 P ops L2 R' l w) (h:U0 P ops L2 (a::R) l w):U0 P ops L2 (a::R') l w:=by
 simp only[U0] at h⊢;cases k:a.guard with
 | none=>simp only[k] at h⊢;exact Xf (fun v w g=>b _ _ g) h
 | some q=>
  obtain ⟨j,c⟩:=q;simp only[k] at h⊢;cases i:(ops[j]?).bind (·.dst) with
  | none=>simp only[i] at h⊢;exact b _ _ h
  | some d=>
   simp only[i] at h⊢;exact Q34 ((Dp h).imp (fun ⟨e,f⟩=>⟨e,Xf (fun m w' g=>b _ _ g) f⟩) (fun ⟨e,f⟩=>⟨e,b _ _ f⟩))
theorem Q2K {q:Oper} {R:List Oper}: ∀(A:List Oper) {l:List Value} {w:World},(∀a∈A,Swap ops a q)->U0 P ops L2 (A++q::R) l w->U0 P ops L2 (q::(A++R)) l w
 | [],_,_,_,h=>h
 | a::A,l,w,c,h=>X0v (c a U5) (Q4I (R:=A++q::R) (fun _ _ h=>Q2K A (fun b d=>c b (by simp[d])) h) h)
theorem Ea: ∀(A:List Oper) {B:List Oper} {l:List Value} {w:World},U0 P ops L2 (A++B) l w=U0 P ops (fun l w=>U0 P ops L2 B l w) A l w
 | [],B,l,w=>rfl
 | a::A,B,l,w=>by
  simp only[List.cons_append,U0]
  split
  .congr 1;funext v w;exact Ea A
  .split
   .congr 1;funext v w;exact Ea A
   .exact Ea A
theorem X2f {A B b:List Oper} {l:List Value} {w:World} (c: ∀l w,U0 P ops L2 B l w->U0 P ops L2 b l w): ∀{l:List Value} {w:World},U0 P ops L2 (A++B) l w->U0 P ops L2 (A++b) l w:=by
 induction A with
 | nil=>exact fun h=>c _ _ h
 | cons a A d=>exact fun h=>Q4I (fun _ _ h=>d h) h
theorem X1I (os:List Oper) (bit:Nat->Nat->Bool) (t: ∀p q a b,p<q->os[p]? =some a->os[q]? =some b->bit p q=false->Swap ops a b):
 ∀(n:Nat) (L2:List Value->World->Prop) (L:List Nat) (l:List Value) (w:World),L.Nodup->L.length=n->(∀q∈L,q<n)->n<=os.length->L.Pairwise (fun q p=>p<q->bit p q=false)->
  U0 P ops L2 (os.take n) l w->U0 P ops L2 (L.filterMap (os[·]?)) l w
 | 0,L2,L,l,w,u,v,g,y,D,h=>by
  have:L=[]:=List.eq_nil_of_length_eq_zero v;subst this;exact h
 | n+1,L2,L,l,w,u,v,g,y,D,h=>by
  have V:n∈L:=Classical.byContradiction fun o=>by
   have O:=K5 n L u fun k J=>by
    have i:=g k J;have H:k≠n:=fun e=>o (e▸J);omega
   omega
  obtain ⟨A,B,rfl⟩:=List.append_of_mem V;have d:n<os.length:=by omega
  have c:os[n]? =some os[n]:=List.getElem?_eq_getElem d;have m:=List.nodup_append.1 u;have C:n∉B:=(List.nodup_cons.1 m.2.1).1;have z:n∉A:=fun e=>m.2.2 n e n U5 rfl;have N:os.take (n+1)=os.take n++[os[n]]:=(List.take_append_getElem d).symm;rw[N,Ea] at h
  have j: ∀q∈A++B,q<n:=fun q M=>by
   have O:q<n+1:=g q (by rcases List.mem_append.1 M with h | h<;>simp[h])
   have i:q≠n:=fun e=>by
    subst e
    rcases List.mem_append.1 M with h | h
    .exact z h
    .exact C h
   omega
  have f:(A++B).Sublist (A++n::B):=List.Sublist.append (List.Sublist.refl A) (List.sublist_cons_self n B);have i:=X1I os bit t n _ (A++B) l w (u.sublist f) (by simp at v⊢;omega) j Q5 (D.sublist f) h
  rw[<-Ea] at i;rw[List.filterMap_append,List.append_assoc] at i;rw[List.filterMap_append,List.filterMap_cons,c];refine X2f (l:=l) (w:=w) (fun l w H=>?_) i;have:=Q2K (R:=[]) (B.filterMap (os[·]?)) (fun a U=>?_) H
  .rwa [List.append_nil] at this
  .obtain ⟨p,r,E⟩:=List.mem_filterMap.1 U
   have s:=j p (List.mem_append_right _ r);refine t p n a _ s E c ?_;have Q:=(List.pairwise_append.1 D).2.1;exact (List.pairwise_cons.1 Q).1 p r s
def Q6r (ops:List Oper) (a b:Oper):Bool:=
 (match a.guard with | none=>true | some _=>false)&&(match b.guard with | none=>true | some (j,_)=>match (ops[j]?).bind (·.dst) with | some _=>true | none=>false)&&
  (((Q3E a&&(Q3E b||Sq b)||Sq a&&Q6U b)&&(match b.guard with | none=>true | some _=>false))||Q6U a)
def X2S (ops:List Oper) (a:List Nat):Bool:=
 ops.any Q9d&&ops.any Q38&&(List.range ops.length).all fun q=>(List.range q).all fun p=>T8 ops a p q||Q6r ops (ops.getD (a.getD p 0) default) (ops.getD (a.getD q 0) default)
theorem Sw {α:Type} {R:α->α->Prop}: ∀(a b:List α) {L:List α},L=b++a->(∀b q a,L=b++q::a-> ∀p∈a,R q p)->a.Pairwise R
 | [],_,_,_,_=>List.Pairwise.nil
 | q::a,b,L,c,h=>List.pairwise_cons.2 ⟨h b q a c,Sw a (b++[q]) (by rw[c];simp) h⟩
theorem Q6L {P:Program} {ops:Array Oper} {L2:List Value->World->Prop} {l0:List Value} {ord L:List Nat} {bit:Nat->Nat->Bool} (ha:Arr ops.toList ord L) (hosl:(U2 ops.toList ord).length=ops.toList.length) (hn:Jx (G6 (U2 ops.toList ord))=true) (hbit: ∀p q,T8 ops.toList ord p q=true->bit p q=true)
 (hsq: ∀p q,p<q->q<ops.toList.length->(bit p q||Q6r ops.toList (ops.toList.getD (ord.getD p 0) default) (ops.toList.getD (ord.getD q 0) default))=true) (hpair:L.Pairwise fun q p=>p<q->bit p q=false) (w:World)
 (h:U0 P ops.toList L2 (U2 ops.toList ord) l0 w):U0 P ops.toList L2 (L.filterMap ((U2 ops.toList ord)[·]?)) l0 w:=by
 refine X1I (U2 ops.toList ord) bit (fun p q a b' hpq hpa hqb hb=>?_) _ L2 L l0 w ha.hn rfl (fun q hq=>by rw[ha.hLl];exact ha.hlt q hq) (by rw[ha.hLl];exact Nat.le_refl _) hpair (by rw[ha.hLl,List.take_length];exact h)
 have hql:q<ops.toList.length:=by have:=(List.getElem?_eq_some_iff.1 hqb).1;omega
 have hpl:p<ops.toList.length:=by omega
 have hget: ∀i o,(U2 ops.toList ord)[i]? =some o->ops.toList.getD (ord.getD i 0) default=o:=by
  intro i o hi;unfold U2 at hi;rw[List.getElem?_map] at hi;cases ho:ord[i]? with
  | none=>rw[ho] at hi;cases hi
  | some x=>
   rw[ho] at hi;simp only[Option.map_some,Option.some.injEq] at hi;rw[List.getD_eq_getElem?_getD (l:=ord),ho];exact hi
 have hnc:(Zi a b'||Zi b' a)=false:=by
  cases hx:Zi a b'||Zi b' a with
  | false=>rfl
  | true=>rw[hbit p q (ha.hclash p q a b' hpq hpa hqb hx)] at hb;cases hb
 rw[Bool.or_eq_false_iff] at hnc;have hs:=hsq p q hpq hql;rw[hb,Bool.false_or,hget p a hpa,hget q b' hqb] at hs;simp only[Q6r,Bool.and_eq_true,Bool.or_eq_true] at hs;obtain ⟨⟨g1,g2⟩,g3⟩:=hs
 have hga:a.guard=none:=by
  cases hx:a.guard with
  | none=>rfl
  | some _=>rw[hx] at g1;cases g1
 have c1: ∀d,a.dst=some d->d∉I5 b'/\b'.dst≠some d:=fun d hd=>by
  have:=hnc.1;unfold Zi at this;rw[hd] at this;simp only[Bool.or_eq_false_iff] at this;exact ⟨fun hm=>by simp[hm] at this,fun hm=>by simp[hm] at this⟩
 have c2: ∀d,b'.dst=some d->d∉I5 a:=fun d hd=>by
  have:=hnc.2;unfold Zi at this;rw[hd] at this;simp only[Bool.or_eq_false_iff] at this;exact fun hm=>by simp[hm] at this
 refine ⟨ha.hpl a (List.mem_of_getElem? hpa),ha.hpl b' (List.mem_of_getElem? hqb),hga,fun d hd'=>?_,fun d hd'=>?_,fun d hd'=>(c1 d hd').2,fun j c hbg=>?_,?_⟩
 .rw[List.mem_append,not_or]
  refine ⟨fun hm=>?_,(c1 d hd').1⟩;unfold G2 at hm;cases hbg:b'.guard with
  | none=>rw[hbg] at hm;simp at hm
  | some q0=>
   obtain ⟨j,c⟩:=q0;obtain ⟨p',hp',hpj,hbt⟩:=ha.hg q b' j c hqb hbg;rw[hbg] at hm;simp only at hm;cases hjd:ops.toList[j]?.map (·.dst) with
   | none=>
    cases hj:ops.toList[j]? with
    | none=>rw[hj] at hm;simp at hm
    | some oj=>rw[hj] at hjd;cases hjd
   | some dj=>
    cases hj:ops.toList[j]? with
    | none=>rw[hj] at hjd;cases hjd
    | some oj=>
     rw[hj] at hm hpj;simp only[Option.bind_some] at hm;cases hdj:oj.dst with
     | none=>rw[hdj] at hm;simp at hm
     | some d2=>
      rw[hdj] at hm;simp only[List.mem_singleton] at hm;subst hm;have:=Un (U2 ops.toList ord) hn p' p oj a d hpj hpa hdj hd';subst this;rw[hbit _ _ hbt] at hb;cases hb
 .rw[List.mem_append,not_or]
  exact ⟨fun hm=>by simp[G2,hga] at hm,c2 d hd'⟩
 .rw[hbg] at g2
  simp only at g2;cases hx:(ops.toList[j]?).bind (·.dst) with
  | none=>rw[hx] at g2;cases g2
  | some _=>rfl
 .rcases g3 with ⟨g3,g5⟩ | g3
  .have hn:b'.guard=none:=by
    cases hx:b'.guard with
    | none=>rfl
    | some _=>rw[hx] at g5;cases g5
   exact .inl (g3.imp (fun g=>⟨g.1,g.2,hn⟩) fun g=>⟨g.1,g.2,hn⟩)
  .exact .inr g3
theorem X7T (P:Program) (ops:Array Oper) (L2:List Value->World->Prop) (m:List Value) (a:Nj ops.toList m.length=true) (e:X2S ops.toList (H4 ops.toList)=true)
 (b:Bool) (t:Nat) (w:World) (h:U0 P ops.toList L2 (U2 ops.toList (H4 ops.toList)) m w):U0 P ops.toList L2 ((Region.schedule b ops t).filterMap (ops[·]?)) m w:=by
 obtain ⟨L,k,i,c⟩:=Q7u a b t;simp only[Nj,Bool.and_eq_true] at a;obtain ⟨⟨⟨⟨⟨E,C⟩,y⟩,D⟩,⟨z,A⟩,B⟩,r⟩:=a;generalize H4 ops.toList=f at*;rw[k];refine Q6L i c y (bit:=T8 ops.toList f) (fun _ _ h=>h) (fun p q d l=>?_) ?_ w h
 .simp only[X2S,Bool.and_eq_true] at e
  exact List.all_eq_true.1 (List.all_eq_true.1 e.2 q (by simpa using l)) p (by simpa using d)
 .refine Sw L [] (L:=L) rfl fun n q g j p s d=>?_
  cases v:T8 ops.toList f p q with
  | false=>rfl
  | true=>
   have u:=i.hC n q g j p v (i.hlt p (by rw[j];simp[s]))
   have o:=i.hn;rw[j] at o;exact absurd rfl ((List.nodup_append.1 o).2.2 p u p (by simp[s]))
def X8m (b:List Nat) (a c:Nat):List Nat:=((b.erase a).takeWhile (· !=c))++a::((b.erase a).dropWhile (· !=c))
def X06 (ops:List Oper) (d b:List Nat) (a c:Nat):Bool:=
 Q8p ops b&&Jx (G6 (U2 ops b))&&
  ((List.range ops.length).all fun q=>(List.range q).all fun p=>(T8 ops d p q||(d.getD p 0==c&&d.getD q 0==a))||Q6r ops (ops.getD (d.getD p 0) default) (ops.getD (d.getD q 0) default))&&
  ((List.range ops.length).all fun q=>(List.range q).all fun p=>(T8 ops b p q||(b.getD p 0==a&&b.getD q 0==c))||Q6r ops (ops.getD (b.getD p 0) default) (ops.getD (b.getD q 0) default))
def X2Y (ops:List Oper):Option (List Nat):=
 match ops.any Q9d&&ops.any Q38&&ops.any Sq with
 | true=>match ops.findIdx Sq !=ops.findIdx Q38&&X06 ops (H4 ops) (X8m (H4 ops) (ops.findIdx Sq) (ops.findIdx Q38)) (ops.findIdx Sq) (ops.findIdx Q38) with
  | true=>some (X8m (H4 ops) (ops.findIdx Sq) (ops.findIdx Q38))
  | false=>none
 | false=>none
theorem X6e {ops:Array Oper} {a f:List Nat} {x y:Nat} (U:f.Nodup) (v: ∀i∈f,i<ops.toList.length/\a.getD (a.idxOf i) 0=i) (m:Arr ops.toList a (f.map (a.idxOf ·))) (o: ∀e s c,f≠e++y::(s++x::c)):
 (f.map (a.idxOf ·)).Pairwise fun q p=>p<q->(T8 ops.toList a p q||(a.getD p 0==x&&a.getD q 0==y))=false:=by
 refine Sw _ [] (L:=f.map (a.idxOf ·)) rfl fun e q c b p l N=>?_;rw[Bool.or_eq_false_iff];constructor
 .cases J:T8 ops.toList a p q with
  | false=>rfl
  | true=>
   have h:=m.hC e q c b p J (m.hlt p (by rw[b];simp[l]))
   have g:=m.hn;rw[b] at g;exact absurd rfl ((List.nodup_append.1 g).2.2 p h p (by simp[l]))
 .rw[Bool.and_eq_false_iff]
  refine Classical.byContradiction fun d=>?_;rw[not_or] at d;obtain ⟨h,g⟩:=d;have h:a.getD p 0=x:=by simpa using h
  have g:a.getD q 0=y:=by simpa using g
  rw[List.map_eq_append_iff] at b;obtain ⟨j,u,B,_,w⟩:=b;rw[List.map_eq_cons_iff] at w;obtain ⟨i,t,C,O,r⟩:=w;rw[<-r,List.mem_map] at l;obtain ⟨k,M,n⟩:=l;obtain ⟨Q,R,D⟩:=List.append_of_mem M;subst C B D;have z:=(v i U5).2;have A:=(v k U5).2;rw[O] at z;rw[n] at A;have E:i=y:=by rw[<-z];exact g
  have H:k=x:=by rw[<-A];exact h
  subst E H;exact o j Q R rfl
theorem X6A (P:Program) (ops:Array Oper) (L2:List Value->World->Prop) (D:List Value) (A:Nj ops.toList D.length=true) {d:List Nat} {a c:Nat} (ae:a≠c) (C:X06 ops.toList (H4 ops.toList) d a c=true)
 (b:Bool) (t:Nat) (w:World) (h1:U0 P ops.toList L2 (U2 ops.toList (H4 ops.toList)) D w) (h2:U0 P ops.toList L2 (U2 ops.toList d) D w):U0 P ops.toList L2 ((Region.schedule b ops t).filterMap (ops[·]?)) D w:=by
 simp only[Nj,Bool.and_eq_true] at A;obtain ⟨⟨⟨⟨⟨U,R⟩,hn⟩,hd⟩,⟨u,v⟩,z⟩,B⟩:=A;simp only[X06,Bool.and_eq_true] at C;obtain ⟨⟨⟨j,M⟩,N⟩,O⟩:=C
 by_cases r: ∃i g f,Region.schedule b ops t=i++a::(g++c::f)
 .obtain ⟨E,n,H,o,J⟩:=Q0q U R u v z j b t
  rw[E];refine Q6L n H M (bit:=fun p q=>T8 ops.toList d p q||(d.getD p 0==a&&d.getD q 0==c)) (fun p q h=>by rw[h];rfl) (fun p q k l=>?_) (X6e o J n fun i g f e=>?_) w h2
  .exact List.all_eq_true.1 (List.all_eq_true.1 O q (by simpa using l)) p (by simpa using k)
  .obtain ⟨W,V,Q,X⟩:=r
   have s: ∀{L p m q:List Nat} {x y:Nat},L=p++x::(m++y::q)->L[p.length]? =some x/\L[p.length+1+m.length]? =some y/\p.length+1+m.length<L.length:=by
    rintro L p m q x y rfl;refine ⟨by simp,?_,by simp;omega⟩
    rw[List.getElem?_append_right Q5,show p.length+1+m.length-p.length=m.length+1 by omega,List.getElem?_cons_succ]
    simp
   obtain ⟨Y,Z,g3⟩:=s e;obtain ⟨g4,g5,g6⟩:=s X;have k1:=(List.getElem?_inj Q5 o).1 (Y.trans g5.symm);have k2:=(List.getElem?_inj Q5 o).1 (Z.trans g4.symm);omega
 .obtain ⟨E,n,H,o,J⟩:=Q0q U R u v z B b t
  rw[E];refine Q6L n H hn (bit:=fun p q=>T8 ops.toList (H4 ops.toList) p q||((H4 ops.toList).getD p 0==c&&(H4 ops.toList).getD q 0==a)) (fun p q h=>by rw[h];rfl) (fun p q k l=>?_) (X6e o J n fun i g f e=>r ⟨i,g,f,e⟩) w h1
  exact List.all_eq_true.1 (List.all_eq_true.1 N q (by simpa using l)) p (by simpa using k)
theorem X7U (P:Program) (ops:Array Oper) (L2:List Value->World->Prop) (d:List Value) (f:Nj ops.toList d.length=true) {a:List Nat} (c:X2Y ops.toList=some a)
 (b:Bool) (t:Nat) (w:World) (h:U0 P ops.toList L2 (U2 ops.toList (H4 ops.toList)) d w/\U0 P ops.toList L2 (U2 ops.toList a) d w):U0 P ops.toList L2 ((Region.schedule b ops t).filterMap (ops[·]?)) d w:=by
 unfold X2Y at c
 split at c
 .split at c
  .rename_i e
   cases c;rw[Bool.and_eq_true] at e;exact X6A P ops L2 d f (by simpa using e.1) e.2 b t w h.1 h.2
  .cases c
 .cases c
theorem X6f: ∃f:World->(World->Prop)->Prop,f=fun w A=>A w.drew:=⟨_,rfl⟩
noncomputable def sq:World->(World->Prop)->Prop:=Classical.choose X6f
theorem X2U:sq=fun w A=>A w.drew:=Classical.choose_spec X6f
def Q8t:List Ent->Nat->Ent->(List Ent->Prop)->Prop
 | [],_,_,k=>k []
 | _::l,0,e,k=>k (e::l)
 | x::l,n+1,e,k=>Q8t l n e (fun l'=>k (x::l'))
def Q0Y (S:List Ent) (d:Option Nat) (e:Ent) (k:List Ent->Prop):Prop:=
 match d with
 | some d=>Q8t S d e k
 | none=>k S
def X2m:List Ent->Nat->(Ent->Prop)->Prop
 | [],_,k=>k (.val undef)
 | x::_,0,k=>k x
 | _::l,n+1,k=>X2m l n k
def X3D (S:List Ent) (x:Operand) (k:Ent->Prop):Prop:=
 match x with
 | .tmp t=>X2m S t k
 | .const v=>k (.val v)
 | .global g=>k (.val (.pointer (some ⟨g,0,none⟩)))
 | .func f=>k (.val (.func (.func f) #[] #[]))
def Q3V (u:Nat->Value):List Ent->(List Value->Prop)->Prop
 | [],k=>k []
 | .val v::S,k=>Q3V u S (fun l=>k (v::l))
 | .ref j::S,k=>Q3V u S (fun l=>k (u j::l))
def X0d:List Value->(List Ent->Prop)->Prop
 | [],k=>k []
 | v::l,k=>X0d l (fun S=>k (.val v::S))
theorem X07: ∀(S:List Ent) (n:Nat) (e:Ent) (k:List Ent->Prop),Q8t S n e k=k (Q5s S n e)
 | [],_,_,_=>rfl
 | _::_,0,_,_=>rfl
 | _::l,n+1,e,k=>by simp only[Q8t,Q5s,X07 l n e]
theorem Sx (S:List Ent) (d:Option Nat) (e:Ent) (k:List Ent->Prop):Q0Y S d e k=k (putE S d e):=by
 cases d with
 | none=>rfl
 | some d=>exact X07 S d e k
theorem Q9b: ∀(S:List Ent) (n:Nat) (k:Ent->Prop),X2m S n k=k (getE S n)
 | [],_,_=>rfl
 | _::_,0,_=>rfl
 | _::l,n+1,k=>Q9b l n k
theorem X3E (S:List Ent) (x:Operand) (k:Ent->Prop):X3D S x k=k (entOf S x):=by
 cases x with
 | tmp t=>exact Q9b S t k
 | _=>rfl
theorem Q5a (u:Nat->Value): ∀(S:List Ent) (k:List Value->Prop),Q3V u S k=k (Qt u S)
 | [],_=>rfl
 | .val v::S,k=>by simp only[Q3V,Q5a u S];rfl
 | .ref j::S,k=>by simp only[Q3V,Q5a u S];rfl
theorem Q7d: ∀(l:List Value) (k:List Ent->Prop),X0d l k=k (l.map .val)
 | [],_=>rfl
 | v::l,k=>by simp only[X0d,Q7d l];rfl
noncomputable def Wv (P:Program) (r:Bool) (ops:List Oper) (T:(Nat->Iv)->World->World->Prop) (B:World->Prop) (L2:List Value->World->Prop) (tail:List Oper):Nat->List Oper->List Ent->Gm->List Nat->Prop
 | _,[],S,c,done=>Om done (fun _=>undef) fun u=>allI r fun b=> ∀w,B w->Q45 c u b w (Q3V u S fun l=>Xt P ops L2 tail l w) done
 | i,o::a,S,c,done=>
  match mv o with
  | some x=>X3D S x fun e=>Q0Y S o.dst e fun S=>Wv P r ops T B L2 tail (i+1) a S c done
  | none=>match X2B r o with
   | true=>match r with
    | true=>Q3Y T (fun φ=>Om (refs ops S o) (fun _=>undef) fun u=>allI true fun b=> ∀w,B w->Ot c u b w (runOp P ops (Qt u S) o w (dk (T b) (φ ((refs ops S o).map u)) w)) (refs ops S o))
     (fun φ=>Q0Y S o.dst (.ref i) fun d=>Wv P r ops T B L2 tail (i+1) a d (c++[(i,refs ops S o,fun xs (_:Iv)=>φ xs)]) (done++[i]))
    | false=>Gv (T ivZ) (fun φ=>Om (refs ops S o) (fun _=>undef) fun u=>allI false fun b=> ∀w,B w->Ot c u b w (runOp P ops (Qt u S) o w (dk (T b) (φ ((refs ops S o).map u)) w)) (refs ops S o))
     (fun φ=>Q0Y S o.dst (.ref i) fun d=>Wv P r ops T B L2 tail (i+1) a d (c++[(i,refs ops S o,fun xs (_:Iv)=>φ xs)]) (done++[i]))
   | false=>match X2A r o with
    | true=>Q2M T i (fun φ=>Om (refs ops S o) (fun _=>undef) fun u=>allI r fun b=> ∀w,B w->Ot c u b w (runOp P ops (Qt u S) o w (dkR (T b) φ w)) (refs ops S o))
     (fun φ=>Q0Y S o.dst (.ref i) fun d=>Wv P r ops T B L2 tail (i+1) a d (c++[(i,[],fun (_:List Value)=>φ)]) (done++[i]))
    | false=>match r with
     | true=>Qg T (fun φ=>Om (refs ops S o) (fun _=>undef) fun u=>allI true fun b=> ∀w,B w->Ot c u b w (runOp P ops (Qt u S) o w (dk (T b) φ w)) (refs ops S o))
      (fun φ=>Q0Y S o.dst (.ref i) fun d=>Wv P r ops T B L2 tail (i+1) a d (c++[(i,[],fun (_:List Value) (_:Iv)=>φ)]) (done++[i]))
     | false=>J3 (T ivZ) (fun φ=>Om (refs ops S o) (fun _=>undef) fun u=>allI false fun b=> ∀w,B w->Ot c u b w (runOp P ops (Qt u S) o w (dk (T b) φ w)) (refs ops S o))
      (fun φ=>Q0Y S o.dst (.ref i) fun d=>Wv P r ops T B L2 tail (i+1) a d (c++[(i,[],fun (_:List Value) (_:Iv)=>φ)]) (done++[i]))
theorem Ue (P:Program) (r:Bool) (ops:List Oper) (T:(Nat->Iv)->World->World->Prop) (B:World->Prop) (L2:List Value->World->Prop) (tail:List Oper): ∀(a:List Oper) (i:Nat) (S:List Ent) (b:Gm) (done:List Nat),
 Wv P r ops T B L2 tail i a S b done=chain P r ops T B L2 tail i a S b done
 | [],i,S,b,done=>by simp only[Wv,chain,Q5a]
 | o::a,i,S,b,done=>by
  simp only[Wv,chain]
  split
  .rw[X3E,Sx,Ue]
  .split
   .cases r with
    | true=>
     dsimp only
     congr 1
     funext φ
     rw[Sx,Ue]
    | false=>
     dsimp only
     congr 1
     funext φ
     rw[Sx,Ue]
   .split
    .congr 1
     funext φ
     rw[Sx,Ue]
    .cases r with
     | true=>
      dsimp only
      congr 1
      funext φ
      rw[Sx,Ue]
     | false=>
      dsimp only
      congr 1
      funext φ
      rw[Sx,Ue]
def X9c (ops:List Oper):Bool:=ops.any fun o=>(match o.op with | .build .. =>true | _=>false)&&decide (2<=((I5 o).filter fun s=>ops.any fun c=>Q38 c&&c.dst==some s).length)
def X8T (ops:List Oper):Bool:=ops.any fun o=>X5b o&&(I5 o).any fun s=>ops.any fun c=>X5b c&&c.dst==some s
def X9b (ops:List Oper):Bool:=decide (2<=(ops.filter Sq).length)&&ops.any Q9d
noncomputable def X3A (P:Program) (ops:List Oper) (L2:List Value->World->Prop) (l:List Value) (w:World):Prop:=
 drR w fun T B=>X0d l fun S=>Wv P true ops T B L2 ((U2 ops (H4 ops)).drop (Mc ops (H4 ops) ops.length)) 0 ((U2 ops (H4 ops)).take (Mc ops (H4 ops) ops.length)) S [] []
noncomputable def X5Y (P:Program) (ops:List Oper) (L2:List Value->World->Prop) (l:List Value) (w:World):Prop:=
 dr w fun T B=>X0d l fun S=>Wv P false ops (fun _=>T) B L2 ((U2 ops (H4 ops)).drop (Mc ops (H4 ops) ops.length)) 0 ((U2 ops (H4 ops)).take (Mc ops (H4 ops) ops.length)) S [] []
def Q4b (a b:List Nat):Bool:=a.all (b.contains ·)&&b.all (a.contains ·)
theorem Kl {a b:List Nat} (h:Q4b a b=true) (i:Nat):a.contains i=b.contains i:=by
 simp only[Q4b,Bool.and_eq_true,List.all_eq_true] at h;rw[Bool.eq_iff_iff];constructor
 .intro c;exact h.1 i (by simpa using c)
 .intro c;exact h.2 i (by simpa using c)
abbrev L7:=List (Option (List Nat×List Nat))
def L7.slots (a:L7):List (Option (List Nat)):=a.map (·.map (·.1))
theorem L7.slots_get (a:L7) (k:Nat):a.slots.getD k none=(a.getD k none).map (·.1):=by
 simp only[L7.slots,List.getD_eq_getElem?_getD,List.getElem?_map];cases a[k]? <;>rfl
noncomputable def Mz (P:Program) (a:L7) (b:List (Option (List Nat))):Nat->Code->Bp->List Value->World->Prop
 | _, .skip,Q,l,w=>Q .normal l w
 | _, .label _,Q,l,w=>Q .normal l w
 | _, .exit id,Q,l,w=>Q (.exit id) l w
 | _, .ret,Q,l,w=>Q .ret l w
 | _, .region _ ops false,Q,l,w=>Xt P ops.toList (fun l w=>Q .normal l w) ops.toList l w
 | _, .region _ ops true,Q,l,w=>match Nj ops.toList l.length with
  | true=>match X2S ops.toList (H4 ops.toList) with
   | true=>sq w fun w=>Xt P ops.toList (fun l w=>Q .normal l w) (U2 ops.toList (H4 ops.toList)) l w
   | false=>match X2Y ops.toList with
    | some g=>sq w fun w=>Xt P ops.toList (fun l w=>Q .normal l w) (U2 ops.toList (H4 ops.toList)) l w/\Xt P ops.toList (fun l w=>Q .normal l w) (U2 ops.toList g) l w
    | none=>match X9c ops.toList||(X8T ((U2 ops.toList (H4 ops.toList)).take (Mc ops.toList (H4 ops.toList) ops.toList.length))||X9b ((U2 ops.toList (H4 ops.toList)).take (Mc ops.toList (H4 ops.toList) ops.toList.length))) with
     | true=>X3A P ops.toList (fun l w=>Q .normal l w) l w
     | false=>X5Y P ops.toList (fun l w=>Q .normal l w) l w
  | false=>False
 | k, .seq x y,Q,l,w=>match a.getD k none with
  | none=>Mz P a b (k+1) x (thn (fun l w=>Mz P a b (k+1+Zo x) y Q l w) Q) l w
  | some (f,h)=>match Q4b h (C1 b (k+1) x) with
   | true=>jn w (fun J w=>Mz P a b (k+1) x (thn (fun l' w'=>J (Sj l' f) w') Q) l w)
    (fun z d w=>Ae f h z d 0 l fun l=>Mz P a b (k+1+Zo x) y Q l w)
   | false=>False
 | k, .cond c x y,Q,l,w=>X1 (ev l c) (Mz P a b k x Q l w) (Mz P a b (k+Zo x) y Q l w)
 | k, .block id c,Q,l,w=>Mz P a b k c (Q5V id Q) l w
 | k, .loop c,Q,l,w=>match a.getD k none with
  | none=>False
  | some (f,h)=>match Q4b h (C1 b (k+1) c) with
   | true=>lp (Sj l f) w (fun e x d w=>Ae f h x d 0 l fun l=>Mz P a b (k+1) c (thn (fun l' w'=>e (Sj l' f) w') Q) l w)
   | false=>False
 | _,_,_,_,_=>False
theorem Q3M {next a:List Value->World->Prop} {Q b:Bp} (c: ∀l w,next l w->a l w) (d: ∀e l w,Q e l w->b e l w): ∀e l w,thn next Q e l w->thn a b e l w:=by
 intro e l w h;cases e<;>first | exact c _ _ h | exact d _ _ _ h
theorem X4X (P:Program) (m:L7) (c:Code): ∀(k:Nat) (Q j:Bp) (l:List Value) (w:World),(∀e l w,Q e l w->j e l w)->
 Mz P m m.slots k c Q l w->Rh P m.slots k c j l w:=by
 induction c with
 | skip=>intro k Q j l w g h;exact g _ _ _ h
 | label n=>intro k Q j l w g h;exact g _ _ _ h
 | exit id=>intro k Q j l w g h;exact g _ _ _ h
 | ret=>intro k Q j l w g h;exact g _ _ _ h
 | goto n=>intro k Q j l w g h;exact h.elim
 | refuse s=>intro k Q j l w g h;exact h.elim
 | scope c=>intro k Q j l w g h;exact h.elim
 | rangeFunc f p a b=>intro k Q j l w g h;exact h.elim
 | region id ops v=>
  intro k Q j l w g h;cases v with
  | true=>
   simp only[Mz] at h
   split at h
   .rename_i q
    intro t
    have A:U0 P ops.toList (fun l w=>Q .normal l w) ((Region.schedule (P.follows .mixedOrders) ops t).filterMap (ops[·]?)) l w.drew:=by
     split at h
     .rename_i W
      simp only[X2U,Fm] at h;exact X7T P ops _ l q W _ t _ h
     .split at h
      .rename_i aa M
       simp only[X2U,Fm] at h;exact X7U P ops _ l q M _ t _ h
      .split at h
       .simp only[X3A,X3x,Q92,Q7d,Ue] at h
        obtain ⟨T,B,L,N,hM,h⟩:=h;exact X1d P true ops T B _ l q N hM h (P.follows .mixedOrders) t w.drew L
       .simp only[X5Y,X5W,X2g,Q7d,Ue] at h
        obtain ⟨T,B,L,N,h⟩:=h;exact X1d P false ops (fun _=>T) B _ l q (fun _=>N) (fun _ _ _ _=>Nat.le_refl _) h (P.follows .mixedOrders) t w.drew L
    refine Ww P _ _ _ (G6 ops.toList) l _ _ _ ?_ (Zg.refl _ _) (fun l w R _=>g _ _ _ R) A;intro o E d A;simp only[List.mem_filterMap] at E;obtain ⟨i,_,hi⟩:=E;simp only[G6,List.contains_eq_mem,List.mem_filterMap,decide_eq_true_eq];exact ⟨o,by simpa using Array.mem_of_getElem? hi,A⟩
   .exact h.elim
  | false=>
   simp only[Mz] at h;rw[Fm] at h;refine Ww P _ _ _ (G6 ops.toList) l _ _ _ ?_ (Zg.refl _ _) (fun l w R _=>g _ _ _ R) h;intro o E d A;simp only[G6,List.contains_eq_mem,List.mem_filterMap,decide_eq_true_eq];exact ⟨o,E,A⟩
 | seq x y r u=>
  intro k Q j l w g h;simp only[Mz,Rh] at h⊢;rw[L7.slots_get]
  split at h
  .rename_i C
   simp only[C,Option.map_none];exact r _ _ _ _ _ (Q3M (fun l w h=>u _ _ _ _ _ g h) g) h
  .rename_i sl wr C
   simp only[C,Option.map_some]
   split at h
   .rename_i U
    obtain ⟨J,h1,M⟩:=Q9g h;refine Yu J (r _ _ _ _ _ (Q3M (fun l w h=>h) g) h1) fun z d w hz=>?_;have Y:=M z d w hz;rw[Q7z,Pi _ _ _ (Kl U)] at Y;exact u _ _ _ _ _ g Y
   .exact h.elim
 | cond c x y r u=>
  intro k Q j l w g h;exact Q7p (r k _ _ _ _ g) (u _ _ _ _ _ g) h
 | block id c X=>
  intro k Q j l w g h;refine X k _ _ _ _ ?_ h;intro e l' w' D;cases e with
  | exit ag=>simp only[Q5V] at D⊢;split<;>rename_i O<;>simp only[O,if_true,if_false] at D<;>exact g _ _ _ D
  | _=>exact g _ _ _ D
 | loop c X=>
  intro k Q j l w g h;simp only[Mz,Rh] at h⊢
  split at h
  .exact h.elim
  .rename_i sl wr C
   have V:(m.slots.getD k none).getD []=sl:=by rw[L7.slots_get,C];rfl
   split at h
   .rename_i U
    subst V;refine Q7K (fun H x d w Z=>?_) h;rw[Q7z,Pi _ _ _ (Kl U)] at Z;exact X _ _ _ _ _ (Q3M (fun l w h=>h) g) Z
   .exact h.elim
def Q6j (P:Program) (t:TypeId) (a:Value) (w:World) (K:Value->Prop):Prop:= ∃v,(do loadVar t (<-asAddr a):Sem Value).run P w= .ok v w/\K v
theorem Q6l: ∃f:Program->TypeId->Value->World->(Value->Prop)->Prop,f=Q6j:=⟨_,rfl⟩
noncomputable def J5:Program->TypeId->Value->World->(Value->Prop)->Prop:=Classical.choose Q6l
theorem Q6k:J5=Q6j:=Classical.choose_spec Q6l
noncomputable def Q9W (P:Program) (l:List Value) (K:List Value->World->Prop):List ResultVar->List Value->World->Prop
 | [],b,w=>K b.reverse w
 | .tmp t::c,b,w=>Q9W P l K c (get l t::b) w
 | .cell a t::c,b,w=>J5 P t (get l a) w fun v=>Q9W P l K c (v::b) w
def Q6t:List Value->Value
 | [v]=>v
 | vs=> .tuple vs.toArray
noncomputable def results (P:Program) (a:List ResultVar) (K:Value->World->Prop) (l:List Value) (w:World):Prop:=
 Q9W P l (fun vs w=>K (Q6t vs) w) a [] w
noncomputable def X00 (P:Program) (fn:Func) (K:Value->World->Prop):Bp
 | .normal,l,w | .ret,l,w=>results P fn.results.toList K l w
 | _,_,_=>False
def X5y (K:Value->World->Prop) (e:Ending) (w:World):Prop:=match e with | .returned v=>K v w | _=>False
theorem Q9a (a:Array Value) (t:Nat):a.getD t undef=get a.toList t:=by
 simp[get,List.getD_eq_getElem?_getD]
theorem X4y (vs:List Value):(if h:vs.toArray.size=1 then vs.toArray[0] else Value.tuple vs.toArray)=Q6t vs:=by
 match vs with
 | []=>rfl
 | [v]=>rfl
 | _::_::_=>rfl
theorem Q5p (P:Program) (l:List Value) (K:List Value->World->Prop) (f:ResultVar->Sem Value)
 (c: ∀t,f (.tmp t)=Pure.pure (get l t)) (d: ∀a t,f (.cell a t)=(do loadVar t (<-asAddr (get l a)))): ∀(e:List ResultVar) (b:List Value) (w:World),Q9W P l K e b w->
 ∃vs,(e.mapM f).run P w= .ok vs w/\K (b.reverse++vs) w
 | [],b,w,h=>⟨[],by simp,by rw[List.append_nil];exact h⟩
 | .tmp t::e,b,w,h=>by
  obtain ⟨vs,g,i⟩:=Q5p P l K f c d e _ w h;refine ⟨get l t::vs,?_,by simpa using i⟩
  rw[List.mapM_cons,c]
  simp[g]
 | .cell a t::e,b,w,h=>by
  simp only[Q9W,Q6k] at h;obtain ⟨v,j,h⟩:=h;obtain ⟨vs,g,i⟩:=Q5p P l K f c d e _ w h;refine ⟨v::vs,?_,by simpa using i⟩
  rw[List.mapM_cons,d,Sem.run_bind,j]
  simp[g]
def X8q (a:Array Value):ResultVar->Sem Value
 | .tmp t=>Pure.pure (a.getD t undef)
 | .cell b t=>do loadVar t (<-asAddr (a.getD b undef))
theorem Q9Z (fn:Func) (a:Array Value):Go.results fn a=(do
 let vs<-fn.results.mapM (X8q a)
 Pure.pure (if h:vs.size=1 then vs[0] else .tuple vs)):=by
 unfold Go.results
 congr 1
theorem Q4W (P:Program) (fn:Func) (K:Value->World->Prop) (a:Array Value) (w:World) (h:results P fn.results.toList K a.toList w):
 ∃v,(Go.results fn a).run P w= .ok v w/\K v w:=by
 rw[Q9Z,Array.mapM_eq_mapM_toList];obtain ⟨vs,b,c⟩:=Q5p P a.toList (fun vs w=>K (Q6t vs) w) (X8q a) (fun t=>by rw[<-Q9a];rfl) (fun d t=>by rw[<-Q9a];rfl) fn.results.toList [] w h
 refine ⟨Q6t vs,?_,by simpa using c⟩
 rw[Sem.run_bind,Sem.run_map,b];simp only[Result.andThen_ok,Sem.run_pure,X4y]
def Ad (fn:Func) (a:List Value):List Value:=a++List.replicate (fn.ntmps-a.length) undef
theorem Q8N {P:Program} {f:FuncId} {fn:Func} {c:Code} {b:List Value} {w:World} {K:Value->World->Prop} (d:List (Option (List Nat)))
 (k:P.funcs[f]? =some fn) (j:fn.body=some c) (h:Rh P d 0 c (X00 P fn K) (Ad fn b) w):Calls P f b.toArray w (X5y K):=by
 refine calls_of_wp k j (wp_mono (X3u P d c 0 (X00 P fn K) _ w rfl ?_) ?_)
 .have:(b.toArray++Array.replicate (fn.ntmps-b.toArray.size) undef).toList=Ad fn b:=by simp[Ad]
  simp only[this];exact h
 .intro e a w ⟨i,g⟩
  cases e with
  | normal=>exact ⟨i,Q4W P fn K _ _ g⟩
  | ret=>exact ⟨i,Q4W P fn K _ _ g⟩
  | _=>exact g.elim
theorem On {P:Program} {f:FuncId} {fn:Func} {a:List Value} {w:World} {K:Value->World->Prop}
 (i:P.funcs[f]? =some fn) (d:fn.body.isSome=true) (j:(fn.name== "runtime.NumGoroutine")=false) (h:Calls P f a.toArray w (X5y K)):Q0 P f a w K:=by
 have k:(callFunc f a.toArray).run P w= .ok (.enter f a.toArray) w:=by
  unfold callFunc;simp only[Sem.run_bind,run_program,Result.andThen_ok,i,j,Bool.false_eq_true,if_false];cases b:fn.body with
  | none=>rw[b] at d;cases d
  | some c=>simp
 unfold Q0;rw[Yw];unfold Yd;rw[k];refine h.mono fun e w' g=>?_;cases e<;>exact g
theorem Q6J {P:Program} {f:FuncId} {fn:Func} {a:List Value} {w:World} {K:Value->World->Prop}
 (i:P.funcs[f]? =some fn) (d:fn.body.isSome=true) (j:(fn.name== "runtime.NumGoroutine")=false) (h:Q0 P f a w K):Calls P f a.toArray w (X5y K):=by
 have k:(callFunc f a.toArray).run P w= .ok (.enter f a.toArray) w:=by
  unfold callFunc;simp only[Sem.run_bind,run_program,Result.andThen_ok,i,j,Bool.false_eq_true,if_false];cases b:fn.body with
  | none=>rw[b] at d;cases d
  | some c=>simp
 unfold Q0 at h;rw[Yw] at h;unfold Yd at h;rw[k] at h;refine Calls.mono h fun e w' g=>?_;cases e<;>exact g
theorem X7l {P:Program} {f:FuncId} {fn:Func} {b:List Value} {w:World} {K:Value->World->Prop} (a:L7)
 (g:P.funcs[f]? =some fn) (d:fn.body.isSome=true) (i:(fn.name== "runtime.NumGoroutine")=false)
 (h:Mz P a a.slots 0 (fn.body.getD .skip) (X00 P fn K) (Ad fn b) w):Q0 P f b w K:=by
 refine On g d i ?_;obtain ⟨c,e⟩:=Option.isSome_iff_exists.1 d;rw[e] at h;exact Q8N a.slots g e (X4X P a c 0 _ _ _ _ (fun _ _ _ h=>h) h)
theorem X7k {P:Program} {f:FuncId} {fn:Func} {a:List Value} {w:World} {K:Value->World->Prop} {g:Prop} (b:L7)
 (e:P.funcs[f]? =some fn) (c:fn.body.isSome=true) (i:(fn.name== "runtime.NumGoroutine")=false)
 (d:g=Mz P b b.slots 0 (fn.body.getD .skip) (X00 P fn K) (Ad fn a) w) (h:g):Q0 P f a w K:=
 X7l b e c i (d▸h)
theorem U3 {P:Program} {f:FuncId} {first caps:List Value} {a:List Value} {w:World} {K:Value->World->Prop} (h:Q0 P f (first++a++caps) w K):U7 P (.func (.func f) first.toArray caps.toArray) a w K:=by
 simpa [U7,Q0,Deferred.ofValue,invoke,pure_bind,List.append_toArray] using h
end Go.Emb
namespace Go.Proofs.Y
noncomputable abbrev P : Program := Tryz.prog
end Go.Proofs.Y
namespace Go.Proofs.Y.F
abbrev c9 : Nat := 3
abbrev ak : Nat := 8
abbrev aL : Nat := 9
abbrev aI : Nat := 10
abbrev aG : Nat := 11
abbrev c : Nat := 12
abbrev am : Nat := 13
abbrev bp : Nat := 14
abbrev aP : Nat := 16
abbrev cI : Nat := 17
abbrev aj : Nat := 18
abbrev c1 : Nat := 19
abbrev bd : Nat := 20
abbrev q : Nat := 21
abbrev u : Nat := 22
abbrev cp : Nat := 23
abbrev aM : Nat := 24
abbrev cY : Nat := 25
abbrev au : Nat := 26
abbrev bg : Nat := 27
abbrev an : Nat := 28
abbrev cA : Nat := 29
abbrev cq : Nat := 30
abbrev aK : Nat := 31
abbrev b5 : Nat := 33
abbrev cz : Nat := 34
abbrev a0 : Nat := 35
abbrev d0 : Nat := 36
abbrev aF : Nat := 37
abbrev bY : Nat := 38
abbrev cZ : Nat := 39
abbrev bm : Nat := 40
abbrev bD : Nat := 41
abbrev bG : Nat := 42
abbrev c3 : Nat := 43
abbrev c2 : Nat := 44
abbrev b7 : Nat := 45
abbrev ca : Nat := 46
abbrev c0 : Nat := 47
abbrev b9 : Nat := 48
abbrev a5 : Nat := 49
abbrev aD : Nat := 50
abbrev cD : Nat := 51
abbrev b8 : Nat := 52
abbrev aR : Nat := 53
abbrev bR : Nat := 54
abbrev bT : Nat := 55
abbrev w : Nat := 56
abbrev bI : Nat := 57
abbrev bS : Nat := 58
abbrev cb : Nat := 59
abbrev bJ : Nat := 60
abbrev av : Nat := 61
abbrev cJ : Nat := 62
abbrev cK : Nat := 63
abbrev l : Nat := 64
abbrev aV : Nat := 65
abbrev ch : Nat := 66
abbrev cS : Nat := 67
abbrev cG : Nat := 68
abbrev cL : Nat := 69
abbrev k : Nat := 70
abbrev bi : Nat := 71
abbrev p : Nat := 72
abbrev bs : Nat := 73
abbrev bt : Nat := 74
abbrev bb : Nat := 75
abbrev bA : Nat := 76
abbrev bx : Nat := 77
abbrev b : Nat := 78
abbrev bl : Nat := 79
abbrev al : Nat := 80
abbrev b4 : Nat := 81
abbrev be : Nat := 82
abbrev bf : Nat := 83
abbrev aZ : Nat := 84
abbrev b0 : Nat := 85
abbrev a4 : Nat := 86
abbrev a3 : Nat := 87
abbrev d4 : Nat := 88
abbrev ad : Nat := 89
abbrev aO : Nat := 90
abbrev bL : Nat := 91
abbrev bM : Nat := 92
abbrev o : Nat := 93
abbrev bH : Nat := 94
abbrev i : Nat := 95
abbrev aT : Nat := 96
abbrev aH : Nat := 97
abbrev cj : Nat := 98
abbrev bU : Nat := 99
abbrev bN : Nat := 100
abbrev a2 : Nat := 101
abbrev s : Nat := 102
abbrev f : Nat := 103
abbrev cQ : Nat := 104
abbrev cH : Nat := 105
abbrev aa : Nat := 106
abbrev af : Nat := 107
abbrev cf : Nat := 108
abbrev ba : Nat := 109
abbrev y : Nat := 110
abbrev cd : Nat := 111
abbrev d : Nat := 112
abbrev a1 : Nat := 113
abbrev bq : Nat := 114
abbrev ao : Nat := 115
abbrev ap : Nat := 116
abbrev b1 : Nat := 117
abbrev a : Nat := 118
abbrev aJ : Nat := 119
abbrev cm : Nat := 120
abbrev bh : Nat := 121
abbrev bK : Nat := 122
abbrev bz : Nat := 123
abbrev bB : Nat := 124
abbrev bC : Nat := 125
abbrev aX : Nat := 126
abbrev bk : Nat := 127
abbrev z : Nat := 128
abbrev aY : Nat := 129
abbrev cE : Nat := 130
abbrev bP : Nat := 131
abbrev aQ : Nat := 132
abbrev bZ : Nat := 133
abbrev a8 : Nat := 134
abbrev r : Nat := 135
abbrev b6 : Nat := 136
abbrev br : Nat := 137
abbrev ck : Nat := 138
abbrev cF : Nat := 139
abbrev ai : Nat := 140
abbrev e : Nat := 141
abbrev ah : Nat := 142
abbrev cu : Nat := 143
abbrev cv : Nat := 144
abbrev ab : Nat := 145
abbrev aU : Nat := 146
abbrev cw : Nat := 147
abbrev aE : Nat := 148
abbrev cx : Nat := 149
abbrev az : Nat := 150
abbrev cy : Nat := 151
abbrev ax : Nat := 152
abbrev bF : Nat := 153
abbrev bW : Nat := 154
abbrev aq : Nat := 155
abbrev bc : Nat := 156
abbrev ag : Nat := 157
abbrev ae : Nat := 158
abbrev x : Nat := 159
abbrev j : Nat := 160
abbrev cl : Nat := 161
abbrev h : Nat := 162
abbrev d1 : Nat := 163
abbrev cN : Nat := 164
abbrev aS : Nat := 165
abbrev v : Nat := 166
abbrev a9 : Nat := 167
abbrev b3 : Nat := 168
abbrev aN : Nat := 169
abbrev d5 : Nat := 170
abbrev ct : Nat := 171
abbrev ar : Nat := 172
abbrev d2 : Nat := 173
abbrev ac : Nat := 175
abbrev bO : Nat := 176
abbrev bE : Nat := 177
abbrev cc : Nat := 178
abbrev cr : Nat := 179
abbrev aW : Nat := 180
abbrev aA : Nat := 181
abbrev cn : Nat := 182
abbrev cC : Nat := 183
abbrev g : Nat := 184
abbrev ce : Nat := 185
abbrev c8 : Nat := 186
abbrev c6 : Nat := 187
abbrev bV : Nat := 188
abbrev bn : Nat := 189
abbrev ay : Nat := 190
abbrev bo : Nat := 191
abbrev cR : Nat := 192
abbrev aw : Nat := 193
abbrev d6 : Nat := 197
abbrev b2 : Nat := 198
abbrev aC : Nat := 199
abbrev ci : Nat := 202
abbrev cO : Nat := 203
abbrev cg : Nat := 204
abbrev cs : Nat := 205
abbrev n : Nat := 206
abbrev c7 : Nat := 207
abbrev co : Nat := 208
abbrev cX : Nat := 209
abbrev m : Nat := 210
abbrev c5 : Nat := 211
abbrev bv : Nat := 214
abbrev a7 : Nat := 218
abbrev cW : Nat := 219
abbrev cP : Nat := 220
abbrev cT : Nat := 221
abbrev a6 : Nat := 222
abbrev bw : Nat := 225
abbrev bu : Nat := 226
abbrev d7 : Nat := 230
abbrev cB : Nat := 231
abbrev t : Nat := 232
abbrev d3 : Nat := 233
abbrev cM : Nat := 235
abbrev bj : Nat := 236
abbrev aB : Nat := 237
abbrev bQ : Nat := 238
abbrev cU : Nat := 239
abbrev bX : Nat := 240
abbrev c4 : Nat := 241
abbrev cV : Nat := 242
end Go.Proofs.Y.F
namespace Go.Proofs.Y.T
abbrev x : Nat := 0
abbrev a4 : Nat := 2
abbrev f : Nat := 3
abbrev r : Nat := 4
abbrev a9 : Nat := 5
abbrev b : Nat := 9
abbrev aC : Nat := 12
abbrev ar : Nat := 21
abbrev a8 : Nat := 22
abbrev d : Nat := 24
abbrev a6 : Nat := 25
abbrev a1 : Nat := 26
abbrev i : Nat := 27
abbrev g : Nat := 28
abbrev a : Nat := 30
abbrev q : Nat := 40
abbrev a2 : Nat := 42
abbrev aa : Nat := 43
abbrev av : Nat := 46
abbrev ay : Nat := 51
abbrev m : Nat := 54
abbrev v : Nat := 57
abbrev ac : Nat := 62
abbrev l : Nat := 63
abbrev n : Nat := 65
abbrev p : Nat := 67
abbrev a5 : Nat := 68
abbrev z : Nat := 79
abbrev aw : Nat := 95
abbrev t : Nat := 98
abbrev k : Nat := 99
abbrev o : Nat := 103
abbrev ag : Nat := 112
abbrev a7 : Nat := 116
abbrev a3 : Nat := 118
abbrev h : Nat := 119
abbrev j : Nat := 120
abbrev c : Nat := 122
abbrev y : Nat := 129
abbrev s : Nat := 130
abbrev u : Nat := 131
abbrev e : Nat := 133
abbrev ad : Nat := 136
abbrev ab : Nat := 138
abbrev au : Nat := 158
abbrev a0 : Nat := 165
abbrev ae : Nat := 167
abbrev ai : Nat := 168
abbrev af : Nat := 182
abbrev am : Nat := 185
abbrev w : Nat := 189
abbrev aj : Nat := 201
abbrev aA : Nat := 207
abbrev ao : Nat := 209
abbrev ap : Nat := 210
abbrev al : Nat := 214
abbrev an : Nat := 217
abbrev az : Nat := 220
abbrev aq : Nat := 222
abbrev aE : Nat := 233
abbrev aB : Nat := 237
abbrev ah : Nat := 241
abbrev ak : Nat := 242
abbrev ax : Nat := 253
abbrev aD : Nat := 257
end Go.Proofs.Y.T
namespace Go.Proofs.Y.G
abbrev b : Nat := 0
abbrev e : Nat := 1
abbrev d : Nat := 2
abbrev a : Nat := 3
abbrev c : Nat := 4
end Go.Proofs.Y.G
namespace Go.Proofs.Y
open Go.Emb
set_option maxRecDepth 100000
def Y3 (T:World->World->Prop) (B:World->Prop) (A:World->(Value->World->Prop)->Prop) (R:(Value->World->Prop)->Prop):Prop:=J3 T (fun φ=> ∀w,B w->A w (dk T φ w)) R
def X3 (T:World->World->Prop) (B:World->Prop) (f:Value->World->Prop) (A:Value->World->(Value->World->Prop)->Prop) (R:(Value->World->Prop)->Prop):Prop:=J3 T (fun φ=> ∀x w,B w->f x w->A x w (dk T φ w)) R
def L9 (T:World->World->Prop) (B:World->Prop) (f g:Value->World->Prop) (A:Value->Value->World->(Value->World->Prop)->Prop) (R:(Value->World->Prop)->Prop):Prop:=J3 T (fun φ=> ∀x y w,B w->f x w->g y w->A x y w (dk T φ w)) R
def Xq (T:World->World->Prop) (B:World->Prop) (f g h:Value->World->Prop) (A:Value->Value->Value->World->(Value->World->Prop)->Prop) (R:(Value->World->Prop)->Prop):Prop:=J3 T (fun φ=> ∀x y z w,B w->f x w->g y w->h z w->A x y z w (dk T φ w)) R
def N0 (T:TypeId) (v:Value) (w:World) (K:Value->World->Prop):Prop:=G9 P T w fun t w=>J9 P T t v w fun _ w=>K t w
def D9 (t:Value) (w:World) (K:Value->Value->World->Prop):Prop:=ext P t 0 w fun a w=>ext P t 1 w fun b w=>K a b w
def Z8 (c:Value) (b:Bool) (w:World) (S T:TypeId) (a:Value) (i:Nat) (K:Value->World->Prop):Prop:=Q1 c b w (fieldAddr P S a i) fun e w=>Q1 c b w (Q6 P T e) K
def zhi (c:Value) (b:Bool) (w:World) (S T:TypeId) (a i:Value) (K:Value->World->Prop):Prop:=Q1 c b w (indexAddr P S a i) fun e w=>Q1 c b w (Q6 P T e) K
def Y1 (S T:TypeId) (a:Value) (i:Nat) (w:World) (K:Value->World->Prop):Prop:=fieldAddr P S a i w fun e w=>Q6 P T e w K
def V1 (S T:TypeId) (a i:Value) (w:World) (K:Value->World->Prop):Prop:=indexAddr P S a i w fun e w=>Q6 P T e w K
def V3 (n:Nat) (x:Value) (w:World) (A:Value->World->Prop):Prop:=Z9 P .add T.f (.tmp n) (.const (.int .i64 1)) x (.int .i64 1) w fun t w=>A t w
def X6 (c:Value) (b:Bool) (v:Value) (w:World) (K:Value->World->Prop):Prop:=Q1 c b w (fun w J=>J v w) K
def V8 (c:Value) (A:World->(Value->World->Prop)->Prop):World->(Value->World->Prop)->Prop:=fun w=>Q1 c true w A
def Wn (c:Value) (A:World->(Value->World->Prop)->Prop):World->(Value->World->Prop)->Prop:=fun w=>Q1 c false w A
def Y0 (S:TypeId) (v:Value):World->(Value->World->Prop)->Prop:=V0 P .len [S] T.f [false] [v]
def X4 (o:BinOp) (T:TypeId) (n:Nat) (v:Value) (z:Int):World->(Value->World->Prop)->Prop:=Z9 P o T (.tmp n) (.const (.int .i64 z)) v (.int .i64 z)
def V5 (o:BinOp) (T:TypeId) (n:Nat) (v:Value) (z:Array UInt8):World->(Value->World->Prop)->Prop:=Z9 P o T (.tmp n) (.const (.string ⟨z⟩)) v (.string ⟨z⟩)
def X5 (o:BinOp) (T:TypeId) (n m:Nat) (u v:Value):World->(Value->World->Prop)->Prop:=Z9 P o T (.tmp n) (.tmp m) u v
abbrev zV0:Type:=World->(Value->World->Prop)->Prop
abbrev H0:Type:=Value->zV0
abbrev L3:Type:=Value->H0
abbrev Yy:Type:=Value->L3
abbrev zV4:Type:=Value->Yy
abbrev zV5:Type:=Value->zV4
theorem zr {f:FuncId} {fn:Func} {a:List Value} {w:World} {K:Value->World->Prop} {g:Prop} (b:L7) (e:P.funcs[f]? =some fn) (h:g) (c:fn.body.isSome=true:=by rfl) (i:(fn.name== "runtime.NumGoroutine")=false:=by decide) (d:g=Mz P b b.slots 0 (fn.body.getD .skip) (X00 P fn K) (Ad fn a) w:=by kernel_rfl):Q0 P f a w K:=X7k b e c i d h
def Y4 (k:Nat):L7:=List.replicate k none
variable {w : World} {K : Value -> World -> Prop} {a0 a1 a2 a3 a4 a5 a6 a7 : Value}
def Q9r:L7:=[none,none,none,none,some ([1,10],[1,3,10,11,12,13,14,15,16,17,18])]++Y4 5
def Q2W:zV0:=fun w K=>B7 P T.c [(0,(.string ⟨#[79,98,106,101,99,116]⟩))] w fun i w=>B7 P T.o [(0,(.string ⟨#[119,104,97,116]⟩)),(1,(.string ⟨#[116,101,120,116]⟩))] w fun j w=>buildSlice P T.k 1 [(0,j)] w fun k w=>B7 P T.c [(0,(.string ⟨#[70,97,117,108,116]⟩)),(1,(.string ⟨#[79,98,106,101,99,116]⟩)),(6,k)] w fun l w=>buildSlice P T.i 2 [(0,i),(1,l)] w fun m w=>Q6 P T.au (.pointer (some ⟨G.b,0,none⟩)) w fun n w=>lp (α:=Value×Value) (m,(.int .i64 0)) w fun a b o w=>X4 .lss T.f 10 b.2 6 w fun c w=>X1 c (P0 P T.au n b.2 w fun d w=>B7 P T.c [(0,d),(1,(.string ⟨#[70,97,117,108,116]⟩)),(5,(.bool true))] w fun e w=>buildSlice P T.i 1 [(0,e)] w fun f w=>V0 P .append [T.i,T.i] T.i [false,false] [b.1,f] w fun g w=>X4 .add T.f 10 b.2 1 w fun h w=>a (g,h) w) (K b.1 w)
theorem Q9H (h:Q2W w K):Q0 P F.cS [] w K:=zr Q9r Tryz.func67 h
def Q9o:L7:=[none,none,none,some ([8],[2,4,8,9,10,11,12,13,14,15,16,17,18,19,20,21,22,23,24,25,26,27,28,29,30,31,32,33])]++Y4 7
def Q2S:H0:=fun L w K=>box P T.c L w fun a w=>Y1 T.c T.j a 7 w fun J w=>Y0 T.j J w fun M w=>lp (α:=Value) (.int .i64 0) w fun c H O w=>X5 .lss T.f 8 7 H M w fun N w=>X1 N (V1 T.j T.e J H w fun i w=>N0 T.e i w fun b w=>Y1 T.e T.h b 1 w fun j w=>Y0 T.h j w fun k w=>X4 .gtr T.f 14 k 32 w fun d w=>Z8 d false w T.e T.u b 6 fun l w=>Q1 d false w (Y0 T.u l) fun m w=>Q1 d false w (X4 .gtr T.f 19 m 32) fun n w=>pick P d (.bool true) n w fun e w=>Z8 e false w T.e T.s b 5 fun o w=>Q1 e false w (Y0 T.s o) fun p w=>Q1 e false w (X4 .gtr T.f 25 p 200) fun q w=>pick P e (.bool true) q w fun h w=>Z8 h false w T.e T.f b 4 fun r w=>Q1 h false w (X4 .gtr T.f 30 r 64) fun s w=>pick P h (.bool true) s w fun t w=>X1 t (K (.bool true) w) (V3 8 H w c)) (Y1 T.c T.h a 2 w fun u w=>Y0 T.h u w fun v w=>X4 .gtr T.f 36 v 32 w fun f w=>Z8 f false w T.c T.k a 6 fun y w=>Q1 f false w (Y0 T.k y) fun z w=>Q1 f false w (X4 .gtr T.f 41 z 32) fun A w=>pick P f (.bool true) A w fun g w=>Z8 g false w T.c T.j a 7 fun B w=>Q1 g false w (Y0 T.j B) fun C w=>Q1 g false w (X4 .gtr T.f 47 C 32) fun D w=>pick P g (.bool true) D w fun E w=>K E w)
theorem Q9D (h:Q2S a0 w K):Q0 P F.cQ [a0] w K:=zr Q9o Tryz.func104 h
def Jw:L7:=[none,none,none,some ([8],[4,5,8,9,10,11,12,13,14,15,16,17,18])]++Y4 7
def T5:L3:=fun e f w K=>Y0 T.j e w fun g w=>lp (α:=Value) (.int .i64 0) w fun a b i w=>X5 .lss T.f 8 7 b g w fun h w=>X1 h (V1 T.j T.e e b w fun c w=>U7 P f [c] w fun d w=>X1 d (K b w) (V3 8 b w a)) (K (.int .i64 (-1)) w)
theorem Ub (h:T5 a0 a1 w K):Q0 P F.h [a0,a1] w K:=zr Jw Tryz.func162 h
def K4:L3:=fun a b w K=>Q0 P F.h [a,b] w fun c w=>X4 .geq T.f 7 c 0 w fun d w=>K d w
theorem Zp (h:K4 a0 a1 w K):Q0 P F.a [a0,a1] w K:=zr (Y4 2) Tryz.func118 h
def X2z:L7:=[none,none,none,some ([],[4,6,9,10,11,12,13,14,15])]++Y4 6
def Q5R:L3:=fun g h w K=>rng P T.b g w fun i w=>lp (α:=Unit) () w fun a k j w=>L2 P i true T.x w fun f w=>ext P f 0 w fun b w=>X1 b (ext P f 2 w fun c w=>U7 P h [c] w fun d w=>W0 P .not d w fun e w=>X1 e (K (.bool false) w) (a () w)) (K (.bool true) w)
theorem X2L (h:Q5R a0 a1 w K):Q0 P F.cO [a0,a1] w K:=zr X2z Tryz.func203 h
def Q32:H0:=fun b w K=>Z9 P .geq T.ar (.tmp 3) (.const (.int .i32 65)) b (.int .i32 65) w fun a w=>X6 a true b w fun c w=>Q1 a true w (Z9 P .leq T.ar (.tmp 6) (.const (.int .i32 90)) c (.int .i32 90)) fun d w=>pick P a d (.bool false) w fun e w=>K e w
theorem Q9N (h:Q32 a0 w K):Q0 P F.cr [a0] w K:=zr (Y4 2) Tryz.func179 h
def Q33:H0:=fun b w K=>Z9 P .geq T.ar (.tmp 3) (.const (.int .i32 97)) b (.int .i32 97) w fun a w=>X6 a true b w fun c w=>Q1 a true w (Z9 P .leq T.ar (.tmp 6) (.const (.int .i32 122)) c (.int .i32 122)) fun d w=>pick P a d (.bool false) w fun e w=>K e w
theorem Q9O (h:Q33 a0 w K):Q0 P F.cs [a0] w K:=zr (Y4 2) Tryz.func205 h
def Q1P:H0:=fun c w K=>Q0 P F.cr [c] w fun j w=>X6 j false c w fun k w=>Q1 j false w (Q0 P F.cs [k]) fun l w=>pick P j (.bool true) l w fun b w=>X6 b false c w fun d w=>Q1 b false w (Z9 P .geq T.ar (.tmp 10) (.const (.int .i32 48)) d (.int .i32 48)) fun e w=>X6 b false e w fun a w=>X6 a true c w fun f w=>Q1 a true w (Z9 P .leq T.ar (.tmp 13) (.const (.int .i32 57)) f (.int .i32 57)) fun g w=>Q1 b false w (pick P a g (.bool false)) fun h w=>pick P b (.bool true) h w fun i w=>K i w
theorem Q8j (h:Q1P a0 w K):Q0 P F.cg [a0] w K:=zr (Y4 2) Tryz.func204 h
def Q4R:H0:=fun c w K=>V5 .eql T.b 3 c #[] w fun d w=>X6 d false c w fun n w=>Q1 d false w (Y0 T.b n) fun o w=>Q1 d false w (X4 .gtr T.f 7 o 32) fun p w=>pick P d (.bool true) p w fun b w=>X6 b false c w fun e w=>Q1 b false w (P0 P T.b e (.int .i64 0)) fun f w=>Q1 b false w (Z9 P .geq T.a9 (.tmp 12) (.const (.int .u8 48)) f (.int .u8 48)) fun g w=>X6 b false g w fun a w=>X6 a true c w fun h w=>Q1 a true w (P0 P T.b h (.int .i64 0)) fun i w=>Q1 a true w (Z9 P .leq T.a9 (.tmp 16) (.const (.int .u8 57)) i (.int .u8 57)) fun j w=>Q1 b false w (pick P a j (.bool false)) fun k w=>pick P b (.bool true) k w fun l w=>X1 l (K (.bool false) w) (Q0 P F.cO [c,(.func (.func F.cg) #[] #[])] w fun m w=>K m w)
theorem X0T (h:Q4R a0 w K):Q0 P F.cc [a0] w K:=zr (Y4 5) Tryz.func178 h
def Q2Y:H0:=fun c w K=>Q0 P F.cc [c] w fun a w=>X6 a true c w fun d w=>Q1 a true w (P0 P T.b d (.int .i64 0)) fun e w=>Q1 a true w (conv P T.a9 T.ar e) fun f w=>Q1 a true w (Q0 P F.cr [f]) fun g w=>pick P a g (.bool false) w fun b w=>K b w
theorem Q9J (h:Q2Y a0 w K):Q0 P F.ai [a0] w K:=zr (Y4 2) Tryz.func140 h
def Hs:L7:=[none,none,none,some ([8],[4,5,8,9,10,11,12,13,14,15,16,17,18])]++Y4 7
def Zm:L3:=fun e f w K=>Y0 T.h e w fun g w=>lp (α:=Value) (.int .i64 0) w fun a b i w=>X5 .lss T.f 8 7 b g w fun h w=>X1 h (V1 T.h T.b e b w fun c w=>X5 .eql T.b 11 15 f c w fun d w=>X1 d (K b w) (V3 8 b w a)) (K (.int .i64 (-1)) w)
theorem Hz (h:Zm a0 a1 w K):Q0 P F.aA [a0,a1] w K:=zr Hs Tryz.func181 h
def Yh:L3:=fun a b w K=>Q0 P F.aA [a,b] w fun c w=>X4 .geq T.f 7 c 0 w fun d w=>K d w
theorem Ny (h:Yh a0 a1 w K):Q0 P F.ah [a0,a1] w K:=zr (Y4 2) Tryz.func142 h
def Pl:H0:=fun b w K=>box P T.e b w fun a w=>Y1 T.e T.r a 3 w fun c w=>K c w
theorem Q68 (h:Pl a0 w K):Q0 P F.cu [a0] w K:=zr (Y4 2) Tryz.func143 h
def Pm:H0:=fun b w K=>box P T.e b w fun a w=>Y1 T.e T.r a 3 w fun c w=>W0 P .not c w fun d w=>K d w
theorem Q69 (h:Pm a0 w K):Q0 P F.cv [a0] w K:=zr (Y4 2) Tryz.func144 h
def Nc:L7:=[none,none,none,some ([8],[4,5,8,9,10,11,12,13,14,15,16,17,18])]++Y4 7
def Ya:L3:=fun e f w K=>Y0 T.h e w fun g w=>lp (α:=Value) (.int .i64 0) w fun a b i w=>X5 .lss T.f 8 7 b g w fun h w=>X1 h (V1 T.h T.b e b w fun c w=>U7 P f [c] w fun d w=>X1 d (K b w) (V3 8 b w a)) (K (.int .i64 (-1)) w)
theorem Nd (h:Ya a0 a1 w K):Q0 P F.x [a0,a1] w K:=zr Nc Tryz.func159 h
def Xd:L3:=fun a b w K=>Q0 P F.x [a,b] w fun c w=>X4 .geq T.f 7 c 0 w fun d w=>K d w
theorem Wo (h:Xd a0 a1 w K):Q0 P F.d [a0,a1] w K:=zr (Y4 2) Tryz.func112 h
def Nr:L3:=fun a b w K=>Q6 P T.ac b w fun c w=>U7 P c [a] w fun d w=>W0 P .not d w fun e w=>K e w
theorem Tn (h:Nr a0 a1 w K):Q0 P F.cn [a0,a1] w K:=zr (Y4 2) Tryz.func182 h
def Em:L3:=fun b c w K=>box P T.ac c w fun a w=>C5 P (.func F.cn) [] [a] w fun d w=>Q0 P F.d [b,d] w fun e w=>W0 P .not e w fun f w=>K f w
theorem Q17 (h:Em a0 a1 w K):Q0 P F.ab [a0,a1] w K:=zr (Y4 2) Tryz.func145 h
def Dg:Yy:=fun k f l w K=>dr w fun b a=>Y3 b a (Q6 P T.ag f) fun j=>X3 b a j (fun e=>U7 P e [k]) fun m=>Y3 b a (Q6 P T.ag f) fun n=>Y3 b a (Q6 P T.b l) fun o=> ∀e g h i w,a w->j e w->m g w->n h w->o i w->U7 P h [i] w fun c w=>X5 .eql T.b 7 10 g c w fun d w=>K d w
theorem Ay (h:Dg a0 a1 a2 w K):Q0 P F.cC [a0,a1,a2] w K:=zr (Y4 2) Tryz.func183 h
def Q1W:L7:=[none,none,none,some ([9],[4,5,6,9,10,11,12,13,14,15,16,17,18,19])]++Y4 7
def Rp:L3:=fun e k w K=>box P T.ag k w fun a w=>Y0 T.h e w fun l w=>lp (α:=Value) (.int .i64 0) w fun b d m w=>X5 .lss T.f 9 8 d l w fun f w=>X1 f (V1 T.h T.b e d w fun g w=>N0 T.b g w fun c w=>I3 P T.h e none (some d) none w fun h w=>C5 P (.func F.cC) [] [a,c] w fun i w=>Q0 P F.d [h,i] w fun j w=>X1 j (K (.bool false) w) (V3 9 d w b)) (K (.bool true) w)
theorem Q2e (h:Rp a0 a1 w K):Q0 P F.aU [a0,a1] w K:=zr Q1W Tryz.func146 h
def Q5M:H0:=fun a w K=>K a w
theorem Q6a (h:Q5M a0 w K):Q0 P F.cw [a0] w K:=zr (Y4 2) Tryz.func147 h
def Ur:L7:=[none,none,none,some ([8],[4,5,8,9,10,11,12,13,14,15,16,17,18])]++Y4 7
def Qk:L3:=fun e f w K=>Y0 T.k e w fun g w=>lp (α:=Value) (.int .i64 0) w fun a b i w=>X5 .lss T.f 8 7 b g w fun h w=>X1 h (V1 T.k T.o e b w fun c w=>U7 P f [c] w fun d w=>X1 d (K b w) (V3 8 b w a)) (K (.int .i64 (-1)) w)
theorem Va (h:Qk a0 a1 w K):Q0 P F.j [a0,a1] w K:=zr Ur Tryz.func160 h
def T0:L3:=fun a b w K=>Q0 P F.j [a,b] w fun c w=>X4 .geq T.f 7 c 0 w fun d w=>K d w
theorem Jf (h:T0 a0 a1 w K):Q0 P F.g [a0,a1] w K:=zr (Y4 2) Tryz.func184 h
def Lh:Yy:=fun n h o w K=>box P T.o n w fun a w=>dr w fun c b=>Y3 c b (Q6 P T.af h) fun l=>Y3 c b (Q6 P T.o a) fun m=>L9 c b l m (fun f g=>U7 P f [g]) fun p=>Y3 c b (Q6 P T.af h) fun q=>Y3 c b (Q6 P T.o o) fun r=> ∀f g i j k w,b w->l f w->m g w->p i w->q j w->r k w->U7 P j [k] w fun d w=>X5 .eql T.b 7 10 i d w fun e w=>K e w
theorem Kb (h:Lh a0 a1 a2 w K):Q0 P F.ce [a0,a1,a2] w K:=zr (Y4 2) Tryz.func185 h
def Tg:L7:=[none,none,none,some ([9],[4,5,6,9,10,11,12,13,14,15,16,17,18,19])]++Y4 7
def Ns:L3:=fun e k w K=>box P T.af k w fun a w=>Y0 T.k e w fun l w=>lp (α:=Value) (.int .i64 0) w fun b d m w=>X5 .lss T.f 9 8 d l w fun f w=>X1 f (V1 T.k T.o e d w fun g w=>N0 T.o g w fun c w=>I3 P T.k e none (some d) none w fun h w=>C5 P (.func F.ce) [] [a,c] w fun i w=>Q0 P F.g [h,i] w fun j w=>X1 j (K (.bool false) w) (V3 9 d w b)) (K (.bool true) w)
theorem To (h:Ns a0 a1 w K):Q0 P F.aE [a0,a1] w K:=zr Tg Tryz.func148 h
def Pn:H0:=fun b w K=>box P T.o b w fun a w=>Y1 T.o T.b a 0 w fun c w=>K c w
theorem Q6b (h:Pn a0 w K):Q0 P F.cx [a0] w K:=zr (Y4 2) Tryz.func149 h
def Wg:Yy:=fun n h o w K=>box P T.e n w fun a w=>dr w fun c b=>Y3 c b (Q6 P T.ae h) fun l=>Y3 c b (Q6 P T.e a) fun m=>L9 c b l m (fun f g=>U7 P f [g]) fun p=>Y3 c b (Q6 P T.ae h) fun q=>Y3 c b (Q6 P T.e o) fun r=> ∀f g i j k w,b w->l f w->m g w->p i w->q j w->r k w->U7 P j [k] w fun d w=>X5 .eql T.b 7 10 i d w fun e w=>K e w
theorem Gb (h:Wg a0 a1 a2 w K):Q0 P F.c8 [a0,a1,a2] w K:=zr (Y4 2) Tryz.func186 h
def Kq:L7:=[none,none,none,some ([9],[4,5,6,9,10,11,12,13,14,15,16,17,18,19])]++Y4 7
def Mt:L3:=fun e k w K=>box P T.ae k w fun a w=>Y0 T.j e w fun l w=>lp (α:=Value) (.int .i64 0) w fun b d m w=>X5 .lss T.f 9 8 d l w fun f w=>X1 f (V1 T.j T.e e d w fun g w=>N0 T.e g w fun c w=>I3 P T.j e none (some d) none w fun h w=>C5 P (.func F.c8) [] [a,c] w fun i w=>Q0 P F.a [h,i] w fun j w=>X1 j (K (.bool false) w) (V3 9 d w b)) (K (.bool true) w)
theorem Kv (h:Mt a0 a1 w K):Q0 P F.az [a0,a1] w K:=zr Kq Tryz.func150 h
def Po:H0:=fun b w K=>box P T.e b w fun a w=>Y1 T.e T.b a 0 w fun c w=>K c w
theorem Q6c (h:Po a0 w K):Q0 P F.cy [a0] w K:=zr (Y4 2) Tryz.func151 h
def Wd:L3:=fun b c w K=>box P T.o b w fun a w=>Q6 P T.am c w fun d w=>Q6 P T.o a w fun e w=>U7 P d [e] w fun f w=>W0 P .not f w fun g w=>K g w
theorem Fz (h:Wd a0 a1 w K):Q0 P F.c6 [a0,a1] w K:=zr (Y4 2) Tryz.func187 h
def Mq:L3:=fun b c w K=>box P T.am c w fun a w=>C5 P (.func F.c6) [] [a] w fun d w=>Q0 P F.g [b,d] w fun e w=>W0 P .not e w fun f w=>K f w
theorem Kt (h:Mq a0 a1 w K):Q0 P F.ax [a0,a1] w K:=zr (Y4 2) Tryz.func152 h
def Q30:H0:=fun a w K=>V5 .eql T.b 3 a #[105,110,116] w fun e w=>X6 e false a w fun g w=>Q1 e false w (V5 .eql T.b 6 g #[98,111,111,108]) fun h w=>pick P e (.bool true) h w fun f w=>X6 f false a w fun b w=>Q1 f false w (V5 .eql T.b 10 b #[116,101,120,116]) fun c w=>pick P f (.bool true) c w fun d w=>K d w
theorem Q9L (h:Q30 a0 w K):Q0 P F.aQ [a0] w K:=zr (Y4 2) Tryz.func132 h
def Mv:L3:=fun b c w K=>Y0 T.b b w fun n w=>Y0 T.b c w fun o w=>X5 .geq T.f 6 8 n o w fun a w=>X6 a true b w fun d w=>X6 a true b w fun e w=>Q1 a true w (Y0 T.b e) fun f w=>X6 a true c w fun g w=>Q1 a true w (Y0 T.b g) fun h w=>Q1 a true w (X5 .sub T.f 13 15 f h) fun i w=>Q1 a true w (I3 P T.b d (some i) none none) fun j w=>X6 a true c w fun k w=>Q1 a true w (X5 .eql T.b 17 18 j k) fun l w=>pick P a l (.bool false) w fun m w=>K m w
theorem Kx (h:Mv a0 a1 w K):Q0 P F.ac [a0,a1] w K:=zr (Y4 2) Tryz.func175 h
def Sf:L3:=fun a b w K=>Q0 P F.ac [a,b] w fun c w=>K c w
theorem Q2u (h:Sf a0 a1 w K):Q0 P F.bO [a0,a1] w K:=zr (Y4 2) Tryz.func176 h
def Lj:L3:=fun a f w K=>Q0 P F.ac [a,f] w fun g w=>X1 g (Y0 T.b a w fun b w=>Y0 T.b f w fun c w=>X5 .sub T.f 10 12 b c w fun d w=>I3 P T.b a none (some d) none w fun e w=>K e w) (K a w)
theorem Ke (h:Lj a0 a1 w K):Q0 P F.ci [a0,a1] w K:=zr (Y4 5) Tryz.func202 h
def Hl:L3:=fun a b w K=>Q0 P F.ci [a,b] w fun c w=>K c w
theorem Q1u (h:Hl a0 a1 w K):Q0 P F.bE [a0,a1] w K:=zr (Y4 2) Tryz.func177 h
def X0J:L7:=[none,none,none,some ([0,4],[0,4,5,6,7,8,9,10]),none,none,none]
def Q4S:H0:=fun d w K=>lp (α:=Value×Value) (d,(.int .i64 0)) w fun a b g w=>Q0 P F.bO [b.1,(.string ⟨#[91,93]⟩)] w fun e w=>X1 e (Q0 P F.bE [b.1,(.string ⟨#[91,93]⟩)] w fun f w=>X4 .add T.f 9 b.2 1 w fun c w=>a (f,c) w) (K (.tuple #[b.1,b.2]) w)
theorem X0U (h:Q4S a0 w K):Q0 P F.cF [a0] w K:=zr X0J Tryz.func139 h
def Q31:H0:=fun j w K=>Q0 P F.cF [j] w fun k w=>D9 k w fun i l w=>X4 .leq T.f 10 l 3 w fun a w=>X6 a true i w fun c w=>Q1 a true w (Q0 P F.aQ [c]) fun d w=>X6 a true d w fun b w=>X6 b false i w fun e w=>Q1 b false w (Q0 P F.ai [e]) fun f w=>Q1 a true w (pick P b (.bool true) f) fun g w=>pick P a g (.bool false) w fun h w=>K h w
theorem Q9M (h:Q31 a0 w K):Q0 P F.a2 [a0] w K:=zr (Y4 3) Tryz.func101 h
def Af:H0:=fun b w K=>Q0 P F.cc [b] w fun a w=>X6 a true b w fun c w=>Q1 a true w (Q0 P F.ai [c]) fun d w=>Q1 a true w (W0 P .not d) fun e w=>pick P a e (.bool false) w fun f w=>K f w
theorem Q76 (h:Af a0 w K):Q0 P F.bW [a0] w K:=zr (Y4 2) Tryz.func154 h
def Pp:H0:=fun d w K=>box P T.o d w fun a w=>Y1 T.o T.b a 0 w fun e w=>Q0 P F.bW [e] w fun c w=>Z8 c true w T.o T.b a 1 fun f w=>Q1 c true w (Q0 P F.a2 [f]) fun g w=>pick P c g (.bool false) w fun b w=>K b w
theorem Q6d (h:Pp a0 w K):Q0 P F.bF [a0] w K:=zr (Y4 2) Tryz.func153 h
def Vh:L3:=fun b c w K=>box P T.e b w fun a w=>Q6 P T.ai c w fun d w=>Q6 P T.e a w fun e w=>U7 P d [e] w fun f w=>W0 P .not f w fun g w=>K g w
theorem Bt (h:Vh a0 a1 w K):Q0 P F.bV [a0,a1] w K:=zr (Y4 2) Tryz.func188 h
def Lg:L3:=fun b c w K=>box P T.ai c w fun a w=>C5 P (.func F.bV) [] [a] w fun d w=>Q0 P F.a [b,d] w fun e w=>W0 P .not e w fun f w=>K f w
theorem Ka (h:Lg a0 a1 w K):Q0 P F.aq [a0,a1] w K:=zr (Y4 2) Tryz.func155 h
def Ie:L3:=fun u t w K=>box P T.w u w fun a w=>Y1 T.w T.f a 0 w fun v w=>X4 .geq T.f 5 v 0 w fun f w=>Z8 f true w T.w T.f a 1 fun y w=>Z8 f true w T.w T.f a 0 fun g w=>Q1 f true w (X5 .gtr T.f 9 11 y g) fun h w=>pick P f h (.bool false) w fun b w=>Z8 b true w T.w T.f a 1 fun i w=>Q1 b true w (Q6 P T.f t) fun j w=>Q1 b true w (X5 .leq T.f 16 17 i j) fun k w=>pick P b k (.bool false) w fun d w=>Z8 d true w T.w T.f a 2 fun l w=>Q1 d true w (X4 .geq T.f 22 l 0) fun m w=>pick P d m (.bool false) w fun c w=>Z8 c true w T.w T.f a 2 fun n w=>Q1 c true w (Q6 P T.f t) fun o w=>Q1 c true w (X5 .lss T.f 27 28 n o) fun p w=>pick P c p (.bool false) w fun e w=>Z8 e true w T.w T.b a 3 fun q w=>Q1 e true w (Q0 P F.ai [q]) fun r w=>pick P e r (.bool false) w fun s w=>K s w
theorem Q5l (h:Ie a0 a1 w K):Q0 P F.bn [a0,a1] w K:=zr (Y4 2) Tryz.func189 h
def Us:L7:=[none,none,none,some ([8],[4,5,8,9,10,11,12,13,14,15,16,17,18])]++Y4 7
def Ql:L3:=fun e f w K=>Y0 T.s e w fun g w=>lp (α:=Value) (.int .i64 0) w fun a b i w=>X5 .lss T.f 8 7 b g w fun h w=>X1 h (V1 T.s T.y e b w fun c w=>U7 P f [c] w fun d w=>X1 d (K b w) (V3 8 b w a)) (K (.int .i64 (-1)) w)
theorem Vb (h:Ql a0 a1 w K):Q0 P F.a7 [a0,a1] w K:=zr Us Tryz.func218 h
def T1:L3:=fun a b w K=>Q0 P F.a7 [a,b] w fun c w=>X4 .geq T.f 7 c 0 w fun d w=>K d w
theorem Jg (h:T1 a0 a1 w K):Q0 P F.n [a0,a1] w K:=zr (Y4 2) Tryz.func206 h
def We:L3:=fun b c w K=>box P T.y b w fun a w=>Q6 P T.an c w fun d w=>Q6 P T.y a w fun e w=>U7 P d [e] w fun f w=>W0 P .not f w fun g w=>K g w
theorem Ga (h:We a0 a1 w K):Q0 P F.c7 [a0,a1] w K:=zr (Y4 2) Tryz.func207 h
def Ms:L3:=fun b c w K=>box P T.an c w fun a w=>C5 P (.func F.c7) [] [a] w fun d w=>Q0 P F.n [b,d] w fun e w=>W0 P .not e w fun f w=>K f w
theorem Ku (h:Ms a0 a1 w K):Q0 P F.ay [a0,a1] w K:=zr (Y4 2) Tryz.func190 h
def Ln:L7:=[none,none,none,some ([8],[4,5,8,9,10,11,12,13,14,15,16,17,18])]++Y4 7
def Xo:L3:=fun e f w K=>Y0 T.ax e w fun g w=>lp (α:=Value) (.int .i64 0) w fun a b i w=>X5 .lss T.f 8 7 b g w fun h w=>X1 h (V1 T.ax T.ah e b w fun c w=>U7 P f [c] w fun d w=>X1 d (K b w) (V3 8 b w a)) (K (.int .i64 (-1)) w)
theorem Lu (h:Xo a0 a1 w K):Q0 P F.t [a0,a1] w K:=zr Ln Tryz.func232 h
def Q1H:L3:=fun b c w K=>box P T.ah b w fun a w=>Y1 T.ah T.b a 0 w fun d w=>Q6 P T.b c w fun e w=>X5 .eql T.b 5 6 d e w fun f w=>K f w
theorem Q8b (h:Q1H a0 a1 w K):Q0 P F.d3 [a0,a1] w K:=zr (Y4 2) Tryz.func233 h
def Q4L:H0:=fun b w K=>box P T.b b w fun a w=>I3 P T.ak (.pointer (some ⟨G.a,0,none⟩)) none none none w fun c w=>C5 P (.func F.d3) [] [a] w fun d w=>Q0 P F.t [c,d] w fun e w=>K e w
theorem X0N (h:Q4L a0 w K):Q0 P F.cW [a0] w K:=zr (Y4 2) Tryz.func219 h
def Q2U:H0:=fun p w K=>Q0 P F.cW [p] w fun m w=>X4 .lss T.f 8 m 0 w fun q w=>X1 q (K (.tuple #[(.bool false),(.bool false),(.bool false)]) w) (dr w fun f a=>Y3 f a (indexAddr P T.ak (.pointer (some ⟨G.a,0,none⟩)) m) fun i=>X3 f a i (fun b=>fieldAddr P T.ah b 1) fun j=>Y3 f a (indexAddr P T.ak (.pointer (some ⟨G.a,0,none⟩)) m) fun k=>X3 f a k (fun d=>fieldAddr P T.ah d 2) fun l=>X3 f a j (fun c=>Q6 P T.r c) fun n=>X3 f a l (fun e=>Q6 P T.r e) fun o=> ∀b c d e g h w,a w->i b w->j c w->k d w->l e w->n g w->o h w->K (.tuple #[g,h,(.bool true)]) w)
theorem Q9F (h:Q2U a0 w K):Q0 P F.co [a0] w K:=zr (Y4 6) Tryz.func208 h
def Q4P:H0:=fun c w K=>Q0 P F.cF [c] w fun d w=>D9 d w fun f e w=>Q0 P F.a2 [c] w fun a w=>W0 P .not a w fun b w=>X1 b (K (.int .i64 0) w) (K e w)
theorem X0R (h:Q4P a0 w K):Q0 P F.cE [a0] w K:=zr (Y4 6) Tryz.func130 h
def Mw:L3:=fun a b w K=>Q0 P F.c4 [a,b] w fun c w=>K c w
theorem Ky (h:Mw a0 a1 w K):Q0 P F.aB [a0,a1] w K:=zr (Y4 2) Tryz.func237 h
def Q26:L7:=Y4 17++[some ([8,10],[4,8,10,11,12,13,57,58,59,60,61,62,63,64,65,66,67,68,69,70,71,72,73,74,75,76,77,78,79,80,81,82,83,84,85,86,87,88,89,90,91,92,93,94,95,96,97,98,99,100,101,102,103,104,105,106,107,108,109,110,111,112,113,114,115,116,117,118,119,120,121,122,123,124,125,126,127,128,129,130,131,132,133,134,135,136,137,138,139,140,141,142]),none,none,some ([8],[4,8,11,60,61,62,63,64,65,66,67,68,69,70,71,72,73,74,75,76,77])]++Y4 23
def Sh:L3:=fun h k w K=>Y0 T.b k w fun d w=>X4 .eql T.f 17 d 0 w fun l w=>X6 l false k w fun Z w=>X6 l false h w fun aa w=>Q1 l false w (X5 .eql T.b 20 21 Z aa) fun ab w=>pick P l (.bool true) ab w fun ac w=>X1 ac (K (.int .i64 0) w) (X4 .eql T.f 25 d 1 w fun ad w=>X1 ad (P0 P T.b k (.int .i64 0) w fun ae w=>Q0 P F.aB [h,ae] w fun af w=>K af w) (Y0 T.b h w fun ag w=>X5 .geq T.f 32 34 d ag w fun ah w=>X1 ah (K (.int .i64 (-1)) w) (Q6 P T.f (.pointer (some ⟨G.c,0,none⟩)) w fun ai w=>X5 .leq T.f 37 38 d ai w fun m w=>X6 m true h w fun aj w=>Q1 m true w (Y0 T.b aj) fun ak w=>Q1 m true w (X4 .leq T.f 42 ak 64) fun al w=>pick P m al (.bool false) w fun am w=>X1 am (Q0 P F.cB [h,k] w fun an w=>K an w) (P0 P T.b k (.int .i64 0) w fun X w=>P0 P T.b k (.int .i64 1) w fun ao w=>Y0 T.b h w fun ap w=>X5 .sub T.f 53 54 ap d w fun aq w=>X4 .add T.f 55 aq 1 w fun p w=>lp (α:=Value×Value) ((.int .i64 0),(.int .i64 0)) w fun i g d_ w=>X5 .lss T.f 57 58 g.1 p w fun ar w=>X1 ar (jn (α:=Value) w (fun r w=>P0 P T.b h g.1 w fun av w=>X5 .neq T.a9 62 63 av X w fun aw w=>X1 aw (X4 .add T.f 66 g.1 1 w fun ax w=>I3 P T.b h (some ax) (some p) none w fun ay w=>Q0 P F.aB [ay,X] w fun Y w=>X4 .lss T.f 72 Y 0 w fun az w=>X1 az (K (.int .i64 (-1)) w) (X4 .add T.f 75 Y 1 w fun a2 w=>X5 .add T.f 74 76 g.1 a2 w fun a3 w=>r a3 w)) (r g.1 w)) fun j d_ w=>X4 .add T.f 79 j 1 w fun a4 w=>P0 P T.b h a4 w fun a5 w=>X5 .eql T.a9 81 82 a5 ao w fun b w=>X6 b true h w fun a6 w=>X6 b true j w fun a7 w=>X6 b true j w fun a8 w=>X6 b true d w fun a9 w=>Q1 b true w (X5 .add T.f 87 88 a8 a9) fun ba w=>Q1 b true w (I3 P T.b a6 (some a7) (some ba) none) fun bb w=>X6 b true k w fun bc w=>Q1 b true w (X5 .eql T.b 90 91 bb bc) fun bd w=>pick P b bd (.bool false) w fun be w=>X1 be (K j w) (X4 .add T.f 95 j 1 w fun e w=>X4 .add T.f 97 g.2 1 w fun q w=>Q6 P T.f (.pointer (some ⟨G.c,0,none⟩)) w fun s w=>X5 .leq T.f 99 100 d s w fun c w=>X6 c true q w fun t w=>X6 c true e w fun u w=>Q1 c true w (Q0 P F.d7 [u]) fun v w=>Q1 c true w (X5 .gtr T.f 103 105 t v) fun y w=>pick P c y (.bool false) w fun z w=>X1 z (I3 P T.b h (some e) none none w fun A w=>Q0 P F.cB [A,k] w fun n w=>X4 .geq T.f 113 n 0 w fun B w=>X1 B (X5 .add T.f 115 116 n e w fun C w=>K C w) (K (.int .i64 (-1)) w)) (Q6 P T.f (.pointer (some ⟨G.c,0,none⟩)) w fun D w=>X5 .gtr T.f 118 119 d D w fun a w=>X6 a true q w fun E w=>X6 a true e w fun H w=>Q1 a true w (Z9 P .shr T.f (.tmp 123) (.const (.int .u64 4)) H (.int .u64 4)) fun J w=>Q1 a true w (Z9 P .add T.f (.const (.int .i64 4)) (.tmp 124) (.int .i64 4) J) fun L w=>Q1 a true w (X5 .geq T.f 122 125 E L) fun M w=>pick P a M (.bool false) w fun f w=>X6 f true e w fun N w=>X6 f true p w fun O w=>Q1 f true w (X5 .lss T.f 129 130 N O) fun Q w=>pick P f Q (.bool false) w fun R w=>X1 R (I3 P T.b h (some e) none none w fun U w=>Q0 P F.cV [U,k] w fun o w=>X4 .lss T.f 138 o 0 w fun V w=>X1 V (K (.int .i64 (-1)) w) (X5 .add T.f 140 141 e o w fun W w=>K W w)) (i (e,q) w)))) (K (.int .i64 (-1)) w)))))
theorem Q2w (h:Sh a0 a1 w K):Q0 P F.bQ [a0,a1] w K:=zr Q26 Tryz.func238 h
def Ff:L3:=fun j n w K=>Q0 P F.bQ [j,n] w fun a w=>X4 .geq T.f 11 a 0 w fun k w=>X1 k (dr w fun i d=>Y3 i d (I3 P T.b j none (some a) none) fun l=>Y3 i d (Y0 T.b n) fun g=>X3 i d g (fun b=>X5 .add T.f 17 19 a b) fun h=>X3 i d h (fun c=>I3 P T.b j (some c) none none) fun m=> ∀e b c f w,d w->l e w->g b w->h c w->m f w->K (.tuple #[e,f,(.bool true)]) w) (K (.tuple #[j,(.string ⟨#[]⟩),(.bool false)]) w)
theorem Q4B (h:Ff a0 a1 w K):Q0 P F.cU [a0,a1] w K:=zr (Y4 6) Tryz.func239 h
def Q1Q:L3:=fun e f w K=>Q0 P F.cU [e,f] w fun d w=>D9 d w fun a b w=>ext P d 2 w fun c w=>K (.tuple #[a,b,c]) w
theorem Q8k (h:Q1Q a0 a1 w K):Q0 P F.cM [a0,a1] w K:=zr (Y4 2) Tryz.func235 h
def Q2Z:H0:=fun t w K=>Q0 P F.cM [t,(.string ⟨#[46]⟩)] w fun e w=>D9 e w fun f d w=>ext P e 2 w fun g w=>W0 P .not g w fun b w=>X6 b false f w fun h w=>Q1 b false w (Q0 P F.ai [h]) fun i w=>Q1 b false w (W0 P .not i) fun j w=>pick P b (.bool true) j w fun c w=>X6 c false d w fun k w=>Q1 c false w (Q0 P F.cc [k]) fun l w=>Q1 c false w (W0 P .not l) fun m w=>pick P c (.bool true) m w fun a w=>X6 a false d w fun n w=>Q1 a false w (P0 P T.b n (.int .i64 0)) fun o w=>Q1 a false w (conv P T.a9 T.ar o) fun p w=>Q1 a false w (Q0 P F.cs [p]) fun q w=>Q1 a false w (W0 P .not q) fun r w=>pick P a (.bool true) r w fun s w=>X1 s (K (.tuple #[(.string ⟨#[]⟩),(.string ⟨#[]⟩),(.int .i64 30)]) w) (K (.tuple #[f,d,(.int .i64 0)]) w)
theorem Q9K (h:Q2Z a0 w K):Q0 P F.cT [a0] w K:=zr (Y4 6) Tryz.func221 h
def X0H:L7:=Y4 7++[some ([27],[27,28,29])]++Y4 6
def Q4M:L3:=fun f a w K=>V5 .eql T.b 8 f #[119,111,114,100] w fun i w=>X1 i (Y0 T.b a w fun j w=>X4 .leq T.f 12 j 64 w fun e w=>X6 e true a w fun k w=>Q1 e true w (Q0 P F.b6 [k]) fun l w=>pick P e l (.bool false) w fun b w=>X6 b true a w fun m w=>Q1 b true w (Q0 P F.cP [m,(.string ⟨#[10]⟩)]) fun n w=>Q1 b true w (W0 P .not n) fun o w=>pick P b o (.bool false) w fun p w=>K p w) (V5 .eql T.b 8 f #[110,101,119] w fun q w=>X1 q (Q0 P F.ai [a] w fun r w=>K r w) (jn (α:=Value) w (fun J w=>V5 .eql T.b 8 f #[105,115] w fun g w=>X1 g (J g w) (V5 .eql T.b 8 f #[99,97,115,116] w fun s w=>J s w)) fun N O w=>X1 N (Q0 P F.a2 [a] w fun c w=>X6 c true a w fun t w=>Q1 c true w (Q0 P F.aQ [t]) fun u w=>Q1 c true w (W0 P .not u) fun v w=>pick P c v (.bool false) w fun y w=>K y w) (V5 .eql T.b 8 f #[97,114,114,97,121] w fun z w=>X1 z (Q0 P F.a2 [a] w fun d w=>X6 d true a w fun A w=>Q1 d true w (Q0 P F.cE [A]) fun B w=>Q1 d true w (X4 .lss T.f 43 B 3) fun C w=>pick P d C (.bool false) w fun D w=>K D w) (Q0 P F.cT [a] w fun h w=>D9 h w fun L M w=>ext P h 2 w fun E w=>X4 .eql T.v 52 E 0 w fun H w=>K H w))))
theorem X0O (h:Q4M a0 a1 w K):Q0 P F.cX [a0,a1] w K:=zr X0H Tryz.func209 h
def Q9p:L7:=Y4 5++[some ([16],[16,17,18,19,20,21,22,23,24,25,26,27,28,29,30,31,32,33,34,35,36,37,38,39]),none,none,none,none]
def Q2T:H0:=fun u w K=>box P T.y u w fun a w=>Y1 T.y T.b a 0 w fun v w=>Q0 P F.co [v] w fun t w=>D9 t w fun h b w=>ext P t 2 w fun i w=>W0 P .not i w fun j w=>X1 j (K (.int .i64 40) w) (jn (α:=Value) w (fun g w=>W0 P .not h w fun c w=>Z8 c true w T.y T.a4 a 1 fun k w=>Q1 c true w (X4 .neq T.a4 21 k 0) fun l w=>pick P c l (.bool false) w fun e w=>X1 e (g e w) (W0 P .not b w fun d w=>Z8 d true w T.y T.b a 2 fun m w=>Q1 d true w (V5 .neq T.b 28 m #[]) fun n w=>pick P d n (.bool false) w fun f w=>X1 f (g f w) (Z8 b true w T.y T.b a 0 fun o w=>Z8 b true w T.y T.b a 2 fun p w=>Q1 b true w (Q0 P F.cX [o,p]) fun q w=>Q1 b true w (W0 P .not q) fun r w=>pick P b r (.bool false) w fun s w=>g s w))) fun y z w=>X1 y (K (.int .i64 41) w) (K (.int .i64 0) w))
theorem Q9E (h:Q2T a0 w K):Q0 P F.cR [a0] w K:=zr Q9p Tryz.func192 h
def Ig:H0:=fun b w K=>box P T.y b w fun a w=>Q6 P T.y a w fun c w=>Q0 P F.cR [c] w fun d w=>X4 .eql T.v 4 d 0 w fun e w=>K e w
theorem Q5m (h:Ig a0 w K):Q0 P F.bo [a0] w K:=zr (Y4 2) Tryz.func191 h
def Up:L7:=[none,none,none,some ([8],[4,5,8,9,10,11,12,13,14,15,16,17,18])]++Y4 7
def Qi:L3:=fun e f w K=>Y0 T.u e w fun g w=>lp (α:=Value) (.int .i64 0) w fun a b i w=>X5 .lss T.f 8 7 b g w fun h w=>X1 h (V1 T.u T.w e b w fun c w=>U7 P f [c] w fun d w=>X1 d (K b w) (V3 8 b w a)) (K (.int .i64 (-1)) w)
theorem Uy (h:Qi a0 a1 w K):Q0 P F.a6 [a0,a1] w K:=zr Up Tryz.func222 h
def P9:L3:=fun a b w K=>Q0 P F.a6 [a,b] w fun c w=>X4 .geq T.f 7 c 0 w fun d w=>K d w
theorem Je (h:P9 a0 a1 w K):Q0 P F.m [a0,a1] w K:=zr (Y4 2) Tryz.func210 h
def Wc:L3:=fun b c w K=>box P T.w b w fun a w=>Q6 P T.al c w fun d w=>Q6 P T.w a w fun e w=>U7 P d [e] w fun f w=>W0 P .not f w fun g w=>K g w
theorem Fy (h:Wc a0 a1 w K):Q0 P F.c5 [a0,a1] w K:=zr (Y4 2) Tryz.func211 h
def Mo:L3:=fun b c w K=>box P T.al c w fun a w=>C5 P (.func F.c5) [] [a] w fun d w=>Q0 P F.m [b,d] w fun e w=>W0 P .not e w fun f w=>K f w
theorem Ks (h:Mo a0 a1 w K):Q0 P F.aw [a0,a1] w K:=zr (Y4 2) Tryz.func193 h
def Ag:H0:=fun a0 w K=>box P T.e a0 w fun a w=>Y1 T.e T.b a 0 w fun t6 w=>Q0 P F.bW [t6] w fun t7 w=>W0 P .not t7 w fun i w=>Z8 i false w T.e T.h a 1 fun j w=>Q1 i false w (Q0 P F.ab [j,(.func (.func F.a2) #[] #[])]) fun k w=>Q1 i false w (W0 P .not k) fun l w=>pick P i (.bool true) l w fun b w=>Z8 b false w T.e T.b a 2 fun m w=>Q1 b false w (V5 .neq T.b 17 m #[]) fun n w=>X6 b false n w fun d w=>Z8 d true w T.e T.b a 2 fun o w=>Q1 d true w (Q0 P F.a2 [o]) fun p w=>Q1 d true w (W0 P .not p) fun q w=>Q1 b false w (pick P d q (.bool false)) fun r w=>pick P b (.bool true) r w fun s w=>X1 s (K (.bool false) w) (Y1 T.e T.r a 3 w fun t w=>X1 t (Y1 T.e T.f a 4 w fun u w=>X4 .eql T.f 29 u 0 w fun e w=>Z8 e true w T.e T.s a 5 fun v w=>Q1 e true w (Y0 T.s v) fun y w=>Q1 e true w (X4 .eql T.f 34 y 0) fun z w=>pick P e z (.bool false) w fun f w=>Z8 f true w T.e T.u a 6 fun A w=>Q1 f true w (Y0 T.u A) fun B w=>Q1 f true w (X4 .eql T.f 40 B 0) fun C w=>pick P f C (.bool false) w fun D w=>K D w) (Y1 T.e T.s a 5 w fun E w=>Y0 T.s E w fun H w=>N0 T.f H w fun Z w=>C5 P (.func F.bn) [] [Z] w fun J w=>Q6 P T.f Z w fun L w=>X4 .gtr T.f 47 L 0 w fun c w=>Z8 c true w T.e T.f a 4 fun M w=>Z8 c true w T.e T.h a 1 fun N w=>Q1 c true w (Y0 T.h N) fun O w=>Q1 c true w (X5 .gtr T.f 51 54 M O) fun Q w=>pick P c Q (.bool false) w fun h w=>Z8 h true w T.e T.s a 5 fun R w=>Q1 h true w (Q0 P F.ay [R,(.func (.func F.bo) #[] #[])]) fun U w=>pick P h U (.bool false) w fun g w=>Z8 g true w T.e T.u a 6 fun V w=>X6 g true J w fun W w=>Q1 g true w (Q0 P F.aw [V,W]) fun X w=>pick P g X (.bool false) w fun Y w=>K Y w))
theorem Q77 (h:Ag a0 w K):Q0 P F.bc [a0] w K:=zr (Y4 10) Tryz.func156 h
def Q1G:H0:=fun a0 w K=>box P T.c a0 w fun b w=>Y1 T.c T.b b 0 w fun t8 w=>Y1 T.c T.b b 1 w fun t w=>buildSlice P T.h 2 [(0,t8),(1,t)] w fun u w=>Y1 T.c T.h b 2 w fun v w=>V0 P .append [T.h,T.h] T.h [false,false] [u,v] w fun k w=>dr w fun s r=>Y3 s r (I3 P T.h k (some (.int .i64 1)) none none) fun av=>Y3 s r (fieldAddr P T.c b 0) fun q=>X3 s r q (fun g=>Q6 P T.b g) fun aw=> ∀l g m w,r w->av l w->q g w->aw m w->Q0 P F.ah [l,m] w fun y w=>Y1 T.c T.j b 7 w fun z w=>Q0 P F.a [z,(.func (.func F.cu) #[] #[])] w fun A w=>Y1 T.c T.j b 7 w fun B w=>Q0 P F.a [B,(.func (.func F.cv) #[] #[])] w fun C w=>Q0 P F.ab [k,(.func (.func F.ai) #[] #[])] w fun D w=>W0 P .not D w fun n w=>X6 n false y w fun E w=>pick P n (.bool true) E w fun c w=>Z8 c false w T.c T.h b 2 fun H w=>Q1 c false w (Q0 P F.aU [H,(.func (.func F.cw) #[] #[])]) fun J w=>Q1 c false w (W0 P .not J) fun L w=>pick P c (.bool true) L w fun M w=>X1 M (K (.bool false) w) (Y1 T.c T.r b 3 w fun a w=>Z8 a true w T.c T.r b 4 fun N w=>Q1 a true w (W0 P .not N) fun O w=>X6 a true O w fun h w=>Z8 h false w T.c T.b b 1 fun Q w=>Q1 h false w (V5 .neq T.b 48 Q #[79,98,106,101,99,116]) fun R w=>Q1 a true w (pick P h (.bool true) R) fun U w=>X6 a true U w fun d w=>Z8 d false w T.c T.k b 6 fun V w=>Q1 d false w (Y0 T.k V) fun W w=>Q1 d false w (X4 .gtr T.f 54 W 0) fun X w=>Q1 a true w (pick P d (.bool true) X) fun Y w=>X6 a true Y w fun o w=>X6 o false C w fun Z w=>Q1 a true w (pick P o (.bool true) Z) fun aa w=>pick P a aa (.bool false) w fun ab w=>X1 ab (K (.bool false) w) (Y1 T.c T.r b 4 w fun p w=>Z8 p true w T.c T.r b 5 fun ac w=>pick P p ac (.bool false) w fun e w=>X6 e false A w fun ad w=>X6 e false ad w fun i w=>Z8 i true w T.c T.r b 4 fun ae w=>Q1 i true w (W0 P .not ae) fun af w=>Q1 e false w (pick P i af (.bool false)) fun ag w=>pick P e (.bool true) ag w fun ah w=>X1 ah (K (.bool false) w) (Y1 T.c T.k b 6 w fun ai w=>Q0 P F.aE [ai,(.func (.func F.cx) #[] #[])] w fun aj w=>W0 P .not aj w fun f w=>Z8 f false w T.c T.j b 7 fun ak w=>Q1 f false w (Q0 P F.az [ak,(.func (.func F.cy) #[] #[])]) fun al w=>Q1 f false w (W0 P .not al) fun am w=>pick P f (.bool true) am w fun an w=>X1 an (K (.bool false) w) (Y1 T.c T.k b 6 w fun ao w=>Q0 P F.ax [ao,(.func (.func F.bF) #[] #[])] w fun j w=>Z8 j true w T.c T.j b 7 fun ap w=>Q1 j true w (Q0 P F.aq [ap,(.func (.func F.bc) #[] #[])]) fun aq w=>pick P j aq (.bool false) w fun ar w=>K ar w))))
theorem Q8a (h:Q1G a0 w K):Q0 P F.cH [a0] w K:=zr (Y4 15) Tryz.func105 h
def Q1F:H0:=fun b w K=>box P T.c b w fun a w=>Q6 P T.c a w fun c w=>Q0 P F.cQ [c] w fun d w=>X1 d (K (.int .i64 51) w) (Q6 P T.c a w fun e w=>Q0 P F.cH [e] w fun f w=>W0 P .not f w fun g w=>X1 g (K (.int .i64 50) w) (K (.int .i64 0) w))
theorem Q89 (h:Q1F a0 w K):Q0 P F.cG [a0] w K:=zr (Y4 7) Tryz.func68 h
def Zl:H0:=fun a w K=>Z9 P .eql T.h (.tmp 3) (.const (.slice none 0 0)) a (.slice none 0 0) w fun b w=>X1 b (K (.slice none 0 0) w) (buildSlice P T.h 0 [] w fun c w=>V0 P .append [T.h,T.h] T.h [false,false] [c,a] w fun d w=>K d w)
theorem Hy (h:Zl a0 w K):Q0 P F.aa [a0] w K:=zr (Y4 5) Tryz.func106 h
def Xl:H0:=fun a w K=>Z9 P .eql T.k (.tmp 3) (.const (.slice none 0 0)) a (.slice none 0 0) w fun b w=>X1 b (K (.slice none 0 0) w) (buildSlice P T.k 0 [] w fun c w=>V0 P .append [T.k,T.k] T.k [false,false] [c,a] w fun d w=>K d w)
theorem Ls (h:Xl a0 w K):Q0 P F.af [a0] w K:=zr (Y4 5) Tryz.func107 h
def Xm:H0:=fun a w K=>Z9 P .eql T.s (.tmp 3) (.const (.slice none 0 0)) a (.slice none 0 0) w fun b w=>X1 b (K (.slice none 0 0) w) (buildSlice P T.s 0 [] w fun c w=>V0 P .append [T.s,T.s] T.s [false,false] [c,a] w fun d w=>K d w)
theorem Lt (h:Xm a0 w K):Q0 P F.ag [a0] w K:=zr (Y4 5) Tryz.func157 h
def Xk:H0:=fun a w K=>Z9 P .eql T.u (.tmp 3) (.const (.slice none 0 0)) a (.slice none 0 0) w fun b w=>X1 b (K (.slice none 0 0) w) (buildSlice P T.u 0 [] w fun c w=>V0 P .append [T.u,T.u] T.u [false,false] [c,a] w fun d w=>K d w)
theorem Lr (h:Xk a0 w K):Q0 P F.ae [a0] w K:=zr (Y4 5) Tryz.func158 h
def Q1O:H0:=fun B w K=>box P T.e B w fun a w=>G9 P T.e w fun r w=>dr w fun c b=>Y3 c b (fieldAddr P T.e a 1) fun u=>Y3 c b (fieldAddr P T.e a 5) fun y=>Y3 c b (fieldAddr P T.e a 6) fun A=>X3 c b u (fun k=>Q6 P T.h k) fun v=>X3 c b v (fun l=>Q0 P F.aa [l]) fun D=>X3 c b y (fun m=>Q6 P T.s m) fun z=>X3 c b z (fun n=>Q0 P F.ag [n]) fun E=>X3 c b A (fun o=>Q6 P T.u o) fun g=>Y3 c b (fieldAddr P T.e a 1) fun q=>X3 c b g (fun d=>Q0 P F.ae [d]) fun p=> ∀k m o l s n t d f e w,b w->u k w->y m w->A o w->v l w->D s w->z n w->E t w->g d w->q f w->p e w->J9 P T.h f s w fun _u w=>fieldAddr P T.e a 5 w fun h w=>J9 P T.s h t w fun _u w=>fieldAddr P T.e a 6 w fun i w=>J9 P T.u i e w fun _u w=>Q6 P T.e a w fun j w=>J9 P T.e r j w fun _u w=>J5 P T.e r w fun C=>K C w
theorem Q8i (h:Q1O a0 w K):Q0 P F.cf [a0] w K:=zr (Y4 3) Tryz.func108 h
def Q88:L7:=Y4 5++[some ([3,17],[3,5,17,18,19,20,21,22,23,24,25,26])]++Y4 6
def Q1N:H0:=fun M w K=>box P T.c M w fun a w=>G9 P T.c w fun D w=>dr w fun d c=>Y3 d c (fieldAddr P T.c a 2) fun H=>Y3 d c (fieldAddr P T.c a 6) fun L=>X3 d c H (fun y=>Q6 P T.h y) fun J=>X3 d c J (fun z=>Q0 P F.aa [z]) fun O=>X3 d c L (fun A=>Q6 P T.k A) fun k=>Y3 d c (fieldAddr P T.c a 2) fun C=>X3 d c k (fun e=>Q0 P F.af [e]) fun B=> ∀y A z E e h g w,c w->H y w->L A w->J z w->O E w->k e w->C h w->B g w->J9 P T.h h E w fun _u w=>fieldAddr P T.c a 6 w fun l w=>J9 P T.k l g w fun _u w=>Y1 T.c T.j a 7 w fun i w=>Y0 T.j i w fun m w=>lp (α:=Value×Value) ((.slice none 0 0),(.int .i64 0)) w fun b j Q w=>X5 .lss T.f 17 16 j.2 m w fun n w=>X1 n (V1 T.j T.e i j.2 w fun o w=>N0 T.e o w fun f w=>Q6 P T.e f w fun p w=>Q0 P F.cf [p] w fun q w=>buildSlice P T.j 1 [(0,q)] w fun r w=>V0 P .append [T.j,T.j] T.j [false,false] [j.1,r] w fun s w=>X4 .add T.f 17 j.2 1 w fun t w=>b (s,t) w) (fieldAddr P T.c a 7 w fun u w=>J9 P T.j u j.1 w fun _u w=>Q6 P T.c a w fun v w=>J9 P T.c D v w fun _u w=>J5 P T.c D w fun N=>K N w)
theorem Q8h (h:Q1N a0 w K):Q0 P F.cL [a0] w K:=zr Q88 Tryz.func69 h
def La:L3:=fun d e w K=>nilCheck P d w fun g w=>Y1 T.a3 T.a7 g 1 w fun a w=>lookup P T.a7 a e true w fun b w=>D9 b w fun f c w=>K c w
theorem Bj (h:La a0 a1 w K):Q0 P F.k [a0,a1] w K:=zr (Y4 3) Tryz.func70 h
def Ej:L3:=fun n s w K=>G9 P T.c w fun o w=>dr w fun b a=>Y3 b a (nilCheck P n) fun q=>X3 b a q (fun k=>fieldAddr P T.a3 k 0) fun r=>Y3 b a (nilCheck P n) fun g=>X3 b a g (fun c=>fieldAddr P T.a3 c 1) fun h=>X3 b a r (fun l=>Q6 P T.i l) fun u=>X3 b a h (fun d=>Q6 P T.a7 d) fun i=>X3 b a i (fun e=>lookup P T.a7 e s false) fun m=> ∀k l c d p e f w,a w->q k w->r l w->g c w->h d w->u p w->i e w->m f w->V1 T.i T.c p f w fun j w=>J9 P T.c o j w fun _u w=>J5 P T.c o w fun t=>K t w
theorem Q14 (h:Ej a0 a1 w K):Q0 P F.i [a0,a1] w K:=zr (Y4 2) Tryz.func95 h
def Am:L7:=Y4 6++[some ([29],[4,6,29,30,31,32,33,34,35,36,37,38,39,40,41,42,43,44])]++Y4 7
def Df:L3:=fun f E w K=>box P T.c E w fun a w=>Y1 T.c T.b a 1 w fun H w=>Q0 P F.k [f,H] w fun i w=>W0 P .not i w fun c w=>X6 c false f w fun j w=>Z8 c false w T.c T.b a 1 fun k w=>Q1 c false w (Q0 P F.i [j,k]) fun l w=>Q1 c false w (Xj P T.c l 3) fun m w=>pick P c (.bool true) m w fun d w=>X6 d false f w fun n w=>Z8 d false w T.c T.b a 1 fun o w=>Q1 d false w (Q0 P F.i [n,o]) fun p w=>Q1 d false w (Xj P T.c p 5) fun q w=>pick P d (.bool true) q w fun r w=>X1 r (K (.int .i64 61) w) (Y1 T.c T.h a 2 w fun g w=>Y0 T.h g w fun s w=>lp (α:=Value) (.int .i64 0) w fun e D J w=>X5 .lss T.f 29 28 D s w fun t w=>X1 t (V1 T.h T.b g D w fun h w=>Q0 P F.k [f,h] w fun u w=>W0 P .not u w fun b w=>X6 b false f w fun v w=>X6 b false h w fun y w=>Q1 b false w (Q0 P F.i [v,y]) fun z w=>Q1 b false w (Xj P T.c z 3) fun A w=>Q1 b false w (W0 P .not A) fun B w=>pick P b (.bool true) B w fun C w=>X1 C (K (.int .i64 62) w) (V3 29 D w e)) (K (.int .i64 0) w))
theorem Ax (h:Df a0 a1 w K):Q0 P F.bi [a0,a1] w K:=zr Am Tryz.func71 h
def Uq:L7:=[none,none,none,some ([8],[4,5,8,9,10,11,12,13,14,15,16,17,18])]++Y4 7
def Qj:L3:=fun e f w K=>Y0 T.i e w fun g w=>lp (α:=Value) (.int .i64 0) w fun a b i w=>X5 .lss T.f 8 7 b g w fun h w=>X1 h (V1 T.i T.c e b w fun c w=>U7 P f [c] w fun d w=>X1 d (K b w) (V3 8 b w a)) (K (.int .i64 (-1)) w)
theorem Uz (h:Qj a0 a1 w K):Q0 P F.p [a0,a1] w K:=zr Uq Tryz.func72 h
def Q0E:L7:=[none,none,none,some ([7],[6,7,9,10,11,12,16,17,18,19,20,21,22,23,24,25,26,27,28,29,30,31,32,33,34,35,36,37,38,39,40,41,42,43,44,45,46,47,48,49,50,51,52])]++Y4 13
def Ei:Yy:=fun O Q R w K=>buildSlice P T.h 1 [(0,Q)] w fun s w=>Oh P T.a7 none w fun k w=>lp (α:=Value) s w fun b L V w=>Y0 T.h L w fun t w=>X4 .gtr T.f 17 t 0 w fun u w=>X1 u (V1 T.h T.b L (.int .i64 0) w fun d w=>I3 P T.h L (some (.int .i64 1)) none none w fun l w=>lookup P T.a7 k d true w fun v w=>D9 v w fun U c w=>X6 c false O w fun y w=>X6 c false d w fun z w=>Q1 c false w (Q0 P F.k [y,z]) fun A w=>Q1 c false w (W0 P .not A) fun B w=>pick P c (.bool true) B w fun C w=>X1 C (b l w) (mapUpdate P T.a7 k d (.int .i64 1) w fun _u w=>Q0 P F.i [O,d] w fun D w=>N0 T.c D w fun a w=>Q6 P T.c a w fun E w=>U7 P R [E] w fun H w=>X1 H (K (.bool true) w) (dr w fun j e=>Y3 j e (fieldAddr P T.c a 1) fun o=>Y3 j e (fieldAddr P T.c a 2) fun r=>X3 j e o (fun f=>Q6 P T.b f) fun p=>X3 j e p (fun g=>buildSlice P T.h 1 [(0,g)]) fun q=>X3 j e q (fun h=>V0 P .append [T.h,T.h] T.h [false,false] [l,h]) fun M=>X3 j e r (fun i=>Q6 P T.h i) fun N=> ∀f i g h m n w,e w->o f w->r i w->p g w->q h w->M m w->N n w->V0 P .append [T.h,T.h] T.h [false,false] [m,n] w fun J w=>b J w))) (K (.bool false) w)
theorem Q13 (h:Ei a0 a1 a2 w K):Q0 P F.y [a0,a1,a2] w K:=zr Q0E Tryz.func110 h
def Lb:L3:=fun b c w K=>box P T.c b w fun a w=>Y1 T.c T.b a 0 w fun d w=>Y1 T.c T.b c 0 w fun e w=>X5 .eql T.b 5 7 d e w fun f w=>K f w
theorem Iw (h:Lb a0 a1 w K):Q0 P F.cd [a0,a1] w K:=zr (Y4 2) Tryz.func111 h
def Np:Yy:=fun a b c w K=>Q6 P T.z b w fun d w=>C5 P (.func F.cd) [] [c] w fun e w=>Q0 P F.y [d,a,e] w fun f w=>K f w
theorem Tl (h:Np a0 a1 a2 w K):Q0 P F.ba [a0,a1,a2] w K:=zr (Y4 2) Tryz.func109 h
def Ek:L3:=fun i j w K=>box P T.z i w fun c w=>box P T.c j w fun a w=>C5 P (.func F.ba) [] [c,a] w fun h w=>Y1 T.c T.b a 1 w fun k w=>U7 P h [k] w fun b w=>Z8 b false w T.c T.h a 2 fun d w=>X6 b false h w fun e w=>Q1 b false w (Q0 P F.d [d,e]) fun f w=>pick P b (.bool true) f w fun g w=>K g w
theorem Q15 (h:Ek a0 a1 w K):Q0 P F.bs [a0,a1] w K:=zr (Y4 3) Tryz.func73 h
def Ik:L7:=[none,none,none,some ([8],[4,5,8,9,10,11,12,13,14,15,16,17,18])]++Y4 7
def Yp:L3:=fun e f w K=>Y0 T.q e w fun g w=>lp (α:=Value) (.int .i64 0) w fun a b i w=>X5 .lss T.f 8 7 b g w fun h w=>X1 h (V1 T.q T.f e b w fun c w=>X5 .eql T.f 11 15 f c w fun d w=>X1 d (K b w) (V3 8 b w a)) (K (.int .i64 (-1)) w)
theorem Lv (h:Yp a0 a1 w K):Q0 P F.ch [a0,a1] w K:=zr Ik Tryz.func66 h
def Xn:L3:=fun a b w K=>Q0 P F.ch [a,b] w fun c w=>X4 .geq T.f 7 c 0 w fun d w=>K d w
theorem Uh (h:Xn a0 a1 w K):Q0 P F.a0 [a0,a1] w K:=zr (Y4 2) Tryz.func35 h
def Tf:L7:=[none,none,none,none,some ([35],[7,35,36,37,38,39,40,41,42,43,44,45,46,47]),none,none,none,none]
def Zw:zV5:=fun v a1 a2 a3 a4 w K=>Q6 P T.f a1 w fun t9 w=>X5 .lss T.f 8 9 v t9 w fun d w=>Q1 d false w (Q6 P T.q a2) fun ad w=>X6 d false v w fun ae w=>Q1 d false w (Q0 P F.a0 [ad,ae]) fun af w=>pick P d (.bool true) af w fun ag w=>X1 ag (K (.tuple #[]) w) (dr w fun b a=>Y3 b a (Q6 P T.z a3) fun D=>X3 b a D (fun e=>nilCheck P e) fun E=>X3 b a E (fun f=>fieldAddr P T.a3 f 0) fun H=>X3 b a H (fun g=>Q6 P T.i g) fun J=>X3 b a J (fun h=>indexAddr P T.i h v) fun L=>X3 b a L (fun i=>fieldAddr P T.c i 1) fun M=>X3 b a M (fun j=>Q6 P T.b j) fun N=>X3 b a N (fun k=>buildSlice P T.h 1 [(0,k)]) fun ao=>Y3 b a (Q6 P T.z a3) fun O=>X3 b a O (fun l=>nilCheck P l) fun Q=>X3 b a Q (fun m=>fieldAddr P T.a3 m 0) fun R=>X3 b a R (fun n=>Q6 P T.i n) fun U=>X3 b a U (fun o=>indexAddr P T.i o v) fun V=>X3 b a V (fun p=>fieldAddr P T.c p 2) fun W=>X3 b a W (fun q=>Q6 P T.h q) fun ap=> ∀e f g h i j k y l m n o p q z w,a w->D e w->E f w->H g w->J h w->L i w->M j w->N k w->ao y w->O l w->Q m w->R n w->U o w->V p w->W q w->ap z w->V0 P .append [T.h,T.h] T.h [false,false] [y,z] w fun A w=>Y0 T.h A w fun ah w=>lp (α:=Value) (.int .i64 0) w fun c x4 d_ w=>X5 .lss T.f 35 34 x4 ah w fun ai w=>X1 ai (V1 T.h T.b A x4 w fun aj w=>dr w fun b a=>Y3 b a (Q6 P T.aw a4) fun aq=>Y3 b a (Q6 P T.z a3) fun X=>X3 b a X (fun r=>nilCheck P r) fun Y=>X3 b a Y (fun s=>fieldAddr P T.a3 s 1) fun Z=>X3 b a Z (fun t=>Q6 P T.a7 t) fun aa=>X3 b a aa (fun u=>lookup P T.a7 u aj false) fun ar=> ∀B r s t u C w,a w->aq B w->X r w->Y s w->Z t w->aa u w->ar C w->U7 P B [C] w fun ax w=>V3 35 x4 w c) (Q6 P T.q a2 w fun ak w=>buildSlice P T.q 1 [(0,v)] w fun al w=>V0 P .append [T.q,T.q] T.q [false,false] [ak,al] w fun am w=>J9 P T.q a2 am w fun _u w=>K (.tuple #[]) w))
theorem Nx (h:Zw a0 a1 a2 a3 a4 w K):Q0 P F.a1 [a0,a1,a2,a3,a4] w K:=zr Tf Tryz.func113 h
def Q0F:L7:=Y4 6++[some ([7],[7,10,11,12,13,14,15,16,17,18,19,20,21]),none,none,none,none]
def El:L3:=fun n o w K=>box P T.z n w fun d w=>box P T.f o w fun b w=>G9 P T.q w fun c w=>G9 P T.aw w fun a w=>C5 P (.func F.a1) [] [b,c,d,a] w fun q w=>J9 P T.aw a q w fun _u w=>Q6 P T.f b w fun r w=>lp (α:=Value) r w fun e m s w=>Q6 P T.z d w fun f w=>nilCheck P f w fun g w=>Y1 T.a3 T.i g 0 w fun h w=>Y0 T.i h w fun i w=>X5 .lss T.f 10 15 m i w fun j w=>X1 j (Q6 P T.aw a w fun k w=>U7 P k [m] w fun p w=>V3 17 m w e) (Q6 P T.q c w fun l w=>K l w)
theorem Q16 (h:El a0 a1 w K):Q0 P F.bt [a0,a1] w K:=zr Q0F Tryz.func74 h
def Vu:L7:=[none,some ([2,3],[2,3,7,8,9,10,11,12,13,14,15,16,17,18,19,20,21,22,23,24,25,26,27]),none,none,none]
def Qy:H0:=fun f w K=>Y0 T.i f w fun r w=>X4 .sub T.f 5 r 1 w fun s w=>lp (α:=Value×Value) ((.int .i64 0),s) w fun a b u w=>X5 .lss T.f 7 8 b.1 b.2 w fun t w=>X1 t (dr w fun k e=>Y3 k e (indexAddr P T.i f b.2) fun i=>Y3 k e (indexAddr P T.i f b.1) fun j=>X3 k e i (fun c=>Q6 P T.c c) fun p=>X3 k e j (fun d=>Q6 P T.c d) fun q=> ∀c d g h w,e w->i c w->j d w->p g w->q h w->indexAddr P T.i f b.1 w fun n w=>J9 P T.c n g w fun _u w=>indexAddr P T.i f b.2 w fun o w=>J9 P T.c o h w fun _u w=>X4 .add T.f 10 b.1 1 w fun l w=>X4 .sub T.f 12 b.2 1 w fun m w=>a (l,m) w) (K (.tuple #[]) w)
theorem Vv (h:Qy a0 w K):Q0 P F.r [a0] w K:=zr Vu Tryz.func135 h
def Q1V:L7:=[none,none,none,none,some ([5,6],[5,6,8,9,10,11,12,13,14,15,16,17,18,19,20])]++Y4 5
def Ro:L3:=fun c j w K=>lp (α:=Value×Value) ((.slice none 0 0),j) w fun a b l w=>Q0 P F.k [c,b.2] w fun d w=>X1 d (Q0 P F.i [c,b.2] w fun g w=>buildSlice P T.i 1 [(0,g)] w fun h w=>V0 P .append [T.i,T.i] T.i [false,false] [b.1,h] w fun i w=>Q0 P F.i [c,b.2] w fun e w=>Xj P T.c e 1 w fun f w=>a (i,f) w) (Q0 P F.r [b.1] w fun k w=>K b.1 w)
theorem Q2d (h:Ro a0 a1 w K):Q0 P F.aT [a0,a1] w K:=zr Q1V Tryz.func96 h
def Ak:L7:=[none,none,none,none,some ([5,12],[5,7,12,13,14,15,16,17,18,19,20])]++Y4 5
def Dd:L3:=fun k l w K=>Q0 P F.aT [k,l] w fun c w=>Y0 T.i c w fun e w=>lp (α:=Value×Value) ((.slice none 0 0),(.int .i64 0)) w fun a d m w=>X5 .lss T.f 12 11 d.2 e w fun f w=>X1 f (V1 T.i T.c c d.2 w fun g w=>N0 T.c g w fun b w=>Y1 T.c T.k b 6 w fun h w=>V0 P .append [T.k,T.k] T.k [false,false] [d.1,h] w fun i w=>X4 .add T.f 12 d.2 1 w fun j w=>a (i,j) w) (K d.1 w)
theorem Av (h:Dd a0 a1 w K):Q0 P F.a5 [a0,a1] w K:=zr Ak Tryz.func49 h
def Nn:L3:=fun b c w K=>box P T.o b w fun a w=>Y1 T.o T.b a 0 w fun d w=>Q6 P T.b c w fun e w=>X5 .eql T.b 5 6 d e w fun f w=>K f w
theorem Tk (h:Nn a0 a1 w K):Q0 P F.cl [a0,a1] w K:=zr (Y4 2) Tryz.func161 h
def Eg:Yy:=fun d e f w K=>box P T.b f w fun a w=>Q0 P F.a5 [d,e] w fun g w=>C5 P (.func F.cl) [] [a] w fun b w=>Q0 P F.j [g,b] w fun c w=>K c w
theorem Q11 (h:Eg a0 a1 a2 w K):Q0 P F.bq [a0,a1,a2] w K:=zr (Y4 2) Tryz.func114 h
def Jd:L3:=fun a b w K=>nilCheck P a w fun c w=>V1 T.aj T.r c b w fun d w=>K d w
theorem Rf (h:Jd a0 a1 w K):Q0 P F.aC [a0,a1] w K:=zr (Y4 2) Tryz.func199 h
def Il:L7:=[none,some ([0],[0,5,6,7,8,9,10,11,12,13,14,15,16,17,18,19,20]),some ([0],[0,5,6,7,8,9,10,11,12,13,14,15,16,17,18,19,20])]++Y4 5
def Li:L3:=fun l m w K=>jn (α:=Value) w (fun k w=>lp (α:=Value) l w fun a b n w=>Y0 T.b b w fun o w=>X4 .gtr T.f 6 o 0 w fun p w=>X1 p (Y0 T.b b w fun c w=>X4 .sub T.f 11 c 1 w fun d w=>P0 P T.b b d w fun e w=>Q0 P F.aC [m,e] w fun f w=>W0 P .not f w fun g w=>X1 g (k b w) (Y0 T.b b w fun h w=>X4 .sub T.f 18 h 1 w fun i w=>I3 P T.b b none (some i) none w fun j w=>a j w)) (k b w)) fun q n w=>K q w
theorem Kc (h:Li a0 a1 w K):Q0 P F.ar [a0,a1] w K:=zr Il Tryz.func172 h
def Sg:L3:=fun d c w K=>V5 .eql T.b 7 d #[] w fun t w=>X6 t false c w fun e w=>Q1 t false w (V5 .eql T.b 10 e #[]) fun f w=>pick P t (.bool true) f w fun g w=>X1 g (K d w) (Y0 T.b c w fun h w=>X4 .eql T.f 15 h 1 w fun a w=>X6 a true c w fun i w=>Q1 a true w (P0 P T.b i (.int .i64 0)) fun j w=>Q1 a true w (Z9 P .lss T.a9 (.tmp 19) (.const (.int .u8 128)) j (.int .u8 128)) fun k w=>pick P a k (.bool false) w fun l w=>X1 l (P0 P T.b c (.int .i64 0) w fun m w=>Q0 P F.d5 [d,m] w fun n w=>K n w) (Q0 P F.ct [c] w fun o w=>D9 o w fun p q w=>N0 T.aj p w fun b w=>X1 q (Q0 P F.ar [d,b] w fun r w=>K r w) (Q0 P F.d2 [d,c] w fun s w=>K s w)))
theorem Q2v (h:Sg a0 a1 w K):Q0 P F.bP [a0,a1] w K:=zr (Y4 12) Tryz.func131 h
def Rm:L3:=fun l c w K=>V5 .eql T.b 6 c #[110,117,108,108] w fun m w=>X1 m (K (.bool true) w) (Q0 P F.bP [c,(.string ⟨#[91,93]⟩)] w fun k w=>Q0 P F.a2 [c] w fun a w=>X6 a true k w fun d w=>Q1 a true w (Q0 P F.aQ [d]) fun e w=>X6 a true e w fun b w=>X6 b false l w fun f w=>X6 b false k w fun g w=>Q1 b false w (Q0 P F.k [f,g]) fun h w=>Q1 a true w (pick P b (.bool true) h) fun i w=>pick P a i (.bool false) w fun j w=>K j w)
theorem Q2b (h:Rm a0 a1 w K):Q0 P F.ad [a0,a1] w K:=zr (Y4 6) Tryz.func89 h
def Lc:L3:=fun c d w K=>V5 .neq T.b 4 c #[110,117,108,108] w fun a w=>Q1 a true w (Q6 P T.z d) fun e w=>X6 a true c w fun f w=>Q1 a true w (Q0 P F.ad [e,f]) fun g w=>pick P a g (.bool false) w fun b w=>K b w
theorem Ix (h:Lc a0 a1 w K):Q0 P F.ao [a0,a1] w K:=zr (Y4 2) Tryz.func115 h
def Ld:L3:=fun a b w K=>Q6 P T.ac b w fun c w=>U7 P c [a] w fun d w=>W0 P .not d w fun e w=>K e w
theorem Iy (h:Ld a0 a1 w K):Q0 P F.ap [a0,a1] w K:=zr (Y4 2) Tryz.func116 h
def Q2R:H0:=fun q w K=>box P T.e q w fun a w=>dr w fun c b=>Y3 c b (fieldAddr P T.e a 1) fun l=>Y3 c b (fieldAddr P T.e a 2) fun p=>X3 c b l (fun e=>Q6 P T.h e) fun m=>X3 c b m (fun f=>Q0 P F.d1 [f,(.string ⟨#[44]⟩)]) fun n=>X3 c b n (fun g=>Z9 P .add T.b (.const (.string ⟨#[40]⟩)) (.tmp 5) (.string ⟨#[40]⟩) g) fun o=>X3 c b o (fun h=>V5 .add T.b 6 h #[41]) fun r=>X3 c b p (fun i=>Q6 P T.b i) fun s=> ∀e i f g h j k w,b w->l e w->p i w->m f w->n g w->o h w->r j w->s k w->X5 .add T.b 7 9 j k w fun d w=>K d w
theorem Q9C (h:Q2R a0 w K):Q0 P F.cm [a0] w K:=zr (Y4 2) Tryz.func120 h
def Vg:zV4:=fun W V X Y w K=>box P T.e W w fun a w=>Q6 P T.a0 V w fun Z w=>Y1 T.e T.b a 0 w fun C w=>lookup P T.a0 Z C true w fun D w=>D9 D w fun E d w=>dr w fun c b=>Y3 c b (fieldAddr P T.e a 0) fun r=>Y3 c b (fieldAddr P T.e a 0) fun t=>Y3 c b (fieldAddr P T.c X 0) fun y=>Y3 c b (Q6 P T.a0 V) fun n=>X3 c b r (fun f=>Q6 P T.b f) fun s=>Y3 c b (Q6 P T.a0 Y) fun Q=>X3 c b t (fun h=>Q6 P T.b h) fun R=>Y3 c b (Q6 P T.e a) fun u=>X3 c b u (fun i=>Q0 P F.cm [i]) fun v=>X3 c b y (fun k=>Q6 P T.b k) fun U=>L9 c b n s (fun e g=>mapEntry P T.a0 e g) fun z=>X3 c b z (fun l=>ext P l 1) fun A=>Xq c b n A v (fun e m j=>entryStore P T.a0 e m j) fun B=> ∀f h k e g o p i j q l m O w,b w->r f w->t h w->y k w->n e w->s g w->Q o w->R p w->u i w->v j w->U q w->z l w->A m w->B O w->mapUpdate P T.a0 o p q w fun _u w=>X6 d true E w fun H w=>Q1 d true w (Q6 P T.e a) fun J w=>Q1 d true w (Q0 P F.cm [J]) fun L w=>Q1 d true w (X5 .neq T.b 29 31 H L) fun M w=>pick P d M (.bool false) w fun N w=>K N w
theorem Bs (h:Vg a0 a1 a2 a3 w K):Q0 P F.aJ [a0,a1,a2,a3] w K:=zr (Y4 4) Tryz.func119 h
def Lf:Yy:=fun b c d w K=>box P T.c b w fun a w=>Y1 T.c T.j a 7 w fun e w=>C5 P (.func F.aJ) [] [c,a,d] w fun f w=>Q0 P F.a [e,f] w fun g w=>K g w
theorem Iz (h:Lf a0 a1 a2 w K):Q0 P F.b1 [a0,a1,a2] w K:=zr (Y4 2) Tryz.func117 h
def Q2X:L3:=fun b c w K=>box P T.e b w fun a w=>Y1 T.e T.b a 0 w fun d w=>Q6 P T.b c w fun e w=>X5 .eql T.b 5 6 d e w fun f w=>K f w
theorem Q9I (h:Q2X a0 a1 w K):Q0 P F.d6 [a0,a1] w K:=zr (Y4 2) Tryz.func197 h
def Q5Q:L3:=fun k l w K=>box P T.c k w fun b w=>box P T.b l w fun a w=>G9 P T.e w fun d w=>Y1 T.c T.j b 7 w fun m w=>C5 P (.func F.d6) [] [a] w fun n w=>Q0 P F.h [m,n] w fun c w=>X4 .lss T.f 11 c 0 w fun f w=>X1 f (B7 P T.e [] w fun g w=>J9 P T.e d g w fun _u w=>J5 P T.e d w fun e=>K (.tuple #[e,(.bool false)]) w) (Y1 T.c T.j b 7 w fun h w=>V1 T.j T.e h c w fun i w=>Q0 P F.cf [i] w fun j w=>J9 P T.e d j w fun _u w=>J5 P T.e d w fun e=>K (.tuple #[e,(.bool true)]) w)
theorem X2K (h:Q5Q a0 a1 w K):Q0 P F.cN [a0,a1] w K:=zr (Y4 6) Tryz.func164 h
def Q1U:L7:=[none,none,none,some ([19],[6,8,10,11,12,13,14,15,19,20,21,22,23,24,25,26,27,28,29,30,31,32,33,34,35,36,37,38,39,40,41,42,43,44,45,46,47])]++Y4 12
def Rn:Yy:=fun n H E w K=>box P T.c H w fun e w=>G9 P T.e w fun f w=>Y1 T.c T.h e 2 w fun i w=>Y0 T.h i w fun o w=>lp (α:=Value) (.int .i64 0) w fun a B J w=>X5 .lss T.f 19 18 B o w fun p w=>X1 p (V1 T.h T.b i B w fun d w=>Q0 P F.i [n,d] w fun q w=>Q0 P F.cN [q,E] w fun r w=>D9 r w fun s t w=>N0 T.e s w fun b w=>X1 t (dr w fun m g=>Y3 m g (Q6 P T.e b) fun C=> ∀j w,g w->C j w->J9 P T.e f j w fun _u w=>J5 P T.e f w fun h=>K (.tuple #[d,h,(.bool true)]) w) (Q0 P F.i [n,d] w fun u w=>Q0 P F.aS [n,u,E] w fun k w=>D9 k w fun v y w=>ext P k 2 w fun z w=>N0 T.e y w fun c w=>X1 z (dr w fun m g=>Y3 m g (Q6 P T.e c) fun D=> ∀l w,g w->D l w->J9 P T.e f l w fun _u w=>J5 P T.e f w fun h=>K (.tuple #[v,h,(.bool true)]) w) (V3 19 B w a))) (B7 P T.e [] w fun A w=>J9 P T.e f A w fun _u w=>J5 P T.e f w fun h=>K (.tuple #[(.string ⟨#[]⟩),h,(.bool false)]) w)
theorem Q2c (h:Rn a0 a1 a2 w K):Q0 P F.aS [a0,a1,a2] w K:=zr Q1U Tryz.func165 h
def Al:L7:=Y4 5++[some ([26],[6,8,11,12,13,26,27,28,29,30,31,32,33,34,35,36,37,38,39,40])]++Y4 9++[some ([43],[6,8,15,16,17,18,43,44,45,46,47,48,49,50,51,52,53,54,55,56,57,58])]++Y4 8
def De:Yy:=fun U W V w K=>G9 P T.e w fun k w=>Q0 P F.aT [U,W] w fun c w=>Q0 P F.r [c] w fun Y w=>Y0 T.i c w fun s w=>lp (α:=Value) (.int .i64 0) w fun d N X w=>X5 .lss T.f 26 25 N s w fun t w=>X1 t (V1 T.i T.c c N w fun u w=>N0 T.c u w fun a w=>Q6 P T.c a w fun v w=>Q0 P F.cN [v,V] w fun y w=>D9 y w fun z A w=>N0 T.e z w fun f w=>X1 A (dr w fun l h=>Y3 l h (fieldAddr P T.c a 0) fun r=>X3 l h r (fun i=>Q6 P T.b i) fun O=>Y3 l h (Q6 P T.e f) fun Q=> ∀i n o w,h w->r i w->O n w->Q o w->J9 P T.e k o w fun _u w=>J5 P T.e k w fun m=>K (.tuple #[n,m,(.bool true)]) w) (V3 26 N w d)) (Y0 T.i c w fun B w=>lp (α:=Value) (.int .i64 0) w fun b j X w=>X5 .lss T.f 43 42 j B w fun C w=>X1 C (V1 T.i T.c c j w fun D w=>N0 T.c D w fun e w=>Q6 P T.c e w fun E w=>Q0 P F.aS [U,E,V] w fun p w=>D9 p w fun H J w=>ext P p 2 w fun L w=>N0 T.e J w fun g w=>X1 L (dr w fun l h=>Y3 l h (Q6 P T.e g) fun R=> ∀q w,h w->R q w->J9 P T.e k q w fun _u w=>J5 P T.e k w fun m=>K (.tuple #[H,m,(.bool true)]) w) (V3 43 j w b)) (B7 P T.e [] w fun M w=>J9 P T.e k M w fun _u w=>J5 P T.e k w fun m=>K (.tuple #[(.string ⟨#[]⟩),m,(.bool false)]) w))
theorem Aw (h:De a0 a1 a2 w K):Q0 P F.bh [a0,a1,a2] w K:=zr Al Tryz.func121 h
def Te:L7:=[none,none,none,some ([21],[4,6,21,22,23,24,25,26,27,28,29,30,31,32])]++Y4 9++[some ([37],[4,9,37,38,39,40,41,42,43,44,45,46])]++Y4 8++[some ([50],[4,11,50,51,52,53,54,55,56,57,58,59,60,61,62,63,64,65,66,67,68,69,70])]++Y4 15++[some ([],[4,14,15,16,17,82,83,84,85,86,87,88,89,90,91,92,93,94,95,96,97,98,99,100])]++Y4 7
def Nq:L3:=fun a0 a1 w K=>box P T.z a0 w fun t w=>box P T.c a1 w fun h w=>Y1 T.c T.k h 6 w fun n w=>Y0 T.k n w fun y w=>lp (α:=Value) (.int .i64 0) w fun d x3 u w=>X5 .lss T.f 21 20 x3 y w fun z w=>X1 z (V1 T.k T.o n x3 w fun A w=>N0 T.o A w fun t6 w=>Q6 P T.z t w fun B w=>Y1 T.c T.b h 1 w fun C w=>Y1 T.o T.b t6 0 w fun D w=>Q0 P F.bq [B,C,D] w fun E w=>X4 .geq T.f 30 E 0 w fun H w=>X1 H (K (.int .i64 64) w) (V3 21 x3 w d)) (C5 P (.func F.ao) [] [t] w fun J w=>N0 T.ac J w fun t7 w=>Y1 T.c T.k h 6 w fun o w=>Y0 T.k o w fun L w=>lp (α:=Value) (.int .i64 0) w fun a j u w=>X5 .lss T.f 37 36 j L w fun M w=>X1 M (V1 T.k T.o o j w fun N w=>N0 T.o N w fun t9 w=>Q6 P T.ac t7 w fun O w=>Y1 T.o T.b t9 1 w fun Q w=>U7 P O [Q] w fun R w=>W0 P .not R w fun U w=>X1 U (K (.int .i64 65) w) (V3 37 j w a)) (Y1 T.c T.j h 7 w fun p w=>Y0 T.j p w fun V w=>lp (α:=Value) (.int .i64 0) w fun b k u w=>X5 .lss T.f 50 49 k V w fun W w=>X1 W (V1 T.j T.e p k w fun X w=>N0 T.e X w fun f w=>Q6 P T.ac t7 w fun Y w=>Y1 T.e T.b f 2 w fun Z w=>U7 P Y [Z] w fun aa w=>W0 P .not aa w fun i w=>Z8 i true w T.e T.b f 2 fun ab w=>Q1 i true w (V5 .neq T.b 61 ab #[]) fun ac w=>pick P i ac (.bool false) w fun e w=>Z8 e false w T.e T.h f 1 fun ad w=>Q1 e false w (C5 P (.func F.ap) [] [t7]) fun ae w=>Q1 e false w (Q0 P F.d [ad,ae]) fun af w=>pick P e (.bool true) af w fun ag w=>X1 ag (K (.int .i64 65) w) (V3 50 k w b)) (Oh P T.a0 none w fun ai w=>Oh P T.a0 none w fun aj w=>G9 P T.a0 w fun m w=>G9 P T.a0 w fun g w=>J9 P T.a0 m ai w fun _u w=>J9 P T.a0 g aj w fun _u w=>Q6 P T.z t w fun ak w=>Y1 T.c T.b h 0 w fun al w=>C5 P (.func F.b1) [] [m,g] w fun am w=>Q0 P F.y [ak,al,am] w fun an w=>X1 an (K (.int .i64 66) w) (Y1 T.c T.r h 4 w fun ao w=>X1 ao (K (.int .i64 0) w) (Q6 P T.a0 g w fun ap w=>rng P T.a0 ap w fun q w=>lp (α:=Unit) () w fun c ba u w=>L2 P q false T.x w fun aq w=>ext P aq 0 w fun ar w=>X1 ar (X2i P q w fun av w=>ext P av 0 w fun aw w=>Q6 P T.z t w fun ax w=>Y1 T.c T.b h 0 w fun ay w=>Q0 P F.bh [ax,ay,aw] w fun r w=>D9 r w fun a9 az w=>ext P r 2 w fun a2 w=>N0 T.e az w fun v w=>W0 P .not a2 w fun s w=>Z8 s false w T.e T.r v 3 fun a3 w=>pick P s (.bool true) a3 w fun l w=>X1 l (K (.int .i64 67) w) (c () w)) (K (.int .i64 0) w))))))
theorem Tm (h:Nq a0 a1 w K):Q0 P F.bb [a0,a1] w K:=zr Te Tryz.func75 h
def X2y:L7:=Y4 5++[some ([30],[2,3,4,7,8,9,30,31,32,33,34,35,36,37,38,39,40,41,42,43,44,45,46,47,48,49,50,51,52])]++Y4 10++[some ([58],[2,3,4,10,11,58,59,60,61,62,63,64,65,66,67,68,69,70,71,72,73,74,75,76,77])]++Y4 9++[some ([85],[2,3,4,12,13,14,85,86,87,88,89,90,91,92,93,94,95,96,97])]++Y4 13++[some ([114],[2,3,4,17,18,114,115,116,117,118,119,120,121,122,123,124,125,126,127,128,129,130,131,132,133])]++Y4 8
def Q5P:H0:=fun a0 w K=>Q0 P F.cS [] w fun aj w=>Oh P T.a7 none w fun ak w=>B7 P T.a3 [(0,aj),(1,ak)] w fun al w=>box P T.a3 al w fun a w=>nilCheck P a w fun am w=>Y1 T.a3 T.i am 0 w fun an w=>Y0 T.i an w fun g w=>Y0 T.i a0 w fun ao w=>lp (α:=Value) (.int .i64 0) w fun i x5 d_ w=>X5 .lss T.f 30 29 x5 ao w fun ap w=>X1 ap (V1 T.i T.c a0 x5 w fun aq w=>N0 T.c aq w fun t8 w=>Q6 P T.c t8 w fun ar w=>Q0 P F.cG [ar] w fun O w=>X4 .neq T.v 37 O 0 w fun av w=>X1 av (K (.tuple #[(.pointer none),x5,O]) w) (dr w fun c b=>Y3 c b (nilCheck P a) fun Z=>X3 c b Z (fun o=>fieldAddr P T.a3 o 0) fun aa=>X3 c b aa (fun p=>Q6 P T.i p) fun bf=>Y3 c b (Q6 P T.c t8) fun ab=>X3 c b ab (fun q=>Q0 P F.cL [q]) fun ac=>X3 c b ac (fun r=>buildSlice P T.i 1 [(0,r)]) fun bg=> ∀o p Q q r R w,b w->Z o w->aa p w->bf Q w->ab q w->ac r w->bg R w->V0 P .append [T.i,T.i] T.i [false,false] [Q,R] w fun aw w=>nilCheck P a w fun ax w=>fieldAddr P T.a3 ax 0 w fun ay w=>J9 P T.i ay aw w fun _u w=>V3 30 x5 w i)) (nilCheck P a w fun az w=>Y1 T.a3 T.i az 0 w fun U w=>Y0 T.i U w fun a1 w=>lp (α:=Value) (.int .i64 0) w fun d h d_ w=>X5 .lss T.f 58 57 h a1 w fun a2 w=>X1 a2 (V1 T.i T.c U h w fun a3 w=>N0 T.c a3 w fun C w=>Y1 T.c T.b C 0 w fun a4 w=>Q0 P F.k [a,a4] w fun a5 w=>X1 a5 (X5 .sub T.f 67 68 h g w fun a6 w=>K (.tuple #[(.pointer none),a6,(.int .i64 60)]) w) (dr w fun c b=>Y3 c b (nilCheck P a) fun ad=>X3 c b ad (fun s=>fieldAddr P T.a3 s 1) fun ae=>Y3 c b (fieldAddr P T.c C 0) fun af=>X3 c b ae (fun t=>Q6 P T.a7 t) fun bh=>X3 c b af (fun u=>Q6 P T.b u) fun bi=> ∀s t u V W w,b w->ad s w->ae t w->af u w->bh V w->bi W w->mapUpdate P T.a7 V W h w fun _u w=>V3 58 h w d)) (nilCheck P a w fun a7 w=>Y1 T.a3 T.i a7 0 w fun a8 w=>I3 P T.i a8 (some g) none none w fun X w=>Y0 T.i X w fun a9 w=>lp (α:=Value) (.int .i64 0) w fun e j d_ w=>X5 .lss T.f 85 84 j a9 w fun ba w=>X1 ba (V1 T.i T.c X j w fun bb w=>N0 T.c bb w fun ai w=>Q6 P T.c ai w fun bc w=>Q0 P F.bi [a,bc] w fun Y w=>X4 .neq T.v 93 Y 0 w fun bd w=>X1 bd (K (.tuple #[(.pointer none),j,Y]) w) (V3 85 j w e)) (nilCheck P a w fun be w=>Y1 T.a3 T.i be 0 w fun y w=>I3 P T.i y (some g) none none w fun z w=>C5 P (.func F.bs) [a] [] w fun A w=>Q0 P F.p [z,A] w fun k w=>X4 .geq T.f 107 k 0 w fun B w=>X1 B (K (.tuple #[(.pointer none),k,(.int .i64 63)]) w) (Q0 P F.bt [a,g] w fun l w=>Y0 T.q l w fun D w=>lp (α:=Value) (.int .i64 0) w fun f v d_ w=>X5 .lss T.f 114 113 v D w fun E w=>X1 E (V1 T.q T.f l v w fun m w=>nilCheck P a w fun H w=>Y1 T.a3 T.i H 0 w fun J w=>V1 T.i T.c J m w fun L w=>Q0 P F.bb [a,L] w fun n w=>X4 .neq T.v 127 n 0 w fun M w=>X1 M (X5 .sub T.f 129 130 m g w fun N w=>K (.tuple #[(.pointer none),N,n]) w) (V3 114 v w f)) (K (.tuple #[a,(.int .i64 0),(.int .i64 0)]) w)))))
theorem X2J (h:Q5P a0 w K):Q0 P F.d0 [a0] w K:=zr X2y Tryz.func36 h
def Nt:zV0:=fun w K=>B7 P T.y [(0,(.string ⟨#[105,110,116]⟩)),(1,(.int .i64 1))] w fun n w=>B7 P T.y [(0,(.string ⟨#[114,101,116,117,114,110]⟩))] w fun o w=>buildSlice P T.s 2 [(0,n),(1,o)] w fun p w=>B7 P T.o [(0,(.string ⟨#[120]⟩)),(1,(.string ⟨#[105,110,116]⟩))] w fun q w=>B7 P T.o [(0,(.string ⟨#[110,101,120,116]⟩)),(1,(.string ⟨#[65]⟩))] w fun r w=>buildSlice P T.k 2 [(0,q),(1,r)] w fun s w=>buildSlice P T.h 2 [(0,(.string ⟨#[105,110,116]⟩)),(1,(.string ⟨#[65]⟩))] w fun t w=>B7 P T.e [(0,(.string ⟨#[102]⟩)),(1,t),(2,(.string ⟨#[105,110,116]⟩)),(4,(.int .i64 3)),(5,p)] w fun a w=>B7 P T.y [(0,(.string ⟨#[114,101,116,117,114,110]⟩))] w fun b w=>buildSlice P T.s 1 [(0,b)] w fun c w=>B7 P T.e [(0,(.string ⟨#[103]⟩)),(4,(.int .i64 1)),(5,c)] w fun d w=>buildSlice P T.j 2 [(0,a),(1,d)] w fun e w=>B7 P T.c [(0,(.string ⟨#[65]⟩)),(1,(.string ⟨#[79,98,106,101,99,116]⟩)),(6,s),(7,e)] w fun f w=>buildSlice P T.h 1 [(0,(.string ⟨#[73]⟩))] w fun g w=>B7 P T.o [(0,(.string ⟨#[108]⟩)),(1,(.string ⟨#[65,91,93]⟩))] w fun h w=>buildSlice P T.k 1 [(0,h)] w fun i w=>B7 P T.c [(0,(.string ⟨#[66]⟩)),(1,(.string ⟨#[65]⟩)),(2,g),(6,i)] w fun j w=>B7 P T.c [(0,(.string ⟨#[73]⟩)),(1,(.string ⟨#[79,98,106,101,99,116]⟩)),(3,(.bool true)),(4,(.bool true))] w fun k w=>B7 P T.c [(0,(.string ⟨#[68]⟩)),(1,(.string ⟨#[79,98,106,101,99,116]⟩)),(4,(.bool true))] w fun l w=>buildSlice P T.i 4 [(0,f),(1,j),(2,k),(3,l)] w fun m w=>K m w
theorem Tp (h:Nt w K):Q0 P F.aF [] w K:=zr (Y4 3) Tryz.func37 h
def Q0O:L7:=Y4 5++[some ([1,3],[1,3,10,11,12,13,14,15,16,17,18,19,20,21,22,23]),none,none,none,none]
def Hc:zV0:=fun w K=>B7 P T.c [(0,(.string ⟨#[79,98,106,101,99,116]⟩))] w fun k w=>B7 P T.o [(0,(.string ⟨#[119,104,97,116]⟩)),(1,(.string ⟨#[116,101,120,116]⟩))] w fun l w=>buildSlice P T.k 1 [(0,l)] w fun m w=>B7 P T.c [(0,(.string ⟨#[70,97,117,108,116]⟩)),(1,(.string ⟨#[79,98,106,101,99,116]⟩)),(6,m)] w fun n w=>buildSlice P T.i 2 [(0,k),(1,n)] w fun o w=>buildSlice P T.h 6 [(0,(.string ⟨#[78,117,108,108,70,97,117,108,116]⟩)),(1,(.string ⟨#[73,110,100,101,120,70,97,117,108,116]⟩)),(2,(.string ⟨#[67,97,115,116,70,97,117,108,116]⟩)),(3,(.string ⟨#[90,101,114,111,70,97,117,108,116]⟩)),(4,(.string ⟨#[82,111,111,109,70,97,117,108,116]⟩)),(5,(.string ⟨#[67,97,108,108,70,97,117,108,116]⟩))] w fun j w=>lp (α:=Value×Value) (o,(.int .i64 0)) w fun a b p w=>Y0 T.h j w fun c w=>X5 .lss T.f 10 12 b.2 c w fun d w=>X1 d (V1 T.h T.b j b.2 w fun f w=>B7 P T.c [(0,f),(1,(.string ⟨#[70,97,117,108,116]⟩)),(5,(.bool true))] w fun g w=>buildSlice P T.i 1 [(0,g)] w fun h w=>V0 P .append [T.i,T.i] T.i [false,false] [b.1,h] w fun i w=>X4 .add T.f 14 b.2 1 w fun e w=>a (i,e) w) (K b.1 w)
theorem Q1m (h:Hc w K):Q0 P F.bA [] w K:=zr Q0O Tryz.func76 h
def Q21:L7:=[none,none,none,some ([3],[2,3,4,5,6,7,8,9,10,11,12,13,14,15,16,17,18,19,20,21,22,23,24,25,26,27,28,29,30,31,32,33,34,35,36,37])]++Y4 7
def Rv:H0:=fun L w K=>box P T.c L w fun a w=>lp (α:=Value) (.int .i64 0) w fun c J Q w=>Y1 T.c T.j a 7 w fun M w=>Y0 T.j M w fun N w=>X5 .lss T.f 5 8 J N w fun O w=>X1 O (Y1 T.c T.j a 7 w fun i w=>V1 T.j T.e i J w fun j w=>N0 T.e j w fun b w=>Y1 T.e T.h b 1 w fun k w=>Y0 T.h k w fun l w=>X4 .gtr T.f 19 l 32 w fun d w=>Z8 d false w T.e T.u b 6 fun m w=>Q1 d false w (Y0 T.u m) fun n w=>Q1 d false w (X4 .gtr T.f 24 n 32) fun o w=>pick P d (.bool true) o w fun e w=>Z8 e false w T.e T.s b 5 fun p w=>Q1 e false w (Y0 T.s p) fun q w=>Q1 e false w (X4 .gtr T.f 30 q 200) fun r w=>pick P e (.bool true) r w fun h w=>Z8 h false w T.e T.f b 4 fun s w=>Q1 h false w (X4 .gtr T.f 35 s 64) fun t w=>pick P h (.bool true) t w fun u w=>X1 u (K (.bool true) w) (V3 10 J w c)) (Y1 T.c T.h a 2 w fun v w=>Y0 T.h v w fun y w=>X4 .gtr T.f 40 y 32 w fun f w=>Z8 f false w T.c T.k a 6 fun z w=>Q1 f false w (Y0 T.k z) fun A w=>Q1 f false w (X4 .gtr T.f 45 A 32) fun B w=>pick P f (.bool true) B w fun g w=>Z8 g false w T.c T.j a 7 fun C w=>Q1 g false w (Y0 T.j C) fun D w=>Q1 g false w (X4 .gtr T.f 51 D 32) fun E w=>pick P g (.bool true) E w fun H w=>K H w)
theorem Q2k (h:Rv a0 w K):Q0 P F.bK [a0] w K:=zr Q21 Tryz.func122 h
def Q1Y:L7:=[none,none,none,some ([0,3],[0,3,4,5,6,7,8,9,10,11,12,13,14,15,16,17,18,19,20,21]),none,none,none,none]
def Rr:H0:=fun m w K=>lp (α:=Value×Value) (m,(.int .i64 0)) w fun a c q w=>Y0 T.b c.1 w fun n w=>X4 .geq T.f 5 n 2 w fun b w=>X6 b true c.1 w fun o w=>X6 b true c.1 w fun p w=>Q1 b true w (Y0 T.b p) fun d w=>Q1 b true w (X4 .sub T.f 10 d 2) fun e w=>Q1 b true w (I3 P T.b o (some e) none none) fun f w=>Q1 b true w (V5 .eql T.b 12 f #[91,93]) fun g w=>pick P b g (.bool false) w fun h w=>X1 h (X4 .add T.f 15 c.2 1 w fun i w=>Y0 T.b c.1 w fun j w=>X4 .sub T.f 19 j 2 w fun k w=>I3 P T.b c.1 none (some k) none w fun l w=>a (l,i) w) (K c.2 w)
theorem Q2g (h:Rr a0 w K):Q0 P F.a3 [a0] w K:=zr Q1Y Tryz.func87 h
def Q0J:L7:=[none,none,none,some ([4],[4,5,6,7]),none,none,none,none]
def Ev:H0:=fun b w K=>jn (α:=Value) w (fun a w=>V5 .eql T.b 3 b #[105,110,116] w fun c w=>X1 c (a c w) (V5 .eql T.b 3 b #[98,111,111,108] w fun d w=>X1 d (a d w) (V5 .eql T.b 3 b #[116,101,120,116] w fun e w=>a e w))) fun f g w=>X1 f (K (.bool true) w) (K (.bool false) w)
theorem Q1f (h:Ev a0 w K):Q0 P F.z [a0] w K:=zr Q0J Tryz.func128 h
def Q1Z:L7:=[none,none,none,some ([3],[2,3,4,5,6,7,8,9,10,11,12,13,14,15,16,17,18,19,20,21,22,23,24,25,26,27,28,29,30,31,32,33,34,35,36,37,38,39,40,41,42,43,44,45,46,47,48,49,50])]++Y4 7
def Rt:H0:=fun g w K=>lp (α:=Value) (.int .i64 0) w fun h j d_ w=>Y0 T.b g w fun t7 w=>X5 .lss T.f 5 7 j t7 w fun t8 w=>X1 t8 (P0 P T.b g j w fun k w=>Z9 P .geq T.a9 (.tmp 13) (.const (.int .u8 97)) k (.int .u8 97) w fun c w=>X6 c true g w fun l w=>X6 c true j w fun m w=>Q1 c true w (P0 P T.b l m) fun n w=>Q1 c true w (Z9 P .leq T.a9 (.tmp 18) (.const (.int .u8 122)) n (.int .u8 122)) fun o w=>pick P c o (.bool false) w fun a w=>X6 a false g w fun p w=>X6 a false j w fun q w=>Q1 a false w (P0 P T.b p q) fun r w=>Q1 a false w (Z9 P .geq T.a9 (.tmp 24) (.const (.int .u8 65)) r (.int .u8 65)) fun s w=>X6 a false s w fun d w=>X6 d true g w fun t w=>X6 d true j w fun u w=>Q1 d true w (P0 P T.b t u) fun v w=>Q1 d true w (Z9 P .leq T.a9 (.tmp 29) (.const (.int .u8 90)) v (.int .u8 90)) fun y w=>Q1 a false w (pick P d y (.bool false)) fun z w=>pick P a (.bool true) z w fun A w=>W0 P .not A w fun b w=>X6 b true j w fun B w=>Q1 b true w (X4 .eql T.f 36 B 0) fun C w=>X6 b true C w fun e w=>X6 e false g w fun D w=>X6 e false j w fun E w=>Q1 e false w (P0 P T.b D E) fun H w=>Q1 e false w (Z9 P .lss T.a9 (.tmp 41) (.const (.int .u8 48)) H (.int .u8 48)) fun J w=>Q1 b true w (pick P e (.bool true) J) fun L w=>X6 b true L w fun f w=>X6 f false g w fun M w=>X6 f false j w fun N w=>Q1 f false w (P0 P T.b M N) fun O w=>Q1 f false w (Z9 P .gtr T.a9 (.tmp 47) (.const (.int .u8 57)) O (.int .u8 57)) fun Q w=>Q1 b true w (pick P f (.bool true) Q) fun R w=>pick P b R (.bool false) w fun U w=>X1 U (K (.bool false) w) (V3 9 j w h)) (Y0 T.b g w fun V w=>X4 .geq T.f 52 V 1 w fun i w=>X6 i true g w fun W w=>Q1 i true w (Y0 T.b W) fun X w=>Q1 i true w (X4 .leq T.f 56 X 32) fun Y w=>pick P i Y (.bool false) w fun Z w=>K Z w)
theorem Q2i (h:Rt a0 w K):Q0 P F.aW [a0] w K:=zr Q1Z Tryz.func180 h
def Et:H0:=fun b w K=>Q0 P F.aW [b] w fun a w=>X6 a true b w fun c w=>Q1 a true w (P0 P T.b c (.int .i64 0)) fun d w=>Q1 a true w (Z9 P .leq T.a9 (.tmp 7) (.const (.int .u8 90)) d (.int .u8 90)) fun e w=>pick P a e (.bool false) w fun f w=>K f w
theorem Q1d (h:Et a0 w K):Q0 P F.e [a0] w K:=zr (Y4 2) Tryz.func141 h
def Ew:H0:=fun d w K=>Q0 P F.a3 [d] w fun m w=>Y0 T.b d w fun n w=>Z9 P .mul T.f (.const (.int .i64 2)) (.tmp 10) (.int .i64 2) m w fun e w=>X5 .sub T.f 9 11 n e w fun f w=>I3 P T.b d none (some f) none w fun c w=>X4 .leq T.f 14 m 3 w fun a w=>X6 a true c w fun g w=>Q1 a true w (Q0 P F.z [g]) fun h w=>X6 a true h w fun b w=>X6 b false c w fun i w=>Q1 b false w (Q0 P F.e [i]) fun j w=>Q1 a true w (pick P b (.bool true) j) fun k w=>pick P a k (.bool false) w fun l w=>K l w
theorem Q1g (h:Ew a0 w K):Q0 P F.f [a0] w K:=zr (Y4 4) Tryz.func103 h
def Dh:H0:=fun b w K=>Q0 P F.aW [b] w fun a w=>X6 a true b w fun c w=>Q1 a true w (P0 P T.b c (.int .i64 0)) fun d w=>Q1 a true w (Z9 P .geq T.a9 (.tmp 7) (.const (.int .u8 97)) d (.int .u8 97)) fun e w=>pick P a e (.bool false) w fun f w=>K f w
theorem Az (h:Dh a0 w K):Q0 P F.v [a0] w K:=zr (Y4 2) Tryz.func166 h
def Es:L3:=fun c d w K=>Y0 T.b c w fun n w=>X5 .lss T.f 5 7 d n w fun b w=>X6 b true c w fun e w=>X6 b true d w fun f w=>Q1 b true w (P0 P T.b e f) fun g w=>Q1 b true w (Z9 P .geq T.a9 (.tmp 12) (.const (.int .u8 128)) g (.int .u8 128)) fun h w=>pick P b h (.bool false) w fun a w=>X6 a true c w fun i w=>X6 a true d w fun j w=>Q1 a true w (P0 P T.b i j) fun k w=>Q1 a true w (Z9 P .lss T.a9 (.tmp 18) (.const (.int .u8 192)) k (.int .u8 192)) fun l w=>pick P a l (.bool false) w fun m w=>K m w
theorem Q1c (h:Es a0 a1 w K):Q0 P F.s [a0,a1] w K:=zr (Y4 2) Tryz.func102 h
end Go.Proofs.Y
