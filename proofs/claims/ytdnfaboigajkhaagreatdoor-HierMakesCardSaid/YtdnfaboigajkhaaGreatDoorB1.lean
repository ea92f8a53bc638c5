/- Parts of a proof about the given program: its functions as texts of their own, what each computes, plain laws of that. The conditions of each stand in its statement. -/
import Derived.WalkKit
import Derived.Test.YtdnfaboigajkhaaGreatDoorProg
import Derived.KernelRfl
set_option linter.unnecessarySimpa false
set_option linter.defProp false
set_option linter.unusedSectionVars false
set_option linter.unusedVariables false
set_option linter.unusedSimpArgs false
namespace Go.Emb
def Xm (P : Program) (s : Sem Next) (w : World) (K : Value → World → Prop) : Prop :=
  match s.run P w with
  | .ok (.value v) w' => K v w'
  | .ok .skip w' => K undef w'
  | .ok (.enter f args) w' => Calls P f args w' fun e w'' => match e with | .returned v => K v w'' | _ => False
  | .ok (.row row args) w' => Rows P row args w' K
  | _ => False
theorem Q7q : ∃ f : Program → Sem Next → World → (Value → World → Prop) → Prop, f = Xm := ⟨_, rfl⟩
noncomputable def op : Program → Sem Next → World → (Value → World → Prop) → Prop := Classical.choose Q7q
theorem Ze : op = Xm := Classical.choose_spec Q7q
theorem Q9C {P : Program} {o : Oper} {a : Act} {w : World} {next : Act → World → Prop} {Q : Exit → Act → World → Prop}
    (h : op P (execOp a.eval o) w (fun v w => next (a.put o.dst v) w)) : o.wp P a w next Q := by
  unfold Oper.wp
  rw [Ze] at h
  unfold Xm at h
  cases hr : (execOp a.eval o).run P w with
  | halt x w' => rw [hr] at h; exact h.elim
  | ok n w' =>
    rw [hr] at h
    cases n <;> simp only at h <;> try exact h.elim
    · exact h
    · exact h
    · refine Calls.mono h fun e w'' he => ?_
      cases e <;> first | exact he | exact he.elim
    · exact h
theorem Nz {P : Program} {s : Sem Next} {K K' : Value → World → Prop} {w : World} (hk : ∀ v w, K v w → K' v w) (h : op P s w K) : op P s w K' := by
  rw [Ze] at *
  unfold Xm at *
  cases hr : s.run P w with
  | halt x w' => rw [hr] at h; exact h.elim
  | ok n w' =>
    rw [hr] at h
    cases n <;> simp only at h ⊢ <;> try exact h.elim
    · exact hk _ _ h
    · exact hk _ _ h
    · refine Calls.mono h fun e w'' he => ?_
      cases e <;> first | exact hk _ _ he | exact he.elim
    · exact h.mono hk
def sv (s : Sem Value) : Sem Next := do Pure.pure (.value (← s))
def su (s : Sem Unit) : Sem Next := do s; Pure.pure .skip
section
variable (P : Program)
noncomputable def pick (c a b : Value) (w : World) (K : Value → World → Prop) : Prop := op P (do Pure.pure (.value (if ← asBool c then a else b))) w K
noncomputable def M0 (e : TypeId) (w : World) (K : Value → World → Prop) : Prop := op P (sv (Instr.alloc e true (.tuple #[]))) w K
noncomputable def box (e : TypeId) (x : Value) (w : World) (K : Value → World → Prop) : Prop := op P (sv (Instr.box e x)) w K
noncomputable def Qu (t : TypeId) (parts : List (Nat × Value)) (w : World) (K : Value → World → Prop) : Prop := op P (sv (Instr.build t parts.toArray)) w K
noncomputable def buildSlice (t : TypeId) (n : Nat) (parts : List (Nat × Value)) (w : World) (K : Value → World → Prop) : Prop := op P (sv (Instr.buildSlice t n parts.toArray)) w K
noncomputable def Q2 (t : TypeId) (a : Value) (w : World) (K : Value → World → Prop) : Prop := op P (sv (Instr.loadAt t a)) w K
noncomputable def V5 (t : TypeId) (a x : Value) (w : World) (K : Value → World → Prop) : Prop := op P (su (Instr.storeAt t a x)) w K
noncomputable def nilCheck (x : Value) (w : World) (K : Value → World → Prop) : Prop := op P (execOp (fun _ => x) { dst := none, op := .nilCheck (.const x), type := 0, pos := "", after := #[], guard := none }) w K
noncomputable def Q3 (o : BinOp) (t : TypeId) (ox oy : Operand) (x y : Value) (w : World) (K : Value → World → Prop) : Prop := op P (sv (do eqGuard o t ox oy x y; Go.binOp o t x y)) w K
noncomputable def U6 (o : UnOp) (x : Value) (w : World) (K : Value → World → Prop) : Prop := op P (sv (Op.unary o x)) w K
noncomputable def conv (s d : TypeId) (x : Value) (w : World) (K : Value → World → Prop) : Prop := op P (sv (Go.convert s d x)) w K
noncomputable def Q8k (t : TypeId) (x : Value) (w : World) (K : Value → World → Prop) : Prop := op P (sv (Instr.makeInterface t x)) w K
noncomputable def D0 (f : Fn) (first caps : List Value) (w : World) (K : Value → World → Prop) : Prop := op P (sv (Instr.makeFunc f first.toArray caps.toArray)) w K
noncomputable def Sy (t : TypeId) (r : Option Value) (w : World) (K : Value → World → Prop) : Prop := op P (sv (Instr.makeMap t r)) w K
noncomputable def Po (t : TypeId) (n c : Value) (w : World) (K : Value → World → Prop) : Prop := op P (sv (Instr.makeSlice t n c)) w K
noncomputable def R7 (t : TypeId) (x : Value) (lo hi mx : Option Value) (w : World) (K : Value → World → Prop) : Prop := op P (sv (Instr.sliceAt t x lo hi mx)) w K
noncomputable def fieldAddr (t : TypeId) (x : Value) (f : Nat) (w : World) (K : Value → World → Prop) : Prop := op P (sv (Instr.fieldAt t x f)) w K
noncomputable def D1 (t : TypeId) (x : Value) (f : Nat) (w : World) (K : Value → World → Prop) : Prop := op P (sv (Instr.field t x f)) w K
noncomputable def indexAddr (t : TypeId) (x i : Value) (w : World) (K : Value → World → Prop) : Prop := op P (sv (Instr.indexAt t x i)) w K
noncomputable def E2 (t : TypeId) (x i : Value) (w : World) (K : Value → World → Prop) : Prop := op P (sv (Instr.index t x i)) w K
noncomputable def lookup (t : TypeId) (x i : Value) (ok : Bool) (w : World) (K : Value → World → Prop) : Prop := op P (sv (Instr.lookup t x i ok)) w K
noncomputable def mapUpdate (t : TypeId) (m k x : Value) (w : World) (K : Value → World → Prop) : Prop := op P (su (Instr.mapUpdate t m k x)) w K
noncomputable def mapEntry (t : TypeId) (m k : Value) (w : World) (K : Value → World → Prop) : Prop := op P (sv (Instr.mapEntry t m k)) w K
noncomputable def entryStore (t : TypeId) (m s x : Value) (w : World) (K : Value → World → Prop) : Prop := op P (su (Instr.entryStore t m s x)) w K
noncomputable def rng (t : TypeId) (x : Value) (w : World) (K : Value → World → Prop) : Prop := op P (sv (Instr.range t x)) w K
noncomputable def N6 (it : Value) (str : Bool) (t : TypeId) (w : World) (K : Value → World → Prop) : Prop := op P (sv (Instr.next it str t)) w K
noncomputable def Q4W (it : Value) (w : World) (K : Value → World → Prop) : Prop := op P (sv (Instr.entry it)) w K
noncomputable def pnc (x : Value) (w : World) (K : Value → World → Prop) : Prop := op P (sv (Instr.panic x)) w K
noncomputable def ext (x : Value) (i : Nat) (w : World) (K : Value → World → Prop) : Prop := op P (sv (Instr.extract x i)) w K
noncomputable def X4 (b : Builtin) (ts : List TypeId) (t : TypeId) (cs : List Bool) (xs : List Value) (w : World) (K : Value → World → Prop) : Prop := op P (Go.builtin b ts.toArray t cs.toArray xs.toArray) w K
noncomputable def Q1 (f : FuncId) (xs : List Value) (w : World) (K : Value → World → Prop) : Prop := op P (callFunc f xs.toArray) w K
noncomputable def Z7 (f : Value) (xs : List Value) (w : World) (K : Value → World → Prop) : Prop := op P (do let d ← Deferred.ofValue f xs.toArray; invoke d.target d.args) w K
end
def get (l : List Value) (t : Nat) : Value := l.getD t undef
def ev (l : List Value) : Operand → Value
  | .tmp t => get l t
  | .const v => v
  | .global g => .pointer (some ⟨g, 0, none⟩)
  | .func f => .func (.func f) #[] #[]
def put (l : List Value) (d : Option Tmp) (v : Value) : List Value :=
  match d with
  | some d => l.set d v
  | none => l
def Kq (l : List Value) (xs : Array Operand) : List Value := xs.toList.map (ev l)
def evp (l : List Value) (xs : Array (Nat × Operand)) : List (Nat × Value) := xs.toList.map fun p => (p.1, ev l p.2)
def evo (l : List Value) (x : Option Operand) : Option Value := match x with | some x => some (ev l x) | none => none
def isC : Operand → Bool | .const _ => true | _ => false
noncomputable def Ll (P : Program) (l : List Value) (o : Oper) (c : Call) (w : World) (K : Value → World → Prop) : Prop :=
  match c.callee with
  | .builtin b => X4 P b c.argTypes.toList o.type (c.args.toList.map isC) (Kq l c.args) w K
  | .value (.func f) => Q1 P f (Kq l c.args) w K
  | .value f => Z7 P (ev l f) (Kq l c.args) w K
  | _ => op P (execOp (ev l) o) w K
noncomputable def N3 (P : Program) (l : List Value) (o : Oper) (w : World) (K : Value → World → Prop) : Prop :=
  match o.op with
  | .move x => K (ev l x) w
  | .assign x => K (ev l x) w
  | .pick c a b => pick P (ev l c) (ev l a) (ev l b) w K
  | .alloc e => M0 P e w K
  | .box e x => box P e (ev l x) w K
  | .build t ps => Qu P t (evp l ps) w K
  | .buildSlice t n ps => buildSlice P t n (evp l ps) w K
  | .load t a => Q2 P t (ev l a) w K
  | .store t a x => V5 P t (ev l a) (ev l x) w K
  | .nilCheck x => nilCheck P (ev l x) w K
  | .binOp op t x y _ => Q3 P op t x y (ev l x) (ev l y) w K
  | .unOp op _ x => U6 P op (ev l x) w K
  | .convert s d x => conv P s d (ev l x) w K
  | .makeInterface t x => Q8k P t (ev l x) w K
  | .makeFunc f first caps => D0 P f (Kq l first) (Kq l caps) w K
  | .makeMap t r => Sy P t (evo l r) w K
  | .makeSlice t n c => Po P t (ev l n) (ev l c) w K
  | .slice t x lo hi mx => R7 P t (ev l x) (evo l lo) (evo l hi) (evo l mx) w K
  | .fieldAddr t x f => fieldAddr P t (ev l x) f w K
  | .field t x f => D1 P t (ev l x) f w K
  | .indexAddr t x i => indexAddr P t (ev l x) (ev l i) w K
  | .index t x i => E2 P t (ev l x) (ev l i) w K
  | .lookup t x i ok => lookup P t (ev l x) (ev l i) ok w K
  | .mapUpdate t m k x => mapUpdate P t (ev l m) (ev l k) (ev l x) w K
  | .insert t m k x => mapUpdate P t (ev l m) (ev l k) (ev l x) w K
  | .mapEntry t m k => mapEntry P t (ev l m) (ev l k) w K
  | .entryStore t m s x => entryStore P t (ev l m) (ev l s) (ev l x) w K
  | .range t x => rng P t (ev l x) w K
  | .next it str => N6 P (ev l it) str o.type w K
  | .extract x i => ext P (ev l x) i w K
  | .entry it => Q4W P (ev l it) w K
  | .panic x => pnc P (ev l x) w K
  | .call c => Ll P l o c w K
  | _ => op P (execOp (ev l) o) w K
theorem Q4Y {α β : Type} (f : α → β) (a : Array α) : a.map f = (a.toList.map f).toArray := by rw [← Array.toList_map, Array.toArray_toList]
theorem Q8m (l : List Value) (x : Option Operand) : x.map (ev l) = evo l x := by cases x <;> rfl
theorem Q3a {P : Program} {l : List Value} {o : Oper} {c : Call} {K K' : Value → World → Prop} {w : World} (hk : ∀ v w, K v w → K' v w) (h : Ll P l o c w K) : Ll P l o c w K' := by
  obtain ⟨cal, args, ts⟩ := c
  cases cal with
  | builtin b => exact Nz hk h
  | invoke r m => exact Nz hk h
  | value f => cases f <;> (simp only [Ll, Z7, Q1] at h ⊢; exact Nz hk h)
theorem Yy {P : Program} {l : List Value} {o : Oper} {K K' : Value → World → Prop} {w : World} (hk : ∀ v w, K v w → K' v w) (h : N3 P l o w K) : N3 P l o w K' := by
  obtain ⟨d, p, ty, pos, af, g⟩ := o
  cases p <;> first | exact hk _ _ h | exact Q3a hk h | exact Nz hk h | (simp only [N3] at h ⊢; exact Nz hk h)
theorem Q3z {P : Program} {l : List Value} {o : Oper} {K : Value → World → Prop} {w : World} (h : N3 P l o w K) : op P (execOp (ev l) o) w K := by
  unfold N3 at h
  split at h <;> rename_i he
  all_goals first
    | exact h
    | (unfold execOp; rw [he]; exact h)
    | (unfold execOp; rw [he]; simp only [Q4Y, Q8m]; exact h)
    | (unfold execOp; rw [he, Ze]; exact h)
    | skip
  rename_i c
  unfold Ll at h
  split at h <;> rename_i hc
  · unfold execOp; rw [he]; simp only [resolve, hc, Q4Y]
    simp only [pure_bind, invoke]
    unfold X4 at h
    simp only [Array.toArray_toList] at h
    refine (congrArg (fun z => op P (builtin _ c.argTypes o.type (List.toArray z) _) w K) (List.map_congr_left (fun x _ => ?_))).mp h
    cases x <;> rfl
  · unfold execOp; rw [he]; simp only [resolve, hc, Q4Y]
    simp only [ev, Deferred.ofValue, pure_bind, invoke]
    simpa [Q1, Kq] using h
  · unfold execOp; rw [he]; simp only [resolve, hc, Q4Y]
    exact h
  · exact h
def Wb (v : Value) (b : Bool) (w : World) (run : World → (Value → World → Prop) → Prop) (J : Value → World → Prop) : Prop :=
  match v with
  | .bool c => if c = b then run w J else J undef w
  | _ => J undef w
theorem Q67 : ∃ f : Value → Bool → World → (World → (Value → World → Prop) → Prop) → (Value → World → Prop) → Prop, f = Wb := ⟨_, rfl⟩
noncomputable def Q0 : Value → Bool → World → (World → (Value → World → Prop) → Prop) → (Value → World → Prop) → Prop := Classical.choose Q67
theorem Me : Q0 = Wb := Classical.choose_spec Q67
def Q05 (v : Value) (t e : Prop) : Prop :=
  match v with
  | .bool true => t
  | .bool false => e
  | _ => False
theorem Q6c : ∃ f : Value → Prop → Prop → Prop, f = Q05 := ⟨_, rfl⟩
noncomputable def X1 : Value → Prop → Prop → Prop := Classical.choose Q6c
theorem Q2o : X1 = Q05 := Classical.choose_spec Q6c
noncomputable def W6 (P : Program) (ops : List Oper) (next : List Value → World → Prop) : List Oper → List Value → World → Prop
  | [], l, w => next l w
  | o :: rest, l, w =>
    match o.guard with
    | none => N3 P l o w (fun v w => W6 P ops next rest (put l o.dst v) w)
    | some (j, b) => match (ops[j]?).bind (·.dst) with
      | some d => Q0 (get l d) b w (N3 P l o) (fun v w => W6 P ops next rest (put l o.dst v) w)
      | none => W6 P ops next rest (put l o.dst undef) w
def Bz : Nat → Type
  | 0 => Unit
  | 1 => Value
  | n + 2 => Value × Bz (n + 1)
def Wr (l : List Value) : (sl : List Nat) → Bz sl.length
  | [] => ()
  | [s] => get l s
  | s :: t :: r => (get l s, Wr l (t :: r))
def Nh (i : Nat) (e : Value) : (sl : List Nat) → Bz sl.length → Value
  | [], _ => e
  | [s], x => if s = i then x else e
  | s :: t :: r, x => if s = i then x.1 else Nh i e (t :: r) x.2
def N8 (sl wr : List Nat) (x : Bz sl.length) (d : Nat → Value) : Nat → List Value → List Value
  | _, [] => []
  | i, v :: l => Nh i (if wr.contains i then d i else v) sl x :: N8 sl wr x d (i + 1) l
def Q7n (α : Type) (x0 : α) (w : World) (body : (α → World → Prop) → α → (Nat → Value) → World → Prop) : Prop :=
  ∃ (I : α → World → Prop) (μ : α → World → Nat), I x0 w ∧ ∀ x d w, I x w → body (fun x' w' => I x' w' ∧ μ x' w' < μ x w) x d w
theorem Q7r : ∃ f : (α : Type) → α → World → ((α → World → Prop) → α → (Nat → Value) → World → Prop) → Prop, f = Q7n := ⟨_, rfl⟩
noncomputable def lp {α : Type} : α → World → ((α → World → Prop) → α → (Nat → Value) → World → Prop) → Prop := Classical.choose Q7r α
theorem Q7H {α : Type} (x0 : α) (w : World) (body : (α → World → Prop) → α → (Nat → Value) → World → Prop) : lp x0 w body = Q7n α x0 w body :=
  congrFun (congrFun (congrFun (congrFun (Classical.choose_spec Q7r) α) x0) w) body
def Q7F (α : Type) (w : World) (A : (α → World → Prop) → World → Prop) (B : α → (Nat → Value) → World → Prop) : Prop :=
  ∃ I : α → World → Prop, A I w ∧ ∀ x d w, I x w → B x d w
theorem Q7y : ∃ f : (α : Type) → World → ((α → World → Prop) → World → Prop) → (α → (Nat → Value) → World → Prop) → Prop, f = Q7F := ⟨_, rfl⟩
noncomputable def jn {α : Type} : World → ((α → World → Prop) → World → Prop) → (α → (Nat → Value) → World → Prop) → Prop := Classical.choose Q7y α
theorem Q7w {α : Type} (w : World) (A : (α → World → Prop) → World → Prop) (B : α → (Nat → Value) → World → Prop) : jn w A B = Q7F α w A B :=
  congrFun (congrFun (congrFun (congrFun (Classical.choose_spec Q7y) α) w) A) B
theorem Ve {α : Type} {w : World} {A : (α → World → Prop) → World → Prop} {B : α → (Nat → Value) → World → Prop} (I : α → World → Prop) (h : A I w) (hb : ∀ x d w, I x w → B x d w) : jn w A B := by
  rw [Q7w]; exact ⟨I, h, hb⟩
theorem Q2N {α : Type} {w : World} {A : (α → World → Prop) → World → Prop} {B : α → (Nat → Value) → World → Prop} (h : jn w A B) : ∃ I : α → World → Prop, A I w ∧ ∀ x d w, I x w → B x d w := by
  rw [Q7w] at h; exact h
theorem Jm {α : Type} {x0 : α} {w : World} {body : (α → World → Prop) → α → (Nat → Value) → World → Prop} (I : α → World → Prop) (μ : α → World → Nat) (h0 : I x0 w)
    (hr : ∀ x d w, I x w → body (fun x' w' => I x' w' ∧ μ x' w' < μ x w) x d w) : lp x0 w body := by
  rw [Q7H]; exact ⟨I, μ, h0, hr⟩
theorem Q5B {α : Type} {x0 : α} {w : World} {body : (α → World → Prop) → α → (Nat → Value) → World → Prop} (h : lp x0 w body) :
    ∃ (I : α → World → Prop) (μ : α → World → Nat), I x0 w ∧ ∀ x d w, I x w → body (fun x' w' => I x' w' ∧ μ x' w' < μ x w) x d w := by
  rw [Q7H] at h; exact h
def D5 (ops : List Oper) : List Nat := ops.filterMap (·.dst)
def G8 : Code → Nat
  | .seq a b => G8 a + G8 b + 1
  | .cond _ a b => G8 a + G8 b
  | .block _ c => G8 c
  | .loop c => G8 c + 1
  | .scope c => G8 c
  | _ => 0
def M3 (ann : List (Option (List Nat))) : Nat → Code → List Nat
  | _, .region _ ops _ => D5 ops.toList
  | k, .seq a b => (ann.getD k none).getD [] ++ (M3 ann (k + 1) a ++ M3 ann (k + 1 + G8 a) b)
  | k, .cond _ a b => M3 ann k a ++ M3 ann (k + G8 a) b
  | k, .block _ c => M3 ann k c
  | k, .loop c => (ann.getD k none).getD [] ++ M3 ann (k + 1) c
  | k, .scope c => M3 ann k c
  | _, _ => []
abbrev Ms := Exit → List Value → World → Prop
def Af (next : List Value → World → Prop) (Q : Ms) : Ms
  | .normal, a, w => next a w
  | e, a, w => Q e a w
def Q0d (id : Nat) (Q : Ms) : Ms
  | .exit id', a, w => if id' = id then Q .normal a w else Q (.exit id') a w
  | e, a, w => Q e a w
noncomputable def Ld (P : Program) (ann : List (Option (List Nat))) : Nat → Code → Ms → List Value → World → Prop
  | _, .skip, Q, l, w => Q .normal l w
  | _, .label _, Q, l, w => Q .normal l w
  | _, .exit id, Q, l, w => Q (.exit id) l w
  | _, .ret, Q, l, w => Q .ret l w
  | _, .region _ ops false, Q, l, w => W6 P ops.toList (fun l w => Q .normal l w) ops.toList l w
  | _, .region _ ops true, Q, l, w => ∀ t, W6 P ops.toList (fun l w => Q .normal l w) ((Region.schedule (P.follows .mixedOrders) ops t).filterMap (ops[·]?)) l w.drew
  | k, .seq x y, Q, l, w => match ann.getD k none with
    | none => Ld P ann (k + 1) x (Af (fun l w => Ld P ann (k + 1 + G8 x) y Q l w) Q) l w
    | some sl => jn w (fun J w => Ld P ann (k + 1) x (Af (fun l' w' => J (Wr l' sl) w') Q) l w)
        (fun z d w => Ld P ann (k + 1 + G8 x) y Q (N8 sl (M3 ann (k + 1) x) z d 0 l) w)
  | k, .cond c x y, Q, l, w => X1 (ev l c) (Ld P ann k x Q l w) (Ld P ann (k + G8 x) y Q l w)
  | k, .block id c, Q, l, w => Ld P ann k c (Q0d id Q) l w
  | k, .loop c, Q, l, w =>
    lp (Wr l ((ann.getD k none).getD [])) w (fun again x d w => Ld P ann (k + 1) c (Af (fun l' w' => again (Wr l' ((ann.getD k none).getD [])) w') Q) (N8 ((ann.getD k none).getD []) (M3 ann (k + 1) c) x d 0 l) w)
  | _, _, _, _, _ => False
theorem Q5p {ops : List Oper} {l : List Value} {o : Oper} {j : Nat} {b : Bool} (hg : o.guard = some (j, b)) {d : Nat} (hd : (ops[j]?).bind (·.dst) = some d) :
    Region.wanted o (yielded ops.toArray l.toArray) = true ↔ get l d = .bool b := by
  unfold Region.wanted yielded
  rw [hg]
  simp only [List.getElem?_toArray]
  rw [hd]
  simp only [Option.bind_some, get, List.getD_eq_getElem?_getD]
  have key : ∀ x : Option Value, ((match x with | some (.bool c) => some c | _ => none) == some b) = true ↔ x.getD undef = .bool b := by
    intro x
    cases x with
    | none => simp [undef]
    | some v => cases v <;> simp
  exact key _
theorem Q46 {ops : List Oper} {l : List Value} {o : Oper} {j : Nat} {b : Bool} (hg : o.guard = some (j, b)) (hd : (ops[j]?).bind (·.dst) = none) :
    Region.wanted o (yielded ops.toArray l.toArray) = false := by
  unfold Region.wanted yielded
  rw [hg]
  simp only [List.getElem?_toArray]
  rw [hd]
  rfl
theorem Ed {v : Value} {b : Bool} {run : World → (Value → World → Prop) → Prop} {J : Value → World → Prop} {w : World} (h : Q0 v b w run J) :
    (v = .bool b ∧ run w J) ∨ (v ≠ .bool b ∧ J undef w) := by
  rw [Me] at h
  unfold Wb at h
  split at h
  · split at h
    · rename_i hc; subst hc; exact .inl ⟨rfl, h⟩
    · rename_i hc; exact .inr ⟨by simp [hc], h⟩
  · rename_i hv; exact .inr ⟨hv b, h⟩
theorem Q2W {v : Value} {b : Bool} {run : World → (Value → World → Prop) → Prop} {J : Value → World → Prop} {w : World}
    (h : (v = .bool b ∧ run w J) ∨ (v ≠ .bool b ∧ J undef w)) : Q0 v b w run J := by
  rw [Me]
  unfold Wb
  split
  · split
    · rename_i hc; subst hc
      rcases h with h | h
      · exact h.2
      · exact absurd rfl h.1
    · rename_i hc
      rcases h with h | h
      · exact absurd (Value.bool.inj h.1) hc
      · exact h.2
  · rename_i hv
    rcases h with h | h
    · exact absurd h.1 (hv b)
    · exact h.2
theorem Q0T (a : Act) : a.eval = ev a.tmps.toList := by
  funext x
  cases x <;> simp [Act.eval, ev, get, List.getD_eq_getElem?_getD]
theorem Q4L (a : Act) (d : Option Tmp) (v : Value) : (a.put d v).tmps.toList = put a.tmps.toList d v := by
  cases d <;> simp [Act.put, put]
theorem Q58 (a : Act) (d : Option Tmp) (v : Value) : (a.put d v).defers = a.defers := by
  cases d <;> simp [Act.put]
def lift (Q : Ms) : Exit → Act → World → Prop := fun e a w => a.defers = [] ∧ Q e a.tmps.toList w
theorem Kc (P : Program) (ops : Array Oper) (Q : Exit → Act → World → Prop) (next : List Value → World → Prop)
    (hn : ∀ a w, a.defers = [] → next a.tmps.toList w → Q .normal a w) (is : List Nat) (hi : ∀ i ∈ is, i < ops.size) :
    ∀ (a : Act) (w : World), a.defers = [] → W6 P ops.toList next (is.filterMap (ops[·]?)) a.tmps.toList w → wpOps P ops Q is a w := by
  induction is with
  | nil => intro a w hd h; exact hn a w hd h
  | cons i is ih =>
    intro a w hd h
    have hlt := hi i (by simp)
    have hio : ops[i]? = some ops[i] := by simp [hlt]
    rw [List.filterMap_cons, hio] at h
    simp only [W6] at h
    simp only [wpOps, hio]
    have e1 : ops.toList.toArray = ops := by simp
    have e2 : a.tmps.toList.toArray = a.tmps := by simp
    have yes : ∀ {v w}, W6 P ops.toList next (is.filterMap (ops[·]?)) (put a.tmps.toList ops[i].dst v) w → wpOps P ops Q is (a.put ops[i].dst v) w := by
      intro v w hv
      refine ih (fun j hj => hi j (by simp [hj])) _ _ (by rw [Q58]; exact hd) ?_
      rw [Q4L]; exact hv
    have run : N3 P a.tmps.toList ops[i] w (fun v w => W6 P ops.toList next (is.filterMap (ops[·]?)) (put a.tmps.toList ops[i].dst v) w) →
        ops[i].wp P a w (wpOps P ops Q is) Q := by
      intro h
      refine Q9C ?_
      rw [Q0T]
      exact Nz (fun v w hv => yes hv) (Q3z h)
    split at h
    · rename_i hg
      rw [if_pos (by simp [Region.wanted, hg])]
      exact .inl (run h)
    · rename_i j b hg
      split at h
      · rename_i d hdst
        have hw := Q5p (ops := ops.toList) (l := a.tmps.toList) hg hdst
        rw [e1, e2] at hw
        rcases Ed h with ⟨hv, h⟩ | ⟨hv, h⟩
        · rw [if_pos (hw.2 hv)]; exact .inl (run h)
        · rw [if_neg (fun h => hv (hw.1 h))]; exact yes h
      · rename_i hdst
        have hw := Q46 (ops := ops.toList) (l := a.tmps.toList) hg hdst
        rw [e1, e2] at hw
        rw [if_neg (by rw [hw]; simp)]; exact yes h
theorem Gm (ops : Array Oper) : (List.range ops.size).filterMap (ops[·]?) = ops.toList := by
  apply List.ext_getElem?
  intro i
  rw [← Array.length_toList]
  have : ∀ l : List Oper, (List.range l.length).filterMap (l[·]?) = l := by
    intro l
    induction l with
    | nil => rfl
    | cons x l ih =>
      rw [List.length_cons, List.range_succ_eq_map, List.filterMap_cons]
      simp only [List.getElem?_cons_zero, List.filterMap_map]
      congr 1
  have h := this ops.toList
  simp only [Array.getElem?_toList] at h
  rw [h]
theorem Tu (b : Bool) (ops : Array Oper) (t : Nat) : ∀ i ∈ Region.schedule b ops t, i < ops.size := by
  have key : ∀ m fuel t listed acc, (∀ i ∈ acc, i < ops.size) → ∀ i ∈ Region.linearise.go m ops fuel t listed acc, i < ops.size := by
    intro m fuel
    induction fuel with
    | zero => intro t listed acc h i hi; simp [Region.linearise.go] at hi; exact h i hi
    | succ fuel ih =>
      intro t listed acc h i hi
      simp only [Region.linearise.go] at hi
      split at hi
      · rename_i j hj
        refine ih _ _ _ ?_ i hi
        intro k hk
        rcases List.mem_cons.1 hk with rfl | hk
        · have := List.mem_of_getElem? hj
          simp only [List.mem_filter, List.mem_range] at this
          exact this.1
        · exact h k hk
      · simp at hi; exact h i hi
  intro i hi
  unfold Region.schedule at hi
  split at hi
  · exact key _ _ _ _ _ (by simp) i hi
  · exact key _ _ _ _ _ (by simp) i hi
def C6 (W : List Nat) (l l' : List Value) : Prop := l'.length = l.length ∧ ∀ i, W.contains i = false → l'[i]? = l[i]?
theorem C6.refl (W : List Nat) (l : List Value) : C6 W l l := ⟨rfl, fun _ _ => rfl⟩
theorem C6.mono {W W' : List Nat} {l l' : List Value} (h : C6 W l l') (hs : ∀ i, W.contains i = true → W'.contains i = true) : C6 W' l l' :=
  ⟨h.1, fun i hi => h.2 i (by cases hc : W.contains i with | false => rfl | true => rw [hs i hc] at hi; exact hi)⟩
theorem C6.trans {W : List Nat} {a b c : List Value} (h : C6 W a b) (k : C6 W b c) : C6 W a c :=
  ⟨k.1.trans h.1, fun i hi => (k.2 i hi).trans (h.2 i hi)⟩
theorem Ob (sl wr : List Nat) (x : Bz sl.length) (d : Nat → Value) (l : List Value) : ∀ i, (N8 sl wr x d i l).length = l.length := by
  induction l with
  | nil => intro i; rfl
  | cons v l ih => intro i; simp [N8, ih]
theorem Es (sl wr : List Nat) (x : Bz sl.length) (d : Nat → Value) (l : List Value) : ∀ i j, (N8 sl wr x d i l)[j]? = (l[j]?).map fun v => Nh (i + j) (if wr.contains (i + j) then d (i + j) else v) sl x := by
  induction l with
  | nil => intro i j; simp [N8]
  | cons v l ih =>
    intro i j
    cases j with
    | zero => simp [N8]
    | succ j => simp only [N8, List.getElem?_cons_succ, ih]; rw [show i + 1 + j = i + (j + 1) from by omega]
theorem Zx (i : Nat) (e : Value) : ∀ (sl : List Nat) (x : Bz sl.length), sl.contains i = false → Nh i e sl x = e
  | [], _, _ => rfl
  | [s], x, h => by
    have h1 : ¬ s = i := by intro h1; subst h1; simp at h
    exact if_neg h1
  | s :: t :: r, x, h => by
    simp only [Nh]
    split
    · rename_i h1; subst h1; simp at h
    · refine Zx i e (t :: r) x.2 ?_
      simp only [List.contains_cons, Bool.or_eq_false_iff] at h ⊢
      exact h.2
theorem Q3e (l : List Value) (i : Nat) (e e' : Value) : ∀ (sl : List Nat) , sl.contains i = true → Nh i e sl (Wr l sl) = get l i
  | [], h => by simp at h
  | [s], h => by
    simp only [List.contains_cons, List.contains_nil, Bool.or_false, beq_iff_eq] at h
    subst h; simp [Nh, Wr]
  | s :: t :: r, h => by
    simp only [Nh, Wr]
    split
    · rename_i h1; subst h1; rfl
    · rename_i h1
      refine Q3e l i e e' (t :: r) ?_
      simp only [List.contains_cons, Bool.or_eq_true, beq_iff_eq] at h ⊢
      rcases h with h | h
      · exact absurd h.symm h1
      · exact h
theorem Cu (sl wr : List Nat) (l l' : List Value) (hlen : l'.length = l.length)
    (h : ∀ i, sl.contains i = false → wr.contains i = false → l'[i]? = l[i]?) : l' = N8 sl wr (Wr l' sl) (get l') 0 l := by
  apply List.ext_getElem?
  intro i
  rw [Es]
  simp only [Nat.zero_add]
  cases hl : l[i]? with
  | none =>
    have := List.getElem?_eq_none_iff.1 hl
    simp only [Option.map_none]
    exact List.getElem?_eq_none (by omega)
  | some v =>
    have hi : i < l.length := (List.getElem?_eq_some_iff.1 hl).1
    have hg : l'[i]? = some (get l' i) := by
      simp only [get, List.getD_eq_getElem?_getD]
      rw [List.getElem?_eq_getElem (by omega)]; rfl
    rw [hg]
    simp only [Option.map_some, Option.some.injEq]
    by_cases hs : sl.contains i = true
    · rw [Q3e l' i _ undef sl hs]
    · have hs' : sl.contains i = false := by simpa using hs
      rw [Zx _ _ _ _ hs']
      by_cases hw : wr.contains i = true
      · rw [if_pos hw]
      · have hw' : wr.contains i = false := by simpa using hw
        rw [if_neg hw]
        have := h i hs' hw'
        rw [hg, hl] at this
        exact Option.some.inj this
theorem Q1L {v : Value} {t e t' e' : Prop} (ht : t → t') (he : e → e') (h : X1 v t e) : X1 v t' e' := by
  rw [Q2o] at *
  unfold Q05 at *
  split at h
  · exact ht h
  · exact he h
  · exact h.elim
theorem Xy (P : Program) (ops0 : List Oper) (next next' : List Value → World → Prop) (W : List Nat) (l0 : List Value) : ∀ (ops : List Oper) (l : List Value) (w : World),
    (∀ o ∈ ops, ∀ d, o.dst = some d → W.contains d = true) → C6 W l0 l → (∀ l w, next l w → C6 W l0 l → next' l w) → W6 P ops0 next ops l w → W6 P ops0 next' ops l w
  | [], l, w, _, ha, hn, h => hn l w h ha
  | o :: rest, l, w, hW, ha, hn, h => by
    have hput : ∀ v, C6 W l0 (put l o.dst v) := by
      intro v
      cases hd : o.dst with
      | none => exact ha
      | some d =>
        have hc := hW o (by simp) d hd
        refine ha.trans ⟨by simp [put], fun i hi => ?_⟩
        have : d ≠ i := by intro e; subst e; rw [hc] at hi; cases hi
        simp [put, this]
    have hrest : ∀ v w, W6 P ops0 next rest (put l o.dst v) w → W6 P ops0 next' rest (put l o.dst v) w := fun v w hv =>
      Xy P ops0 next next' W l0 rest _ w (fun o ho => hW o (by simp [ho])) (hput v) hn hv
    simp only [W6] at h ⊢
    split at h
    · exact Yy hrest h
    · split at h
      · refine Q2W ((Ed h).imp (fun ⟨h1, h2⟩ => ⟨h1, Yy hrest h2⟩) (fun ⟨h1, h2⟩ => ⟨h1, hrest _ _ h2⟩))
      · exact hrest _ _ h
theorem Q1O {α : Type} {x0 : α} {body body' : (α → World → Prop) → α → (Nat → Value) → World → Prop} {w : World}
    (hb : ∀ again x d w, body again x d w → body' again x d w) (h : lp x0 w body) : lp x0 w body' := by
  obtain ⟨I, μ, h0, hr⟩ := Q5B h
  exact Jm I μ h0 fun x d w hx => hb _ _ _ _ (hr x d w hx)
theorem B3 {a b : List Nat} {i : Nat} (h : a.contains i = true) : (a ++ b).contains i = true := by simp at h ⊢; exact .inl h
theorem O7 {a b : List Nat} {i : Nat} (h : b.contains i = true) : (a ++ b).contains i = true := by simp at h ⊢; exact .inr h
theorem Q1H (P : Program) (ann : List (Option (List Nat))) (c : Code) : ∀ (k : Nat) (Q Q' : Ms) (W : List Nat) (l0 l : List Value) (w : World),
    (∀ i, (M3 ann k c).contains i = true → W.contains i = true) → C6 W l0 l →
    (∀ e l w, Q e l w → C6 W l0 l → Q' e l w) → Ld P ann k c Q l w → Ld P ann k c Q' l w := by
  induction c with
  | skip => intro k Q Q' W l0 l w _ ha hq h; exact hq _ _ _ h ha
  | label n => intro k Q Q' W l0 l w _ ha hq h; exact hq _ _ _ h ha
  | exit id => intro k Q Q' W l0 l w _ ha hq h; exact hq _ _ _ h ha
  | ret => intro k Q Q' W l0 l w _ ha hq h; exact hq _ _ _ h ha
  | goto n => intro k Q Q' W l0 l w _ ha hq h; exact h.elim
  | refuse s => intro k Q Q' W l0 l w _ ha hq h; exact h.elim
  | scope c => intro k Q Q' W l0 l w _ ha hq h; exact h.elim
  | rangeFunc f p a b => intro k Q Q' W l0 l w _ ha hq h; exact h.elim
  | region id ops draw =>
    intro k Q Q' W l0 l w hW ha hq h
    have hW' : ∀ o ∈ ops.toList, ∀ d, o.dst = some d → W.contains d = true := by
      intro o ho d hd
      refine hW d ?_
      simp only [M3, D5, List.contains_eq_mem, List.mem_filterMap, decide_eq_true_eq]
      exact ⟨o, ho, hd⟩
    cases draw with
    | false => exact Xy P _ _ _ W l0 _ _ _ hW' ha (fun l w hn ha => hq _ _ _ hn ha) h
    | true =>
      intro t
      refine Xy P _ _ _ W l0 _ _ _ ?_ ha (fun l w hn ha => hq _ _ _ hn ha) (h t)
      intro o ho
      simp only [List.mem_filterMap] at ho
      obtain ⟨i, _, hi⟩ := ho
      exact hW' o (by simpa using Array.mem_of_getElem? hi)
  | seq x y ihx ihy =>
    intro k Q Q' W l0 l w hW ha hq h
    have hx : ∀ i, (M3 ann (k + 1) x).contains i = true → W.contains i = true := fun i hi => hW i (O7 (B3 hi))
    have hy : ∀ i, (M3 ann (k + 1 + G8 x) y).contains i = true → W.contains i = true := fun i hi => hW i (O7 (O7 hi))
    simp only [Ld] at h ⊢
    split at h
    · refine ihx _ _ _ W l0 l w hx ha ?_ h
      intro e l' w' h' ha'
      cases e with
      | normal => exact ihy _ _ _ W l0 l' w' hy ha' hq h'
      | _ => exact hq _ _ _ h' ha'
    · rename_i sl hsl
      obtain ⟨J, h1, h2⟩ := Q2N h
      refine Ve J (ihx _ _ _ W l0 l w hx ha ?_ h1) fun z d w hz => ?_
      · intro e l' w' h' ha'
        cases e with
        | normal => exact h'
        | _ => exact hq _ _ _ h' ha'
      · refine ihy _ _ _ W l0 _ w hy (ha.trans ⟨Ob _ _ _ _ _ _, fun i hi => ?_⟩) hq (h2 z d w hz)
        rw [Es]
        have h1 : sl.contains i = false := by
          cases hc : sl.contains i with
          | false => rfl
          | true => rw [hW i (B3 (by rw [hsl]; exact hc))] at hi; cases hi
        have h2 : (M3 ann (k + 1) x).contains i = false := by
          cases hc : (M3 ann (k + 1) x).contains i with
          | false => rfl
          | true => rw [hx i hc] at hi; cases hi
        simp only [Nat.zero_add]
        cases hl : l[i]? with
        | none => rfl
        | some v => simp only [Option.map_some, Zx _ _ _ _ h1, h2, Bool.false_eq_true, if_false]
  | cond c x y ihx ihy =>
    intro k Q Q' W l0 l w hW ha hq h
    exact Q1L (ihx k _ _ W l0 l w (fun i hi => hW i (B3 hi)) ha hq) (ihy _ _ _ W l0 l w (fun i hi => hW i (O7 hi)) ha hq) h
  | block id c ih =>
    intro k Q Q' W l0 l w hW ha hq h
    refine ih k _ _ W l0 l w hW ha ?_ h
    intro e l' w' h' ha'
    cases e with
    | exit id' => simp only [Q0d] at h' ⊢; split <;> rename_i hid <;> simp only [hid, if_true, if_false] at h' <;> exact hq _ _ _ h' ha'
    | _ => exact hq _ _ _ h' ha'
  | loop c ih =>
    intro k Q Q' W l0 l w hW ha hq h
    refine Q1O (fun again x d w hb => ?_) h
    refine ih _ _ _ W l0 _ _ (fun i hi => hW i (O7 hi)) ?_ ?_ hb
    · refine ha.trans ⟨Ob _ _ _ _ _ _, fun i hi => ?_⟩
      rw [Es]
      have h1 : ((ann.getD k none).getD []).contains i = false := by
        cases hc : ((ann.getD k none).getD []).contains i with
        | false => rfl
        | true => rw [hW i (B3 hc)] at hi; cases hi
      have h2 : (M3 ann (k + 1) c).contains i = false := by
        cases hc : (M3 ann (k + 1) c).contains i with
        | false => rfl
        | true => rw [hW i (O7 hc)] at hi; cases hi
      simp only [Nat.zero_add]
      cases hl : l[i]? with
      | none => rfl
      | some v => simp only [Option.map_some, Zx _ _ _ _ h1, h2, Bool.false_eq_true, if_false]
    · intro e l' w' h' ha'
      cases e with
      | normal => exact h'
      | _ => exact hq _ _ _ h' ha'
theorem Q5N (P : Program) (ann : List (Option (List Nat))) (c : Code) : ∀ (k : Nat) (Q : Ms) (a : Act) (w : World),
    a.defers = [] → Ld P ann k c Q a.tmps.toList w → c.wp P (lift Q) a w := by
  induction c with
  | skip => intro k Q a w hd h; exact wp_skip ⟨hd, h⟩
  | label n => intro k Q a w hd h; exact wp_label ⟨hd, h⟩
  | exit id => intro k Q a w hd h; exact wp_exit ⟨hd, h⟩
  | ret => intro k Q a w hd h; exact wp_ret ⟨hd, h⟩
  | goto n => intro k Q a w hd h; exact h.elim
  | refuse s => intro k Q a w hd h; exact h.elim
  | scope c => intro k Q a w hd h; exact h.elim
  | rangeFunc f p a b => intro k Q a w hd h; exact h.elim
  | region id ops draw =>
    intro k Q a w hd h
    cases draw with
    | false =>
      refine wp_region (Kc P ops _ _ (fun a w hd h => ⟨hd, h⟩) _ (by simp) a w hd ?_)
      rw [Gm]; exact h
    | true =>
      refine wp_region_draw fun t => ?_
      exact Kc P ops _ _ (fun a w hd h => ⟨hd, h⟩) _ (Tu _ _ _) a _ hd (h t)
  | seq x y ihx ihy =>
    intro k Q a w hd h
    simp only [Ld] at h
    split at h
    · refine wp_seq (wp_mono (ihx _ _ a w hd h) ?_)
      intro e a' w' ⟨hd', h'⟩
      cases e with
      | normal => exact ihy _ _ a' w' hd' h'
      | _ => exact ⟨hd', h'⟩
    · rename_i sl hsl
      obtain ⟨J, h1, h2⟩ := Q2N h
      have h3 := Q1H P ann x (k + 1) _ (fun e l' w' => Af (fun l' w' => J (Wr l' sl) w') Q e l' w' ∧ C6 (M3 ann (k + 1) x) a.tmps.toList l') (M3 ann (k + 1) x) a.tmps.toList a.tmps.toList w (fun _ h => h) (C6.refl _ _) (fun e l w h ha => ⟨h, ha⟩) h1
      refine wp_seq (wp_mono (ihx (k + 1) _ a w hd h3) ?_)
      intro e a' w' ⟨hd', h', ha'⟩
      cases e with
      | normal =>
        refine ihy (k + 1 + G8 x) _ a' w' hd' ?_
        rw [Cu sl (M3 ann (k + 1) x) a.tmps.toList a'.tmps.toList ha'.1 (fun i _ h => ha'.2 i h)]
        exact h2 _ _ _ h'
      | _ => exact ⟨hd', h'⟩
  | cond c x y ihx ihy =>
    intro k Q a w hd h
    simp only [Ld, Q2o, Q05] at h
    split at h
    · rename_i hv
      exact wp_cond_true (by rw [Q0T]; exact hv) (ihx _ _ _ _ hd h)
    · rename_i hv
      exact wp_cond_false (by rw [Q0T]; exact hv) (ihy _ _ _ _ hd h)
    · exact h.elim
  | block id c ih =>
    intro k Q a w hd h
    refine wp_block (wp_mono (ih k _ a w hd h) ?_)
    intro e a' w' ⟨hd', h'⟩
    cases e with
    | exit id' =>
      simp only [Q0d, Exit.inBlock] at h' ⊢
      split <;> rename_i hid <;> simp only [hid, if_true, if_false] at h' <;> exact ⟨hd', h'⟩
    | _ => exact ⟨hd', h'⟩
  | loop c ih =>
    intro k Q a w hd h
    obtain ⟨I, μ, h0, hr⟩ := Q5B h
    refine wp_loop (fun a' w' => a'.defers = [] ∧ (∃ d, a'.tmps.toList = N8 ((ann.getD k none).getD []) (M3 ann (k + 1) c) (Wr a'.tmps.toList ((ann.getD k none).getD [])) d 0 a.tmps.toList) ∧ I (Wr a'.tmps.toList ((ann.getD k none).getD [])) w') (fun a' w' => μ (Wr a'.tmps.toList ((ann.getD k none).getD [])) w') ⟨hd, ⟨get a.tmps.toList, Cu _ _ _ _ rfl (fun _ _ _ => rfl)⟩, h0⟩ ?_
    intro a1 w1 ⟨hd1, ⟨d1, hf1⟩, hI1⟩
    have hb := hr _ d1 w1 hI1
    dsimp only at hb
    rw [← hf1] at hb
    have hb2 := Q1H P ann c (k + 1) _ (fun e l' w' => Af (fun l' w' => I (Wr l' ((ann.getD k none).getD [])) w' ∧ μ (Wr l' ((ann.getD k none).getD [])) w' < μ (Wr a1.tmps.toList ((ann.getD k none).getD [])) w1) Q e l' w' ∧ C6 (M3 ann (k + 1) c) a1.tmps.toList l') (M3 ann (k + 1) c) a1.tmps.toList a1.tmps.toList w1 (fun _ h => h) (C6.refl _ _) (fun e l w h ha => ⟨h, ha⟩) hb
    refine wp_mono (ih _ _ a1 w1 hd1 hb2) ?_
    intro e a2 w2 ⟨hd2, h2, ha2⟩
    cases e with
    | normal =>
      refine ⟨⟨hd2, ⟨get a2.tmps.toList, Cu _ _ _ _ ?_ ?_⟩, h2.1⟩, h2.2⟩
      · rw [ha2.1, hf1, Ob]
      · intro i h1 h3
        rw [ha2.2 i h3, hf1, Es]
        simp only [Nat.zero_add, Zx _ _ _ _ h1, h3, Bool.false_eq_true, if_false, Option.map_id']
    | _ => exact ⟨hd2, h2⟩
def Q5e : List Value → Nat → Value → (List Value → Prop) → Prop
  | [], _, _, k => k []
  | _ :: l, 0, v, k => k (v :: l)
  | x :: l, n + 1, v, k => Q5e l n v (fun l' => k (x :: l'))
def Q0U (l : List Value) (d : Option Tmp) (v : Value) (k : List Value → Prop) : Prop :=
  match d with
  | some d => Q5e l d v k
  | none => k l
def Q5r : List Value → Nat → (Value → Prop) → Prop
  | [], _, k => k undef
  | x :: _, 0, k => k x
  | _ :: l, n + 1, k => Q5r l n k
def evK (l : List Value) (o : Operand) (k : Value → Prop) : Prop :=
  match o with
  | .tmp t => Q5r l t k
  | .const v => k v
  | .global g => k (.pointer (some ⟨g, 0, none⟩))
  | .func f => k (.func (.func f) #[] #[])
def Q0s (i : Nat) (e : Value) : (sl : List Nat) → Bz sl.length → (Value → Prop) → Prop
  | [], _, k => k e
  | [s], x, k => if s = i then k x else k e
  | s :: t :: r, x, k => if s = i then k x.1 else Q0s i e (t :: r) x.2 k
def Rr (sl wr : List Nat) (x : Bz sl.length) (d : Nat → Value) : Nat → List Value → (List Value → Prop) → Prop
  | _, [], k => k []
  | i, v :: l, k => match wr.contains i with
    | true => Q0s i (d i) sl x (fun u => Rr sl wr x d (i + 1) l (fun l' => k (u :: l')))
    | false => Q0s i v sl x (fun u => Rr sl wr x d (i + 1) l (fun l' => k (u :: l')))
theorem Q89 (l : List Value) : ∀ (n : Nat) (v : Value) (k : List Value → Prop), Q5e l n v k = k (l.set n v) := by
  induction l with
  | nil => intro n v k; rfl
  | cons x l ih => intro n v k; cases n with
    | zero => rfl
    | succ n => simp only [Q5e, ih, List.set_cons_succ]
theorem Q4f (l : List Value) (d : Option Tmp) (v : Value) (k : List Value → Prop) : Q0U l d v k = k (put l d v) := by
  cases d with
  | none => rfl
  | some d => exact Q89 l d v k
theorem Q81 (l : List Value) : ∀ (n : Nat) (k : Value → Prop), Q5r l n k = k (get l n) := by
  induction l with
  | nil => intro n k; rfl
  | cons x l ih => intro n k; cases n with
    | zero => rfl
    | succ n => simp only [Q5r, ih]; rfl
theorem Q8O (l : List Value) (o : Operand) (k : Value → Prop) : evK l o k = k (ev l o) := by
  cases o with
  | tmp t => exact Q81 l t k
  | _ => rfl
theorem Iu (i : Nat) (e : Value) (k : Value → Prop) : ∀ (sl : List Nat) (x : Bz sl.length), Q0s i e sl x k = k (Nh i e sl x)
  | [], _ => rfl
  | [s], x => by
    by_cases h : s = i
    · exact (if_pos h).trans (congrArg k (if_pos h).symm)
    · exact (if_neg h).trans (congrArg k (if_neg h).symm)
  | s :: t :: r, x => by
    by_cases h : s = i
    · exact (if_pos h).trans (congrArg k (if_pos h).symm)
    · exact ((if_neg h).trans (Iu i e k (t :: r) x.2)).trans (congrArg k (if_neg h).symm)
theorem Q1P (sl wr : List Nat) (x : Bz sl.length) (d : Nat → Value) (l : List Value) : ∀ (i : Nat) (k : List Value → Prop), Rr sl wr x d i l k = k (N8 sl wr x d i l) := by
  induction l with
  | nil => intro i k; rfl
  | cons v l ih =>
    intro i k
    simp only [Rr, N8]
    split
    · rename_i h; rw [Iu, ih, if_pos h]
    · rename_i h; rw [Iu, ih, if_neg (by rw [h]; simp)]
theorem Eo (sl wr wr' : List Nat) (h : ∀ i, wr.contains i = wr'.contains i) (x : Bz sl.length) (d : Nat → Value) (l : List Value) : ∀ i, N8 sl wr x d i l = N8 sl wr' x d i l := by
  induction l with
  | nil => intro i; rfl
  | cons v l ih => intro i; simp only [N8, ih, h]
noncomputable def T0 (P : Program) (ops : List Oper) (next : List Value → World → Prop) : List Oper → List Value → World → Prop
  | [], l, w => next l w
  | o :: rest, l, w =>
    match o.guard with
    | none => match o.op with
      | .move x => evK l x fun v => Q0U l o.dst v fun l => T0 P ops next rest l w
      | .assign x => evK l x fun v => Q0U l o.dst v fun l => T0 P ops next rest l w
      | _ => N3 P l o w (fun v w => Q0U l o.dst v fun l => T0 P ops next rest l w)
    | some (j, b) => match (ops[j]?).bind (·.dst) with
      | some d => Q0 (get l d) b w (N3 P l o) (fun v w => Q0U l o.dst v fun l => T0 P ops next rest l w)
      | none => Q0U l o.dst undef fun l => T0 P ops next rest l w
theorem Q0C (P : Program) (ops : List Oper) (next : List Value → World → Prop) (os : List Oper) : ∀ (l : List Value) (w : World), T0 P ops next os l w = W6 P ops next os l w := by
  induction os with
  | nil => intro l w; rfl
  | cons o rest ih =>
    intro l w
    obtain ⟨dst, p, ty, pos, af, g⟩ := o
    cases g with
    | none => cases p <;> simp only [T0, W6, Q4f, Q8O, ih, N3]
    | some q => obtain ⟨j, b⟩ := q; simp only [T0, W6, Q4f, ih]
def Ds (T : World → World → Prop) (φ : Value → World → Prop) : Prop := ∀ v w w', φ v w → T w w' → φ v w'
def dk (T : World → World → Prop) (φ : Value → World → Prop) (w : World) : Value → World → Prop := fun v w' => T w w' ∧ φ v w'
def Q2L (T : World → World → Prop) (A : (Value → World → Prop) → Prop) (rest : (Value → World → Prop) → Prop) : Prop :=
  ∃ φ, Ds T φ ∧ A φ ∧ rest φ
theorem Q6n : ∃ f : (World → World → Prop) → ((Value → World → Prop) → Prop) → ((Value → World → Prop) → Prop) → Prop, f = Q2L := ⟨_, rfl⟩
noncomputable def Q7 : (World → World → Prop) → ((Value → World → Prop) → Prop) → ((Value → World → Prop) → Prop) → Prop := Classical.choose Q6n
theorem Q5I : Q7 = Q2L := Classical.choose_spec Q6n
def Q4O (w : World) (A : (World → World → Prop) → (World → Prop) → Prop) : Prop := ∃ T B, B w.drew ∧ (∀ w w', B w → T w w' → B w') ∧ A T B
theorem Q7z : ∃ f : World → ((World → World → Prop) → (World → Prop) → Prop) → Prop, f = Q4O := ⟨_, rfl⟩
noncomputable def dr : World → ((World → World → Prop) → (World → Prop) → Prop) → Prop := Classical.choose Q7z
theorem Q7x : dr = Q4O := Classical.choose_spec Q7z
theorem Q0b {w : World} {A : (World → World → Prop) → (World → Prop) → Prop} (T : World → World → Prop) (B : World → Prop) (h : B w.drew) (hs : ∀ w w', B w → T w w' → B w') (ha : A T B) : dr w A := by
  rw [Q7x]; exact ⟨T, B, h, hs, ha⟩
theorem O4 {T : World → World → Prop} {A rest : (Value → World → Prop) → Prop} (φ : Value → World → Prop) (hs : Ds T φ) (h : A φ) (hr : rest φ) : Q7 T A rest := by
  rw [Q5I]; exact ⟨φ, hs, h, hr⟩
def Q14 (T : World → World → Prop) (A rest : (List Value → Value → World → Prop) → Prop) : Prop :=
  ∃ φ, (∀ xs, Ds T (φ xs)) ∧ A φ ∧ rest φ
theorem Q4A : ∃ f : (World → World → Prop) → ((List Value → Value → World → Prop) → Prop) → ((List Value → Value → World → Prop) → Prop) → Prop, f = Q14 := ⟨_, rfl⟩
noncomputable def Q2G : (World → World → Prop) → ((List Value → Value → World → Prop) → Prop) → ((List Value → Value → World → Prop) → Prop) → Prop := Classical.choose Q4A
theorem Q4l : Q2G = Q14 := Classical.choose_spec Q4A
theorem Q8o {T : World → World → Prop} {A rest : (List Value → Value → World → Prop) → Prop} (φ : List Value → Value → World → Prop) (hs : ∀ xs, Ds T (φ xs)) (h : A φ) (hr : rest φ) : Q2G T A rest := by
  rw [Q4l]; exact ⟨φ, hs, h, hr⟩
noncomputable def runOp (P : Program) (ops : List Oper) (l : List Value) (o : Oper) (w : World) (K : Value → World → Prop) : Prop :=
  match o.guard with
  | none => N3 P l o w K
  | some (j, b) => match (ops[j]?).bind (·.dst) with
    | some d => Q0 (get l d) b w (N3 P l o) K
    | none => False
inductive Ent where
  | val (v : Value)
  | ref (j : Nat)
def Ent.at (u : Nat → Value) : Ent → Value
  | .val v => v
  | .ref j => u j
def G4 (u : Nat → Value) (S : List Ent) : List Value := S.map (Ent.at u)
def getE : List Ent → Nat → Ent
  | [], _ => .val undef
  | x :: _, 0 => x
  | _ :: l, n + 1 => getE l n
def entOf (S : List Ent) : Operand → Ent
  | .tmp t => getE S t
  | .const v => .val v
  | .global g => .val (.pointer (some ⟨g, 0, none⟩))
  | .func f => .val (.func (.func f) #[] #[])
def mv (o : Oper) : Option Operand :=
  match o.guard with
  | some _ => none
  | none => match o.op with
    | .move x => some x
    | .assign x => some x
    | _ => none
def Q03 : List Ent → Nat → Ent → List Ent
  | [], _, _ => []
  | _ :: l, 0, e => e :: l
  | x :: l, n + 1, e => x :: Q03 l n e
def putE (S : List Ent) (d : Option Nat) (e : Ent) : List Ent :=
  match d with
  | some d => Q03 S d e
  | none => S
def P9 (o : Oper) : List Nat := o.op.operands.toList.filterMap fun | .tmp t => some t | _ => none
def I6 (ops : List Oper) (o : Oper) : List Nat :=
  match o.guard with
  | none => []
  | some (j, _) => match (ops[j]?).bind (·.dst) with | some d => [d] | none => []
def Pw : List Nat → List Nat
  | [] => []
  | x :: l => x :: (Pw l).filter (fun y => !(y == x))
def Q2e : Ent → List Nat
  | .ref j => [j]
  | .val _ => []
def Te (S : List Ent) : List Nat → List Nat
  | [] => []
  | s :: l => Q2e (getE S s) ++ Te S l
def refs (ops : List Oper) (S : List Ent) (o : Oper) : List Nat := Pw (Te S (I6 ops o ++ P9 o))
def Cv : List Nat → (Nat → Value) → ((Nat → Value) → Prop) → Prop
  | [], u, k => k u
  | j :: js, u, k => ∀ t : Value, Cv js (fun n => if n = j then t else u n) k
abbrev Dl := List (Nat × List Nat × (List Value → Value → World → Prop))
def Zm : Dl → Nat → Option (List Nat × (List Value → Value → World → Prop))
  | [], _ => none
  | (i, φ) :: l, j => if i = j then some φ else Zm l j
def Bf (φs : Dl) (u : Nat → Value) (w : World) (body : Prop) : List Nat → Prop
  | [] => body
  | j :: js => match Zm φs j with
    | some ([], φ) => φ [] (u j) w → Bf φs u w body js
    | _ => Bf φs u w body js
def Tc (φs : Dl) (u : Nat → Value) (w : World) (body : Prop) : List Nat → Prop
  | [] => body
  | j :: js => match Zm φs j with
    | some (R, φ) => φ (R.map u) (u j) w → Tc φs u w body js
    | none => Tc φs u w body js
def Q7h (o : Oper) : Bool := match o.op with | .store .. => true | _ => false
noncomputable def chain (P : Program) (ops : List Oper) (T : World → World → Prop) (B : World → Prop) (N6 : List Value → World → Prop) (tail : List Oper) : Nat → List Oper → List Ent → Dl → List Nat → Prop
  | _, [], S, φs, done => Cv done (fun _ => undef) fun u => ∀ w, B w → Tc φs u w (T0 P ops N6 tail (G4 u S) w) done
  | i, o :: rest, S, φs, done =>
    match mv o with
    | some x => chain P ops T B N6 tail (i + 1) rest (putE S o.dst (entOf S x)) φs done
    | none => match Q7h o with
      | true => Q2G T (fun φ => Cv (refs ops S o) (fun _ => undef) fun u => ∀ w, B w → Bf φs u w (runOp P ops (G4 u S) o w (dk T (φ ((refs ops S o).map u)) w)) (refs ops S o))
        (fun φ => chain P ops T B N6 tail (i + 1) rest (putE S o.dst (.ref i)) (φs ++ [(i, refs ops S o, φ)]) (done ++ [i]))
      | false => Q7 T (fun φ => Cv (refs ops S o) (fun _ => undef) fun u => ∀ w, B w → Bf φs u w (runOp P ops (G4 u S) o w (dk T φ w)) (refs ops S o))
        (fun φ => chain P ops T B N6 tail (i + 1) rest (putE S o.dst (.ref i)) (φs ++ [(i, [], fun _ => φ)]) (done ++ [i]))
def Jz : Op → Bool
  | .ready _ | .waits _ | .sliceToArrayPointer .. | .makeChan .. | .typeAssert .. | .go _ | .defer _ | .send .. | .recv .. | .select .. => false
  | .call c => match c.callee with | .invoke .. => false | _ => true
  | _ => true
theorem El {l l' : List Value} {x : Option Operand} (h : ∀ y ∈ x.toArray, ev l y = ev l' y) : evo l x = evo l' x := by
  cases x with
  | none => rfl
  | some y => simp only [evo]; rw [h y (by simp)]
theorem Pi {l l' : List Value} {xs : Array Operand} (h : ∀ y ∈ xs, ev l y = ev l' y) : Kq l xs = Kq l' xs := by
  unfold Kq; exact List.map_congr_left fun y hy => h y (by simpa using hy)
theorem Q1i {l l' : List Value} {xs : Array (Nat × Operand)} (h : ∀ y ∈ (xs.toList.map (·.2)).toArray, ev l y = ev l' y) : evp l xs = evp l' xs := by
  unfold evp
  refine List.map_congr_left fun y hy => ?_
  rw [h y.2 (by simp; exact ⟨y.1, by simpa using hy⟩)]
theorem Tn {P : Program} {l l' : List Value} {o : Oper} (hs : Jz o.op = true) (h : ∀ x ∈ o.op.operands, ev l x = ev l' x) : N3 P l o = N3 P l' o := by
  obtain ⟨d, p, ty, pos, af, g⟩ := o
  funext w K
  cases p with
  | call c =>
    obtain ⟨cal, args, ts⟩ := c
    have ha : Kq l args = Kq l' args := Pi fun y hy => h y (by simp [Op.operands, Call.operands]; exact .inr hy)
    cases cal with
    | invoke r m => simp [Jz] at hs
    | builtin b => simp only [N3, Ll, ha]
    | value f =>
      have hf : ev l f = ev l' f := h f (by simp [Op.operands, Call.operands])
      cases f <;> simp only [N3, Ll, ha, hf]
  | build t ps => simp only [N3]; rw [Q1i h]
  | buildSlice t n ps => simp only [N3]; rw [Q1i h]
  | makeFunc f a b =>
    simp only [N3]
    rw [Pi (xs := a) fun y hy => h y (by simp [Op.operands]; exact .inl hy), Pi (xs := b) fun y hy => h y (by simp [Op.operands]; exact .inr hy)]
  | makeMap t r => simp only [N3]; rw [El h]
  | slice t x lo hi mx =>
    simp only [N3]
    rw [h x (by simp [Op.operands]), El (x := lo) fun y hy => h y (by simp [Op.operands] at hy ⊢; simp [hy]), El (x := hi) fun y hy => h y (by simp [Op.operands] at hy ⊢; simp [hy]), El (x := mx) fun y hy => h y (by simp [Op.operands] at hy ⊢; simp [hy])]
  | _ => first
    | (simp [Jz] at hs; done)
    | (simp only [Op.operands, List.mem_toArray, List.mem_cons, List.not_mem_nil, or_false, forall_eq_or_imp, forall_eq] at h; simp only [N3, h]; done)
    | rfl
def Ki : List Oper → List Nat → List Nat
  | [], acc => acc
  | o :: rest, acc => Ki rest (acc ++ [(o.after.toList.filter (Region.binds .any)).foldl (fun s e => s ||| 2 ^ e.on ||| acc.getD e.on 0) 0])
def Ng (a b : Oper) : Bool :=
  match a.dst with
  | some d => (P9 b).contains d || b.dst == some d
  | none => false
def Q4j (cl : List Nat) (ops : List Oper) : Bool :=
  ops.zipIdx.all fun (o, j) => ops.zipIdx.all fun (q, i) => !(decide (i < j)) || !(Ng q o || Ng o q) || (cl.getD j 0).testBit i
def Uh (ops : List Oper) : Bool :=
  ops.zipIdx.all fun (o, i) => Jz o.op && (o.after.toList.filter (Region.binds .any)).all (fun e => decide (e.on < i)) &&
    match o.guard with | none => true | some (j, _) => (o.after.toList.filter (Region.binds .any)).any (fun e => e.on == j)
def Q2f (m : Region.Mode) (ops : List Oper) : List Nat → List Nat → Bool
  | [], _ => true
  | j :: L, seen => ((ops[j]?.map fun o => o.after.toList).getD []).all (fun e => !Region.binds m e || seen.contains e.on) && Q2f m ops L (j :: seen)
def Qx (m : Region.Mode) (ops : List Oper) (L : List Nat) : Bool :=
  Q2f m ops L [] && (List.range ops.length).all (L.contains ·) && ops.all (fun o => o.after.toList.all fun e => !Region.binds m e || decide (e.on < ops.length))
def Q96 (m : Region.Mode) (ops : List Oper) : Nat → List Nat → List Nat → List Nat
  | 0, _, seen => seen.reverse
  | n + 1, todo, seen =>
    match todo.find? (fun j => ((ops[j]?.map fun o => o.after.toList).getD []).all (fun e => !Region.binds m e || seen.contains e.on)) with
    | some j => Q96 m ops n (todo.erase j) (j :: seen)
    | none => seen.reverse
def Yg : List Nat → Bool
  | [] => true
  | x :: l => !l.contains x && Yg l
def F3 (ops : List Oper) (j : Nat) : List Nat := (ops[j]?.map fun o => (o.after.toList.filter (Region.binds .any)).map (·.on)).getD []
def Db (ops : List Oper) (L : List Nat) : Prop := ∀ pre j post, L = pre ++ j :: post → ∀ i ∈ F3 ops j, i ∈ pre
theorem Q2j (f : Edge → Nat) (l : List Edge) : ∀ (s i : Nat), (l.foldl (fun s e => s ||| 2 ^ e.on ||| f e) s).testBit i = true →
    s.testBit i = true ∨ ∃ e ∈ l, e.on = i ∨ (f e).testBit i = true := by
  induction l with
  | nil => intro s i h; exact .inl h
  | cons e l ih =>
    intro s i h
    rcases ih _ _ h with h | ⟨e', he, h⟩
    · simp only [Nat.testBit_or, Bool.or_eq_true] at h
      rcases h with (h | h) | h
      · exact .inl h
      · rw [Nat.testBit_two_pow] at h
        exact .inr ⟨e, by simp, .inl (by simpa using h)⟩
      · exact .inr ⟨e, by simp, .inr h⟩
    · exact .inr ⟨e', by simp [he], h⟩
theorem Q1n (all : List Oper) : ∀ (rest : List Oper) (acc : List Nat), acc.length + rest.length = all.length → (∀ k, acc.length ≤ k → all[k]? = rest[k - acc.length]?) →
    (∀ j i, j < acc.length → (acc.getD j 0).testBit i = true → ∃ k ∈ F3 all j, k = i ∨ (k < j ∧ (acc.getD k 0).testBit i = true)) →
    (∀ j, j < all.length → ∀ k ∈ F3 all j, k < j) →
    ∀ j i, j < all.length → ((Ki rest acc).getD j 0).testBit i = true → ∃ k ∈ F3 all j, k = i ∨ (k < j ∧ ((Ki rest acc).getD k 0).testBit i = true)
  | [], acc, hl, _, hacc, _ => by
    intro j i hj h
    exact hacc j i (by simp at hl; omega) h
  | o :: rest, acc, hl, hget, hacc, hlt => by
    have ho : all[acc.length]? = some o := by rw [hget _ (Nat.le_refl _)]; simp
    refine Q1n all rest _ (by simp at hl ⊢; omega) ?_ ?_ hlt
    · intro k hk
      simp only [List.length_append, List.length_cons, List.length_nil] at hk ⊢
      rw [hget k (by omega)]
      obtain ⟨m, hm⟩ : ∃ m, k - acc.length = m + 1 := ⟨k - acc.length - 1, by omega⟩
      rw [hm, List.getElem?_cons_succ]
      congr 1; omega
    · intro j i hj h
      simp only [List.length_append, List.length_cons, List.length_nil] at hj
      have hold : ∀ k, k < acc.length → (acc ++ [(o.after.toList.filter (Region.binds .any)).foldl (fun s e => s ||| 2 ^ e.on ||| acc.getD e.on 0) 0]).getD k 0 = acc.getD k 0 := by
        intro k hk
        simp only [List.getD_eq_getElem?_getD]
        rw [List.getElem?_append_left hk]
      by_cases hj2 : j < acc.length
      · rw [hold j hj2] at h
        obtain ⟨k, hk, h⟩ := hacc j i hj2 h
        exact ⟨k, hk, h.imp id fun ⟨h1, h2⟩ => ⟨h1, by rw [hold k (by omega)]; exact h2⟩⟩
      · have hj3 : j = acc.length := by omega
        subst hj3
        simp only [List.getD_eq_getElem?_getD, List.getElem?_append_right (Nat.le_refl _), Nat.sub_self, List.getElem?_cons_zero, Option.getD_some] at h
        rcases Q2j (fun e => acc.getD e.on 0) _ _ _ (by simpa only [List.getD_eq_getElem?_getD] using h) with h | ⟨e, he, h⟩
        · simp at h
        · have hmem : e.on ∈ F3 all acc.length := by
            unfold F3; rw [ho]; simp only [Option.map_some, Option.getD_some, List.mem_map]; exact ⟨e, he, rfl⟩
          refine ⟨e.on, hmem, h.imp id fun h => ?_⟩
          have hk := hlt acc.length (by simp at hl; omega) _ hmem
          exact ⟨hk, by rw [hold _ hk]; exact h⟩
theorem Bx {ops : List Oper} (h : Uh ops = true) : ∀ j, j < ops.length → ∀ k ∈ F3 ops j, k < j := by
  intro j hj k hk
  simp only [Uh, List.all_eq_true, Bool.and_eq_true] at h
  unfold F3 at hk
  rw [List.getElem?_eq_getElem hj] at hk
  simp only [Option.map_some, Option.getD_some, List.mem_map] at hk
  obtain ⟨e, he, rfl⟩ := hk
  have := (h (ops[j], j) (by rw [List.mem_zipIdx_iff_getElem?]; simp [hj])).1.2 e he
  simpa using this
theorem Q2Z {ops : List Oper} (he : Uh ops = true) {L : List Nat} (hr : Db ops L) : ∀ (j : Nat), j < ops.length → ∀ i pre post, L = pre ++ j :: post → ((Ki ops []).getD j 0).testBit i = true → i ∈ pre := by
  intro j
  induction j using Nat.strongRecOn with
  | _ j ih =>
    intro hj i pre post hL hb
    obtain ⟨k, hk, h⟩ := Q1n ops ops [] (by simp) (by simp) (by intro j i hj; simp at hj) (Bx he) j i hj hb
    have hkp := hr pre j post hL k hk
    rcases h with rfl | ⟨hlt, h⟩
    · exact hkp
    · obtain ⟨p1, p2, rfl⟩ := List.append_of_mem hkp
      have := ih k hlt (by omega) i p1 (p2 ++ j :: post) (by rw [hL]; simp) h
      exact List.mem_append_left _ this
theorem Js : ∀ (n : Nat) (acc : List Nat), (∀ k, k < n → k ∈ acc) → n ≤ acc.length
  | 0, _, _ => Nat.zero_le _
  | n + 1, acc, h => by
    have h1 := Js n (acc.erase n) fun k hk => (List.mem_erase_of_ne (by omega)).2 (h k (by omega))
    have h2 := List.length_erase_of_mem (h n (by omega))
    have h3 := List.length_pos_of_mem (h n (by omega))
    omega
theorem C4 : ∀ (n : Nat) (l : List Nat), l.Nodup → (∀ k ∈ l, k < n) → l.length ≤ n
  | 0, l, _, h => by
    cases l with
    | nil => simp
    | cons x l => exact absurd (h x (by simp)) (by omega)
  | n + 1, l, hn, h => by
    by_cases hm : n ∈ l
    · have h1 := C4 n (l.erase n) (hn.erase n) fun k hk => by
        have h2 := h k (List.mem_of_mem_erase hk)
        have h3 : k ≠ n := fun e => by subst e; exact (List.Nodup.not_mem_erase hn) hk
        omega
      have h2 := List.length_erase_of_mem hm
      have h3 := List.length_pos_of_mem hm
      omega
    · have := C4 n l hn fun k hk => by
        have h2 := h k hk
        have h3 : k ≠ n := fun e => by subst e; exact hm hk
        omega
      omega
theorem Q5K {m : Region.Mode} {e : Edge} (h : Region.binds .any e = true) : Region.binds m e = true := by
  unfold Region.binds at h ⊢
  cases hg : e.ground <;> rw [hg] at h <;> first | rfl | (exact absurd h (by simp <;> rfl)) | (simp at h; cases h)
theorem Q5i {m : Region.Mode} {ops : List Oper} {L : List Nat} (h : Qx m ops L = true) (k : Nat) (hk : k < ops.length) : ∀ e ∈ (ops[k]?.map fun o => o.after.toList).getD [], Region.binds m e = true → e.on < ops.length := by
  intro e he hb
  simp only [Qx, Bool.and_eq_true, List.all_eq_true] at h
  rw [List.getElem?_eq_getElem hk] at he
  have := h.2 ops[k] (List.getElem_mem hk) e (by simpa using he)
  rw [hb] at this
  simpa using this
theorem Q36 {m : Region.Mode} {ops : List Oper} {L : List Nat} (h : Qx m ops L = true) : ∀ k, k < ops.length → k ∈ L := by
  intro k hk
  simp only [Qx, Bool.and_eq_true, List.all_eq_true] at h
  simpa using h.1.2 k (by simpa using hk)
theorem Q4y (m : Region.Mode) (ops : Array Oper) (he : Uh ops.toList = true) (L0 : List Nat) (h0 : Qx m ops.toList L0 = true) : ∀ (fuel t : Nat) (listed : Array Bool) (acc : List Nat),
    fuel + acc.length = ops.size → listed.size = ops.size → (∀ i, i < ops.size → (listed.getD i true = true ↔ i ∈ acc)) → acc.Nodup → (∀ i ∈ acc, i < ops.size) → Db ops.toList acc.reverse →
    (Region.linearise.go m ops fuel t listed acc).Nodup ∧ (Region.linearise.go m ops fuel t listed acc).length = ops.size ∧ Db ops.toList (Region.linearise.go m ops fuel t listed acc)
  | 0, t, listed, acc, hf, _, _, hn, _, hr => by
    simp only [Region.linearise.go]
    exact ⟨List.pairwise_reverse.2 (hn.imp fun h => Ne.symm h), by simp; omega, hr⟩
  | fuel + 1, t, listed, acc, hf, hsz, hl, hn, hlt, hr => by
    -- one that isn't listed may come
    have hex : ∃ k, k < ops.size ∧ k ∉ acc := by
      refine Classical.byContradiction fun hno => ?_
      have hall : ∀ k, k < ops.size → k ∈ acc := fun k hk => Classical.byContradiction fun h => hno ⟨k, hk, h⟩
      have := Js ops.size acc hall
      omega
    simp only [Region.linearise.go]
    split
    · rename_i i hi
      have hmem := List.mem_of_getElem? hi
      simp only [List.mem_filter, List.mem_range, Bool.and_eq_true, Bool.not_eq_true'] at hmem
      obtain ⟨hi1, hi2, hi3⟩ := hmem
      have hnot : i ∉ acc := fun h => by rw [(hl i hi1).2 h] at hi2; cases hi2
      refine Q4y m ops he L0 h0 fuel _ _ _ (by simp; omega) (by simp [hsz]) ?_ (List.nodup_cons.2 ⟨hnot, hn⟩) ?_ ?_
      · intro j hj
        by_cases hij : i = j
        · subst hij; simp [Array.getD, hsz, hi1]
        · have : (listed.setIfInBounds i true).getD j true = listed.getD j true := by
            simp only [Array.getD_eq_getD_getElem?]
            rw [Array.getElem?_setIfInBounds_ne hij]
          rw [this, hl j hj]
          simp [Ne.symm hij]
      · intro j hj
        rcases List.mem_cons.1 hj with rfl | hj
        · exact hi1
        · exact hlt j hj
      · rw [List.reverse_cons]
        intro pre j post hL k hk
        rcases List.eq_nil_or_concat post with rfl | ⟨post', x, rfl⟩
        · have hh := List.append_inj' hL rfl
          obtain ⟨h1, h2⟩ := hh
          simp only [List.cons.injEq, and_true] at h2
          subst h2; subst h1
          have hk' := hk
          unfold F3 at hk
          rw [show ops.toList[i]? = some ops[i] by simp [hi1]] at hk
          simp only [Option.map_some, Option.getD_some, List.mem_map, List.mem_filter] at hk
          obtain ⟨e, ⟨hem, heb⟩, rfl⟩ := hk
          rw [show ops[i]? = some ops[i] by simp [hi1]] at hi3
          simp only [Option.map_some, Option.getD_some, Array.all_eq_true'] at hi3
          have h4 := hi3 e (by simpa using hem)
          simp only [Bool.or_eq_true, Bool.not_eq_true'] at h4
          rcases h4 with h4 | h4
          · rw [Q5K heb] at h4; cases h4
          · have hon := Bx he i (by simpa using hi1) e.on hk'
            have : listed.getD e.on true = true := by
              simp only [Array.getD_eq_getD_getElem?] at h4 ⊢
              rw [Array.getElem?_eq_getElem (by omega)] at h4 ⊢
              simpa using h4
            simpa using (hl e.on (by omega)).1 this
        · rw [List.concat_eq_append, ← List.cons_append, ← List.append_assoc] at hL
          have hh := List.append_inj' hL rfl
          exact hr pre j post' hh.1 k hk
    · rename_i hnone
      exfalso
      obtain ⟨k0, hk0, hk0'⟩ := hex
      have h0' := h0
      simp only [Qx, Bool.and_eq_true] at h0'
      -- every number of L0 that is none of an operation's has no edges: it may stand there, but isn't looked at
      have hfirst : ∃ k, k < ops.size ∧ k ∉ acc ∧ ∀ e ∈ (ops.toList[k]?.map fun o => o.after.toList).getD [], Region.binds m e = true → e.on ∈ acc ∨ ops.size ≤ e.on := by
        -- the first of L0 that is an operation's number and isn't listed
        have key : ∀ (L seen : List Nat), Q2f m ops.toList L seen = true → (∀ k ∈ seen, k ∈ acc ∨ ops.size ≤ k) → (∃ k ∈ L, k < ops.size ∧ k ∉ acc) →
            ∃ k, k < ops.size ∧ k ∉ acc ∧ ∀ e ∈ (ops.toList[k]?.map fun o => o.after.toList).getD [], Region.binds m e = true → e.on ∈ acc ∨ ops.size ≤ e.on := by
          intro L
          induction L with
          | nil => rintro seen _ _ ⟨k, hk, _⟩; simp at hk
          | cons j L ih =>
            rintro seen h hs ⟨k, hk, hkl, hka⟩
            simp only [Q2f, Bool.and_eq_true, List.all_eq_true] at h
            by_cases hj : j ∈ acc ∨ ops.size ≤ j
            · refine ih (j :: seen) h.2 (fun x hx => by rcases List.mem_cons.1 hx with rfl | hx; exact hj; exact hs x hx) ⟨k, ?_, hkl, hka⟩
              rcases List.mem_cons.1 hk with rfl | hk
              · rcases hj with hj | hj
                · exact absurd hj hka
                · omega
              · exact hk
            · have hj1 : j < ops.size := by
                refine Nat.lt_of_not_le fun h => hj (.inr h)
              refine ⟨j, hj1, fun h => hj (.inl h), fun e he hb => ?_⟩
              have := h.1 e he
              rw [hb] at this
              exact hs _ (by simpa using this)
        exact key L0 [] h0'.1.1 (by simp) ⟨k0, Q36 h0 k0 (by simpa using hk0), hk0, hk0'⟩
      obtain ⟨k, hk1, hk2, hk3⟩ := hfirst
      by_cases hin : k ∈ (List.range ops.size).filter fun i => !listed.getD i true && ((ops[i]?).map (·.after.all fun e => !Region.binds m e || listed.getD e.on false)).getD false
      · have hpos := List.length_pos_of_mem hin
        have := List.getElem?_eq_none_iff.1 hnone
        have := Nat.mod_lt t hpos
        omega
      · refine hin ?_
        simp only [List.mem_filter, List.mem_range, Bool.and_eq_true, Bool.not_eq_true']
        refine ⟨hk1, ?_, ?_⟩
        · cases hc : listed.getD k true with
          | false => rfl
          | true => exact absurd ((hl k hk1).1 hc) hk2
        · rw [show ops[k]? = some ops[k] by simp [hk1]]
          simp only [Option.map_some, Option.getD_some, Array.all_eq_true']
          intro e hem
          simp only [Bool.or_eq_true, Bool.not_eq_true']
          cases hb : Region.binds m e with
          | false => exact .inl rfl
          | true =>
            right
            rw [show ops.toList[k]? = some ops[k] by simp [hk1]] at hk3
            rcases hk3 e (by simpa using hem) hb with h | h
            · have hlt' := hlt _ h
              have := (hl e.on hlt').2 h
              simp only [Array.getD_eq_getD_getElem?] at this ⊢
              rw [Array.getElem?_eq_getElem (by omega)] at this ⊢
              simpa using this
            · exact absurd h (by
                have := Q5i h0 k (by simpa using hk1) e (by rw [show ops.toList[k]? = some ops[k] by simp [hk1]]; simpa using hem) hb
                simp at this; omega)
theorem Q1S (b : Bool) (ops : Array Oper) (t : Nat) (he : Uh ops.toList = true) (ho : ∀ m, ∃ L, Qx m ops.toList L = true) :
    (Region.schedule b ops t).Nodup ∧ (Region.schedule b ops t).length = ops.size ∧ Db ops.toList (Region.schedule b ops t) := by
  have key : ∀ m t, (Region.linearise m ops t).Nodup ∧ (Region.linearise m ops t).length = ops.size ∧ Db ops.toList (Region.linearise m ops t) := by
    intro m t
    obtain ⟨L, hL⟩ := ho m
    refine Q4y m ops he L hL _ _ _ _ (by simp) (by simp) ?_ List.nodup_nil (by simp) ?_
    · intro i hi; simp [Array.getD, hi]
    · intro pre j post h; simp at h
  unfold Region.schedule
  split <;> exact key _ _
theorem Zc : ∀ (ops : List Oper), Yg (D5 ops) = true → ∀ (i j : Nat) (a b : Oper) (d : Nat), ops[i]? = some a → ops[j]? = some b → a.dst = some d → b.dst = some d → i = j
  | [], _, i, j, a, b, d, h, _, _, _ => by simp at h
  | o :: rest, hn, i, j, a, b, d, hi, hj, ha, hb => by
    have hmem : ∀ (k : Nat) (q : Oper), rest[k]? = some q → q.dst = some d → d ∈ D5 rest := by
      intro k q hk hq
      simp only [D5, List.mem_filterMap]
      exact ⟨q, List.mem_of_getElem? hk, hq⟩
    have hrest : Yg (D5 rest) = true := by
      simp only [D5, List.filterMap_cons] at hn
      split at hn
      · exact hn
      · simp only [Yg, Bool.and_eq_true] at hn; exact hn.2
    have hhead : o.dst = some d → d ∉ D5 rest := by
      intro ho
      simp only [D5, List.filterMap_cons, ho, Yg, Bool.and_eq_true, Bool.not_eq_true'] at hn
      intro hm
      have := hn.1
      simp only [List.contains_eq_mem, decide_eq_false_iff_not] at this
      exact this hm
    cases i with
    | zero =>
      simp only [List.getElem?_cons_zero, Option.some.injEq] at hi
      subst hi
      cases j with
      | zero => rfl
      | succ j => exact absurd (hmem j b (by simpa using hj) hb) (hhead ha)
    | succ i =>
      cases j with
      | zero =>
        simp only [List.getElem?_cons_zero, Option.some.injEq] at hj
        subst hj
        exact absurd (hmem i a (by simpa using hi) ha) (hhead hb)
      | succ j => rw [Zc rest hrest i j a b d (by simpa using hi) (by simpa using hj) ha hb]
theorem Cf (u : Nat → Value) : ∀ (S : List Ent) (s : Nat), get (G4 u S) s = (getE S s).at u
  | [], s => by simp [G4, get, getE, Ent.at]
  | e :: S, 0 => rfl
  | e :: S, s + 1 => Cf u S s
theorem Rk : ∀ (S : List Ent) (s : Nat), getE S s = (S[s]?).getD (.val undef)
  | [], s => by simp [getE]
  | e :: S, 0 => rfl
  | e :: S, s + 1 => by simp only [getE, List.getElem?_cons_succ]; exact Rk S s
theorem Pq : ∀ (S : List Ent) (n : Nat) (e : Ent), Q03 S n e = S.set n e
  | [], n, e => by simp [Q03]
  | x :: S, 0, e => rfl
  | x :: S, n + 1, e => by simp only [Q03, List.set_cons_succ, Pq S n e]
theorem Q1l {x : Nat} : ∀ {l : List Nat}, x ∈ l → x ∈ Pw l
  | y :: l, h => by
    simp only [Pw, List.mem_cons, List.mem_filter]
    by_cases e : x = y
    · exact .inl e
    · exact .inr ⟨Q1l ((List.mem_cons.1 h).resolve_left e), by simpa using e⟩
theorem Ex {x : Nat} : ∀ {l : List Nat}, x ∈ Pw l → x ∈ l
  | y :: l, h => by
    simp only [Pw, List.mem_cons, List.mem_filter] at h ⊢
    exact h.imp id fun h => Ex h.1
theorem Q1g {S : List Ent} {j : Nat} : ∀ {l : List Nat} {s : Nat}, s ∈ l → getE S s = .ref j → j ∈ Te S l
  | x :: l, s, h, e => by
    simp only [Te, List.mem_append]
    rcases List.mem_cons.1 h with rfl | h
    · left; rw [e]; simp [Q2e]
    · right; exact Q1g h e
theorem Ej {S : List Ent} {j : Nat} : ∀ {l : List Nat}, j ∈ Te S l → ∃ s ∈ l, getE S s = .ref j
  | x :: l, h => by
    simp only [Te, List.mem_append] at h
    rcases h with h | h
    · refine ⟨x, by simp, ?_⟩
      cases hx : getE S x with
      | val v => rw [hx] at h; simp [Q2e] at h
      | ref k => rw [hx] at h; simp [Q2e] at h; rw [h]
    · obtain ⟨s, hs, e⟩ := Ej h
      exact ⟨s, by simp [hs], e⟩
theorem Aw : ∀ (js : List Nat) (u0 u : Nat → Value) (k : (Nat → Value) → Prop), Cv js u0 k → ∃ u', k u' ∧ ∀ x, (x ∈ js → u' x = u x) ∧ (x ∉ js → u' x = u0 x)
  | [], u0, u, k, h => ⟨u0, h, fun x => ⟨fun h => by simp at h, fun _ => rfl⟩⟩
  | j :: js, u0, u, k, h => by
    obtain ⟨u', h1, h2⟩ := Aw js _ u k (h (u j))
    refine ⟨u', h1, fun x => ⟨fun hx => ?_, fun hx => ?_⟩⟩
    · by_cases hj : x ∈ js
      · exact (h2 x).1 hj
      · rw [(h2 x).2 hj]
        rcases List.mem_cons.1 hx with rfl | hx
        · simp
        · exact absurd hx hj
    · rw [(h2 x).2 (fun h => hx (List.mem_cons_of_mem _ h))]
      have : x ≠ j := fun e => hx (by simp [e])
      simp [this]
theorem As {φs : Dl} {u : Nat → Value} {w : World} {body : Prop} : ∀ {js : List Nat}, Bf φs u w body js → (∀ j ∈ js, ∀ φ, Zm φs j = some ([], φ) → φ [] (u j) w) → body
  | [], h, _ => h
  | j :: js, h, hp => by
    simp only [Bf] at h
    split at h
    · rename_i φ hφ
      exact As (h (hp j (by simp) φ hφ)) fun k hk => hp k (by simp [hk])
    · exact As h fun k hk => hp k (by simp [hk])
theorem Kw {φs : Dl} {u : Nat → Value} {w : World} {body : Prop} : ∀ {js : List Nat}, Tc φs u w body js → (∀ j ∈ js, ∀ R φ, Zm φs j = some (R, φ) → φ (R.map u) (u j) w) → body
  | [], h, _ => h
  | j :: js, h, hp => by
    simp only [Tc] at h
    split at h
    · rename_i R φ hφ
      exact Kw (h (hp j (by simp) R φ hφ)) fun k hk => hp k (by simp [hk])
    · exact Kw h fun k hk => hp k (by simp [hk])
theorem Sj {φs : Dl} {i j : Nat} {φ : List Nat × (List Value → Value → World → Prop)} (h : i ≠ j) : Zm (φs ++ [(i, φ)]) j = Zm φs j := by
  induction φs with
  | nil => simp [Zm, h]
  | cons p φs ih => obtain ⟨k, ψ⟩ := p; simp only [List.cons_append, Zm, ih]
theorem Vd {φs : Dl} {i : Nat} {φ : List Nat × (List Value → Value → World → Prop)} (h : Zm φs i = none) : Zm (φs ++ [(i, φ)]) i = some φ := by
  induction φs with
  | nil => simp [Zm]
  | cons p φs ih =>
    obtain ⟨k, ψ⟩ := p
    simp only [Zm] at h
    split at h
    · cases h
    · rename_i hk; simp only [List.cons_append, Zm, hk, if_false]; exact ih h
def Dp (S : List Ent) (i : Nat) (o : Oper) : Ent := match mv o with | some x => entOf S x | none => .ref i
def M4 (S : List Ent) : Nat → List Oper → List Ent
  | _, [] => S
  | i, o :: rest => M4 (putE S o.dst (Dp S i o)) (i + 1) rest
theorem Q1R : ∀ (rest : List Oper) (S : List Ent) (i k : Nat) (o : Oper), rest[k]? = some o →
    M4 S i (rest.take (k + 1)) = putE (M4 S i (rest.take k)) o.dst (Dp (M4 S i (rest.take k)) (i + k) o)
  | [], _, _, _, _, h => by simp at h
  | x :: rest, S, i, 0, o, h => by
    simp only [List.getElem?_cons_zero, Option.some.injEq] at h
    subst h
    simp [M4]
  | x :: rest, S, i, k + 1, o, h => by
    simp only [List.getElem?_cons_succ] at h
    have := Q1R rest (putE S x.dst (Dp S i x)) (i + 1) k o h
    simp only [List.take_succ_cons, M4]
    rw [this, show i + 1 + k = i + (k + 1) from by omega]
def Qs (S : List Ent) (D : List Nat) : Prop := ∀ e ∈ S, ∀ j, e = .ref j → j ∈ D
theorem Qs.getE {S : List Ent} {D : List Nat} (h : Qs S D) {s j : Nat} (e : Go.Emb.getE S s = .ref j) : j ∈ D := by
  rw [Rk] at e
  cases hs : S[s]? with
  | none => rw [hs] at e; cases e
  | some x => rw [hs] at e; exact h x (List.mem_of_getElem? hs) j e
theorem Qs.putE {S : List Ent} {D : List Nat} (h : Qs S D) (d : Option Nat) {e : Ent} (he : ∀ j, e = .ref j → j ∈ D) : Qs (Go.Emb.putE S d e) D := by
  cases d with
  | none => exact h
  | some d =>
    intro x hx j hj
    simp only [Go.Emb.putE, Pq] at hx
    rcases List.mem_or_eq_of_mem_set hx with hx | rfl
    · exact h x hx j hj
    · exact he j hj
theorem Qs.mono {S : List Ent} {D D' : List Nat} (h : Qs S D) (hd : ∀ j ∈ D, j ∈ D') : Qs S D' := fun e he j hj => hd j (h e he j hj)
theorem Qs.entOf {S : List Ent} {D : List Nat} (h : Qs S D) (x : Operand) {j : Nat} (e : Go.Emb.entOf S x = .ref j) : j ∈ D := by
  cases x with
  | tmp t => exact h.getE e
  | _ => cases e
theorem Q4H {S : List Ent} {D : List Nat} (h : Qs S D) {u u' : Nat → Value} (hu : ∀ j ∈ D, u' j = u j) : G4 u' S = G4 u S := by
  unfold G4
  refine List.map_congr_left fun e he => ?_
  cases e with
  | val v => rfl
  | ref j => exact hu j (h _ he j rfl)
theorem Tt {P : Program} {ops : List Oper} {l l' : List Value} {o : Oper} (hs : Jz o.op = true) (h : ∀ s ∈ I6 ops o ++ P9 o, get l s = get l' s) : runOp P ops l o = runOp P ops l' o := by
  funext w K
  unfold runOp
  rw [Tn hs fun x hx => by
    cases x with
    | tmp s => exact h s (List.mem_append_right _ (by simp only [P9, List.mem_filterMap]; exact ⟨.tmp s, by simpa using hx, rfl⟩))
    | _ => rfl]
  cases hgd : o.guard with
  | none => rfl
  | some q =>
    obtain ⟨j, b⟩ := q
    simp only
    cases hd : (ops[j]?).bind (·.dst) with
    | none => rfl
    | some d => simp only; rw [h d (List.mem_append_left _ (by simp [I6, hgd, hd]))]
theorem Q0G {P : Program} {ops : List Oper} {l : List Value} {o : Oper} {w : World} {K K' : Value → World → Prop} (hk : ∀ v w, K v w → K' v w) (h : runOp P ops l o w K) : runOp P ops l o w K' := by
  unfold runOp at *
  split at h
  · exact Yy hk h
  · split at h
    · exact Q2W ((Ed h).imp (fun ⟨h1, h2⟩ => ⟨h1, Yy hk h2⟩) (fun ⟨h1, h2⟩ => ⟨h1, hk _ _ h2⟩))
    · exact h.elim
theorem Q0t {P : Program} {ops : List Oper} {N6 : List Value → World → Prop} {o : Oper} {rest : List Oper} {l : List Value} {w : World}
    (h : runOp P ops l o w (fun v w => W6 P ops N6 rest (put l o.dst v) w)) : W6 P ops N6 (o :: rest) l w := by
  simp only [W6]
  unfold runOp at h
  cases hg : o.guard with
  | none => simp only [hg] at h ⊢; exact h
  | some q =>
    obtain ⟨j, b⟩ := q
    simp only [hg] at h ⊢
    split at h
    · rename_i d hd
      first | exact h | (simp only [hd]; exact h) | (rw [hd]; exact h)
    · exact h.elim
structure Whole (P : Program) (ops : List Oper) (T : World → World → Prop) (B : World → Prop) (N6 : List Value → World → Prop) (tail : List Oper) (Φ : Nat → (Nat → Value) → World → Prop) (S : List Ent) (i : Nat) (rest : List Oper) (D : List Nat) : Prop where
  stable : ∀ k o, rest[k]? = some o → mv o = none → ∀ u w w', Φ (i + k) u w → T w w' → Φ (i + k) u w'
  loc : ∀ k o, rest[k]? = some o → mv o = none → ∀ u u', (∀ r ∈ (i + k) :: refs ops (M4 S i (rest.take k)) o, u r = u' r) → Φ (i + k) u = Φ (i + k) u'
  run : ∀ k o, rest[k]? = some o → mv o = none → Jz o.op = true → ∀ u w, B w → (∀ j ∈ refs ops (M4 S i (rest.take k)) o, Φ j u w) →
    runOp P ops (G4 u (M4 S i (rest.take k))) o w (fun v w' => T w w' ∧ ∀ u', (∀ r ∈ refs ops (M4 S i (rest.take k)) o, u' r = u r) → u' (i + k) = v → Φ (i + k) u' w')
  last : ∀ u w, B w → (∀ j ∈ D, Φ j u w) → (∀ k o, rest[k]? = some o → mv o = none → Φ (i + k) u w) → W6 P ops N6 tail (G4 u (M4 S i rest)) w
theorem Gw (P : Program) (ops : List Oper) (T : World → World → Prop) (B : World → Prop) (N6 : List Value → World → Prop) (tail : List Oper) : ∀ (rest : List Oper) (i : Nat) (S : List Ent) (φs : Dl) (done : List Nat),
    Qs S done → (∀ j, j ∈ done → j < i ∧ ∃ φ, Zm φs j = some φ) → (∀ j φ, Zm φs j = some φ → j < i ∧ ∀ r ∈ φ.1, r ∈ done) → chain P ops T B N6 tail i rest S φs done →
    ∃ Φ : Nat → (Nat → Value) → World → Prop, (∀ j R φ, Zm φs j = some (R, φ) → Φ j = fun u w => φ (R.map u) (u j) w) ∧ Whole P ops T B N6 tail Φ S i rest done
  | [], i, S, φs, done, hS, hd, hφ, h => by
    refine ⟨fun j u w => match Zm φs j with | some (R, φ) => φ (R.map u) (u j) w | none => True, fun j R φ hj => by simp [hj], ⟨by simp, by simp, by simp, ?_⟩⟩
    intro u w hB hp _
    obtain ⟨u', h1, h2⟩ := Aw done _ u _ h
    have h3 := Kw (h1 w hB) fun j hj R φ hφj => by
      have := hp j hj
      simp only [hφj] at this
      rw [(h2 j).1 hj, show R.map u' = R.map u from List.map_congr_left fun r hr => (h2 r).1 ((hφ j _ hφj).2 r hr)]; exact this
    rw [Q4H hS fun j hj => (h2 j).1 hj, Q0C] at h3
    exact h3
  | o :: rest, i, S, φs, done, hS, hd, hφ, h => by
    simp only [chain] at h
    cases hm : mv o with
    | some x =>
      simp only [hm] at h
      have hres : Dp S i o = entOf S x := by simp [Dp, hm]
      obtain ⟨Φ, h1, h2⟩ := Gw P ops T B N6 tail rest (i + 1) _ φs done (hS.putE _ fun j hj => hS.entOf x hj) (fun j hj => ⟨by have := (hd j hj).1; omega, (hd j hj).2⟩) (fun j φ hj => ⟨by have := (hφ j φ hj).1; omega, (hφ j φ hj).2⟩) h
      refine ⟨Φ, h1, ⟨?_, ?_, ?_, ?_⟩⟩
      · intro k o' hk hm'
        cases k with
        | zero => simp only [List.getElem?_cons_zero, Option.some.injEq] at hk; subst hk; rw [hm] at hm'; cases hm'
        | succ k => have := h2.stable k o' (by simpa using hk) hm'; rwa [show i + 1 + k = i + (k + 1) from by omega] at this
      · intro k o' hk hm' u u' hu
        cases k with
        | zero => simp only [List.getElem?_cons_zero, Option.some.injEq] at hk; subst hk; rw [hm] at hm'; cases hm'
        | succ k =>
          simp only [List.take_succ_cons, M4, hres] at hu
          have := h2.loc k o' (by simpa using hk) hm' u u' (by rwa [show i + 1 + k = i + (k + 1) from by omega])
          rwa [show i + 1 + k = i + (k + 1) from by omega] at this
      · intro k o' hk hm' hpl u w hB hr
        cases k with
        | zero => simp only [List.getElem?_cons_zero, Option.some.injEq] at hk; subst hk; rw [hm] at hm'; cases hm'
        | succ k =>
          simp only [List.take_succ_cons, M4, hres] at hr ⊢
          have := h2.run k o' (by simpa using hk) hm' hpl u w hB hr
          rwa [show i + 1 + k = i + (k + 1) from by omega] at this
      · intro u w hB hp hq
        simp only [M4, hres]
        refine h2.last u w hB hp fun k o' hk hm' => ?_
        have := hq (k + 1) o' (by simpa using hk) hm'
        rwa [show i + (k + 1) = i + 1 + k from by omega] at this
    | none =>
      have h' : ∃ (R : List Nat) (φ : List Value → Value → World → Prop), (∀ r ∈ R, r ∈ refs ops S o) ∧ (∀ xs, Ds T (φ xs)) ∧
          (Cv (refs ops S o) (fun _ => undef) fun u => ∀ w, B w → Bf φs u w (runOp P ops (G4 u S) o w (dk T (φ (R.map u)) w)) (refs ops S o)) ∧
          chain P ops T B N6 tail (i + 1) rest (putE S o.dst (.ref i)) (φs ++ [(i, R, φ)]) (done ++ [i]) := by
        cases hs : Q7h o with
        | true =>
          simp only [hm, hs, Q4l, Q14] at h
          obtain ⟨φ, h1, h2, h3⟩ := h
          exact ⟨_, φ, fun _ h => h, h1, h2, h3⟩
        | false =>
          simp only [hm, hs, Q5I, Q2L] at h
          obtain ⟨φ, h1, h2, h3⟩ := h
          exact ⟨[], fun _ => φ, by simp, fun _ => h1, h2, h3⟩
      clear h
      obtain ⟨R, φ, hR, hst, hrun, h⟩ := h'
      have hrd : ∀ r ∈ refs ops S o, r ∈ done := fun r hr => by
        obtain ⟨s, _, he⟩ := Ej (Ex hr)
        exact hS.entOf (.tmp s) he
      have hres : Dp S i o = .ref i := by simp [Dp, hm]
      have hnew : Zm φs i = none := by
        cases hp : Zm φs i with
        | none => rfl
        | some ψ => have := (hφ i ψ hp).1; omega
      obtain ⟨Φ, h1, h2⟩ := Gw P ops T B N6 tail rest (i + 1) _ (φs ++ [(i, R, φ)]) (done ++ [i])
        ((hS.mono fun j hj => List.mem_append_left _ hj).putE _ fun j hj => by cases hj; simp)
        (fun j hj => by
          rcases List.mem_append.1 hj with hj | hj
          · obtain ⟨h3, ψ, h4⟩ := hd j hj
            exact ⟨by omega, ψ, by rw [Sj (by omega)]; exact h4⟩
          · simp at hj; subst hj; exact ⟨by omega, (R, φ), Vd hnew⟩)
        (fun j ψ hj => by
          by_cases e : i = j
          · subst e
            rw [Vd hnew] at hj; cases hj
            exact ⟨by omega, fun r hr => List.mem_append_left _ (hrd r (hR r hr))⟩
          · rw [Sj e] at hj
            obtain ⟨h3, h4⟩ := hφ j ψ hj
            exact ⟨by omega, fun r hr => List.mem_append_left _ (h4 r hr)⟩) h
      have hΦi : Φ i = fun u w => φ (R.map u) (u i) w := h1 i R φ (Vd hnew)
      have hold : ∀ j R' ψ, Zm φs j = some (R', ψ) → Φ j = fun u w => ψ (R'.map u) (u j) w := fun j R' ψ hj => h1 j R' ψ (by rw [Sj (by have := (hφ j _ hj).1; omega)]; exact hj)
      refine ⟨Φ, hold, ⟨?_, ?_, ?_, ?_⟩⟩
      · intro k o' hk hm'
        cases k with
        | zero =>
          intro u w w' ha hT
          rw [Nat.add_zero, hΦi] at ha ⊢
          exact hst _ _ _ _ ha hT
        | succ k => have := h2.stable k o' (by simpa using hk) hm'; rwa [show i + 1 + k = i + (k + 1) from by omega] at this
      · intro k o' hk hm' u u' hu
        cases k with
        | zero =>
          simp only [List.getElem?_cons_zero, Option.some.injEq] at hk
          subst hk
          simp only [List.take_zero, M4, Nat.add_zero] at hu
          rw [Nat.add_zero, hΦi]
          funext w
          show φ (R.map u) (u i) w = φ (R.map u') (u' i) w
          rw [show R.map u = R.map u' from List.map_congr_left fun r hr => hu r (List.mem_cons_of_mem _ (hR r hr)), hu i (by simp)]
        | succ k =>
          simp only [List.take_succ_cons, M4, hres] at hu
          have := h2.loc k o' (by simpa using hk) hm' u u' (by rwa [show i + 1 + k = i + (k + 1) from by omega])
          rwa [show i + 1 + k = i + (k + 1) from by omega] at this
      · intro k o' hk hm' hpl u w hB hr
        cases k with
        | zero =>
          simp only [List.getElem?_cons_zero, Option.some.injEq] at hk
          subst hk
          simp only [List.take_zero, M4, Nat.add_zero] at hr ⊢
          obtain ⟨u', h3, h4⟩ := Aw _ _ u _ hrun
          have h5 := As (h3 w hB) fun j hj ψ hψ => by
            have h6 := hr j hj
            rw [hold j [] ψ hψ] at h6
            rw [(h4 j).1 hj]; exact h6
          rw [Tt hpl (l' := G4 u S)] at h5
          · refine Q0G ?_ h5
            rintro v w' ⟨hT, hf⟩
            refine ⟨hT, fun u2 hu2 hi => ?_⟩
            rw [hΦi]
            show φ (R.map u2) (u2 i) w'
            rw [hi, show R.map u2 = R.map u' from List.map_congr_left fun r hr => by rw [hu2 r (hR r hr), (h4 r).1 (hR r hr)]]
            exact hf
          · intro s hs
            rw [Cf, Cf]
            cases he : getE S s with
            | val v => rfl
            | ref j => exact (h4 j).1 (Q1l (Q1g hs he))
        | succ k =>
          simp only [List.take_succ_cons, M4, hres] at hr ⊢
          have := h2.run k o' (by simpa using hk) hm' hpl u w hB hr
          rwa [show i + 1 + k = i + (k + 1) from by omega] at this
      · intro u w hB hp hq
        simp only [M4, hres]
        refine h2.last u w hB (fun j hj => ?_) fun k o' hk hm' => ?_
        · rcases List.mem_append.1 hj with hj | hj
          · exact hp j hj
          · simp at hj; subst hj
            have := hq 0 o (by simp) hm
            simpa using this
        · have := hq (k + 1) o' (by simpa using hk) hm'
          rwa [show i + (k + 1) = i + 1 + k from by omega] at this
def I0 (os : List Oper) (S0 : List Ent) (q : Nat) : Ent :=
  match os[q]? with
  | some o => Dp (M4 S0 0 (os.take q)) q o
  | none => .val undef
theorem Q4F {os : List Oper} {S0 : List Ent} {q : Nat} {o : Oper} (h : os[q]? = some o) : M4 S0 0 (os.take (q + 1)) = putE (M4 S0 0 (os.take q)) o.dst (I0 os S0 q) := by
  rw [Q1R os S0 0 q o h]
  simp [I0, h]
theorem Q3X (S : List Ent) (d : Option Nat) (e : Ent) : (putE S d e).length = S.length := by
  cases d with
  | none => rfl
  | some d => simp [putE, Pq]
theorem Ba (os : List Oper) (S0 : List Ent) : ∀ q, q ≤ os.length → (M4 S0 0 (os.take q)).length = S0.length
  | 0, _ => by simp [M4]
  | q + 1, h => by rw [Q4F (List.getElem?_eq_getElem (by omega)), Q3X, Ba os S0 q (by omega)]
theorem Dq {os : List Oper} {S0 : List Ent} (hn : Yg (D5 os) = true) (hd : ∀ d ∈ D5 os, d < S0.length) : ∀ q, q ≤ os.length →
    (∀ p, p < q → ∀ o d, os[p]? = some o → o.dst = some d → (M4 S0 0 (os.take q))[d]? = some (I0 os S0 p)) ∧
      (∀ s, (∀ p, p < q → ∀ o, os[p]? = some o → o.dst ≠ some s) → (M4 S0 0 (os.take q))[s]? = S0[s]?)
  | 0, _ => ⟨fun p hp => absurd hp (by omega), fun s _ => by simp [M4]⟩
  | q + 1, h => by
    obtain ⟨h1, h2⟩ := Dq hn hd q (by omega)
    have ho : os[q]? = some os[q] := List.getElem?_eq_getElem (by omega)
    have hlen := Ba os S0 q (by omega)
    rw [Q4F ho]
    cases hdst : os[q].dst with
    | none =>
      refine ⟨fun p hp o d hop hod => ?_, fun s hs => h2 s fun p hp => hs p (by omega)⟩
      by_cases e : p = q
      · subst e; rw [ho] at hop; cases hop; rw [hdst] at hod; cases hod
      · exact h1 p (by omega) o d hop hod
    | some d0 =>
      have hdl : d0 < S0.length := hd d0 (by simp only [D5, List.mem_filterMap]; exact ⟨os[q], List.getElem_mem _, hdst⟩)
      simp only [putE, Pq]
      refine ⟨fun p hp o d hop hod => ?_, fun s hs => ?_⟩
      · by_cases e : p = q
        · subst e; rw [ho] at hop; cases hop; rw [hdst] at hod; cases hod
          rw [List.getElem?_set_self (by rw [hlen]; exact hdl)]
        · have hne : d0 ≠ d := by
            rintro rfl
            exact e (Zc os hn p q o os[q] d0 hop ho hod hdst)
          rw [List.getElem?_set_ne hne]
          exact h1 p (by omega) o d hop hod
      · have hne : d0 ≠ s := fun e => hs q (by omega) os[q] ho (by rw [hdst, e])
        rw [List.getElem?_set_ne hne]
        exact h2 s fun p hp => hs p (by omega)
def Uy (os : List Oper) (p : Nat) : Bool :=
  match os[p]? with
  | some o => match mv o with
    | some (.tmp s) => !(D5 os).contains s
    | some _ => true
    | none => false
  | none => false
theorem Q97 {P : Program} {o : Oper} {x : Operand} (h : mv o = some x) (l : List Value) (w : World) (K : Value → World → Prop) : o.guard = none ∧ N3 P l o w K = K (ev l x) w := by
  unfold mv at h
  split at h
  · cases h
  · rename_i hg
    refine ⟨hg, ?_⟩
    split at h
    · rename_i y hy; cases h; simp only [N3, hy]
    · rename_i y hy; cases h; simp only [N3, hy]
    · cases h
theorem Q41 {P : Program} {ops : List Oper} {N6 : List Value → World → Prop} {o : Oper} {rest rest' : List Oper} {l l' : List Value} {w : World} (hs : Jz o.op = true) (hq : ∀ s ∈ I6 ops o ++ P9 o, get l' s = get l s)
    (hk : ∀ v w, W6 P ops N6 rest (put l o.dst v) w → W6 P ops N6 rest' (put l' o.dst v) w) (h : W6 P ops N6 (o :: rest) l w) : W6 P ops N6 (o :: rest') l' w := by
  have hc : N3 P l' o = N3 P l o := Tn hs fun x hx => by
    cases x with
    | tmp s => exact hq s (List.mem_append_right _ (by simp only [P9, List.mem_filterMap]; exact ⟨.tmp s, by simpa using hx, rfl⟩))
    | _ => rfl
  simp only [W6] at h ⊢
  cases hgd : o.guard with
  | none => simp only [hgd] at h ⊢; rw [hc]; exact Yy hk h
  | some q =>
    obtain ⟨j, b⟩ := q
    simp only [hgd] at h ⊢
    cases hd : (ops[j]?).bind (·.dst) with
    | none => simp only [hd] at h ⊢; exact hk _ _ h
    | some d =>
      simp only [hd] at h ⊢
      rw [hq d (List.mem_append_left _ (by simp [I6, hgd, hd])), hc]
      exact Q2W ((Ed h).imp (fun ⟨h1, h2⟩ => ⟨h1, Yy hk h2⟩) (fun ⟨h1, h2⟩ => ⟨h1, hk _ _ h2⟩))
structure At (os : List Oper) (l0 : List Value) (pre : List Nat) (l : List Value) (u : Nat → Value) : Prop where
  len : l.length = l0.length
  done : ∀ p ∈ pre, ∀ o d, os[p]? = some o → o.dst = some d → l[d]? = some ((I0 os (l0.map .val) p).at u)
  rest : ∀ s, (∀ p ∈ pre, ∀ o, os[p]? = some o → o.dst ≠ some s) → l[s]? = l0[s]?
  refs : ∀ p ∈ pre, ∀ r, I0 os (l0.map .val) p = .ref r → r ∈ pre ∧ ∃ o, os[r]? = some o ∧ mv o = none
theorem Q9P {P : Program} {ops os : List Oper} {T : World → World → Prop} {B : World → Prop} {N6 : List Value → World → Prop} {m : Nat} {l0 : List Value} {Φ : Nat → (Nat → Value) → World → Prop}
    (bit : Nat → Nat → Bool) (hpl : ∀ o ∈ os, Jz o.op = true) (hn : Yg (D5 os) = true) (hd : ∀ d ∈ D5 os, d < l0.length)
    (hclash : ∀ p q a b, p < q → os[p]? = some a → os[q]? = some b → (Ng a b || Ng b a) = true → bit p q = true)
    (hg : ∀ q o j b, os[q]? = some o → o.guard = some (j, b) → ∃ p, p < q ∧ os[p]? = ops[j]? ∧ bit p q = true)
    (hm : m ≤ os.length) (htail : ∀ q, m ≤ q → q < os.length → ∀ p, p < q → bit p q = true ∨ (p < m ∧ Uy os p = true))
    (hT : ∀ w w', B w → T w w' → B w') (hW : Whole P ops T B N6 (os.drop m) Φ (l0.map .val) 0 (os.take m) [])
    (L : List Nat) (hLn : L.Nodup) (hLl : L.length = os.length) (hLlt : ∀ q ∈ L, q < os.length)
    (hC : ∀ pre q post, L = pre ++ q :: post → ∀ p, bit p q = true → p < os.length → p ∈ pre) :
    ∀ (post pre : List Nat), L = pre ++ post → (∀ q ∈ pre, q < m) → ∀ (l : List Value) (u : Nat → Value) (w : World), At os l0 pre l u → B w →
      (∀ r ∈ pre, ∀ o, os[r]? = some o → mv o = none → Φ r u w ∧ ∀ j ∈ refs ops (M4 (l0.map .val) 0 (os.take r)) o, j ∈ pre) → W6 P ops N6 (post.filterMap (os[·]?)) l w := by
  have hd' : ∀ d ∈ D5 os, d < (l0.map Ent.val).length := by simpa using hd
  have htake : ∀ q, q ≤ m → (os.take m).take q = os.take q := fun q hq => by rw [List.take_take, Nat.min_eq_left hq]
  have htget : ∀ q, q < m → (os.take m)[q]? = os[q]? := fun q hq => by rw [List.getElem?_take_of_lt hq]
  -- when all of the first part is done
  have fin : ∀ (pre post : List Nat), L = pre ++ post → (∀ q ∈ pre, q < m) → (∀ q, q < m → q ∈ pre) → ∀ l u w, At os l0 pre l u → B w →
      (∀ r ∈ pre, ∀ o, os[r]? = some o → mv o = none → Φ r u w ∧ ∀ j ∈ refs ops (M4 (l0.map .val) 0 (os.take r)) o, j ∈ pre) → W6 P ops N6 (post.filterMap (os[·]?)) l w := by
    intro pre post hL hlt hall l u w hA hB hΦ
    have hsub : ∀ (post pre : List Nat), L = pre ++ post → m ≤ pre.length → (∀ q, q ∈ pre ↔ q < pre.length) → post.filterMap (os[·]?) = os.drop pre.length := by
      intro post
      induction post with
      | nil =>
        intro pre hL _ _
        rw [List.append_nil] at hL
        rw [← hL, hLl]; simp
      | cons q post ih =>
        intro pre hL hmp hiff
        have hqn : q ∉ pre := by
          rw [hL] at hLn
          intro h
          exact (List.nodup_append.1 hLn).2.2 q h q (by simp) rfl
        have hq1 : pre.length ≤ q := Nat.le_of_not_lt fun h => hqn ((hiff q).2 h)
        have hql := hLlt q (by rw [hL]; simp)
        have hq2 : q = pre.length := by
          refine Nat.le_antisymm (Nat.le_of_not_lt fun h => ?_) hq1
          have := hC pre q post hL pre.length ((htail q (by omega) hql _ h).resolve_right (by omega)) (by omega)
          have := (hiff _).1 this
          omega
        subst hq2
        rw [List.filterMap_cons, List.getElem?_eq_getElem hql]
        simp only
        rw [ih (pre ++ [pre.length]) (by rw [hL]; simp) (by simp; omega) (by intro x; simp only [List.mem_append, hiff, List.mem_singleton, List.length_append, List.length_cons, List.length_nil]; omega)]
        simp only [List.length_append, List.length_cons, List.length_nil]
        rw [← List.drop_eq_getElem_cons hql]
    have hpl' : pre.length = m := by
      have h1 := C4 m pre (by rw [hL] at hLn; exact (List.nodup_append.1 hLn).1) hlt
      have h2 := Js m pre hall
      omega
    have h1 := hsub post pre hL (by omega) (fun q => by rw [hpl']; exact ⟨hlt q, hall q⟩)
    rw [h1, hpl']
    have h2 := hW.last u w hB (by simp) fun k o hk hmv => by
      have hkm : k < m := by
        have := (List.getElem?_eq_some_iff.1 hk).1
        simp at this; omega
      rw [Nat.zero_add]
      rw [htget k hkm] at hk
      exact (hΦ k (hall k hkm) o hk hmv).1
    have h3 : l = G4 u (M4 (l0.map .val) 0 (os.take m)) := by
      obtain ⟨g1, g2⟩ := Dq hn hd' m hm
      apply List.ext_getElem?
      intro s
      rw [G4, List.getElem?_map]
      by_cases hs : ∃ p, p < m ∧ ∃ o, os[p]? = some o ∧ o.dst = some s
      · obtain ⟨p, hp, o, ho, hod⟩ := hs
        rw [hA.done p (hall p hp) o s ho hod, g1 p hp o s ho hod]; rfl
      · have hno : ∀ p, p < m → ∀ o, os[p]? = some o → o.dst ≠ some s := fun p hp o ho hod => hs ⟨p, hp, o, ho, hod⟩
        rw [hA.rest s (fun p hp => hno p (hlt p hp)), g2 s hno, List.getElem?_map]
        cases l0[s]? <;> rfl
    rw [h3]; exact h2
  -- moves that come late, among the tail
  have late : ∀ (post pre : List Nat) (k : Nat), L = pre ++ post → m ≤ k → k ≤ os.length → (∀ q, m ≤ q → (q ∈ pre ↔ q < k)) → (∀ p ∈ post, p < m → Uy os p = true) →
      ∀ (l lf : List Value) (w : World), l.length = l0.length → lf.length = l0.length → (∀ s, (∀ p ∈ post, p < m → ∀ o, os[p]? = some o → o.dst ≠ some s) → l[s]? = lf[s]?) →
        (∀ p ∈ post, p < m → ∀ o d x, os[p]? = some o → mv o = some x → o.dst = some d → lf[d]? = some (ev l0 x)) → (∀ s, (D5 os).contains s = false → l[s]? = l0[s]?) →
        W6 P ops N6 (os.drop k) lf w → W6 P ops N6 (post.filterMap (os[·]?)) l w := by
    intro post
    induction post with
    | nil =>
      intro pre k hL hmk hkl hpre _ l lf w hl hlf hag _ _ h
      rw [List.append_nil] at hL
      have hk : k = os.length := by
        refine Nat.le_antisymm hkl (Nat.le_of_not_lt fun hlt => ?_)
        have hkn : k ∉ pre := fun e => by have := (hpre k hmk).1 e; omega
        have h1 := C4 os.length (k :: pre) (List.nodup_cons.2 ⟨hkn, hL ▸ hLn⟩) (fun x hx => by
          rcases List.mem_cons.1 hx with rfl | hx
          · exact hlt
          · exact hLlt x (by rw [hL]; exact hx))
        simp at h1
        rw [hL] at hLl; omega
      have : l = lf := List.ext_getElem? fun s => hag s (by simp)
      rw [this]
      rw [hk, List.drop_length] at h
      exact h
    | cons q post ih =>
      intro pre k hL hmk hkl hpre hlate l lf w hl hlf hag hval hun h
      have hqpre : q ∉ pre := by
        rw [hL] at hLn
        intro h
        exact (List.nodup_append.1 hLn).2.2 q h q (by simp) rfl
      have hqpost : q ∉ post := by
        rw [hL] at hLn
        exact (List.nodup_cons.1 (List.nodup_append.1 hLn).2.1).1
      have hql := hLlt q (by rw [hL]; simp)
      have hoq : os[q]? = some os[q] := List.getElem?_eq_getElem hql
      have hL' : L = (pre ++ [q]) ++ post := by rw [hL]; simp
      rw [List.filterMap_cons, hoq]
      simp only
      by_cases hqm : q < m
      · -- a late move
        have hlt := hlate q (by simp) hqm
        unfold Uy at hlt
        rw [hoq] at hlt
        simp only at hlt
        cases hmv : mv os[q] with
        | none => rw [hmv] at hlt; cases hlt
        | some x =>
          rw [hmv] at hlt
          have hx : ev l x = ev l0 x := by
            cases x with
            | tmp s =>
              simp only [Bool.not_eq_true'] at hlt
              simp only [ev, get, List.getD_eq_getElem?_getD, hun s hlt]
            | _ => rfl
          obtain ⟨hgn, hden⟩ := Q97 (P := P) hmv l w (fun v w => W6 P ops N6 (post.filterMap (os[·]?)) (put l os[q].dst v) w)
          simp only [W6, hgn]
          rw [hden, hx]
          refine ih (pre ++ [q]) k hL' hmk hkl (fun q' hq' => ?_) (fun p hp => hlate p (by simp [hp])) _ lf w ?_ hlf (fun s hs => ?_) (fun p hp => hval p (by simp [hp])) (fun s hs => ?_) h
          · rw [← hpre q' hq']; simp only [List.mem_append, List.mem_singleton]
            exact ⟨fun e => e.resolve_right (by omega), .inl⟩
          · cases hdst : os[q].dst <;> simp [put, hl]
          · cases hdst : os[q].dst with
            | none =>
              refine hag s fun p hp hpm o ho => ?_
              rcases List.mem_cons.1 hp with rfl | hp
              · rw [hoq] at ho; cases ho; rw [hdst]; simp
              · exact hs p hp hpm o ho
            | some d =>
              have hdl : d < l0.length := hd d (by simp only [D5, List.mem_filterMap]; exact ⟨os[q], List.getElem_mem _, hdst⟩)
              simp only [put]
              by_cases e : d = s
              · subst e
                rw [List.getElem?_set_self (by rw [hl]; exact hdl)]
                exact (hval q (by simp) hqm os[q] d x hoq hmv hdst).symm
              · rw [List.getElem?_set_ne e]
                refine hag s fun p hp hpm o ho => ?_
                rcases List.mem_cons.1 hp with rfl | hp
                · rw [hoq] at ho; cases ho; rw [hdst]; simpa using e
                · exact hs p hp hpm o ho
          · cases hdst : os[q].dst with
            | none => exact hun s hs
            | some d =>
              have hdin : (D5 os).contains d = true := by
                rw [List.contains_iff_mem]; simp only [D5, List.mem_filterMap]; exact ⟨os[q], List.getElem_mem _, hdst⟩
              simp only [put]
              rw [List.getElem?_set_ne (by rintro rfl; rw [hs] at hdin; cases hdin)]
              exact hun s hs
      · have hqm : m ≤ q := by omega
        have hqk : q = k := by
          have h1 : k ≤ q := Nat.le_of_not_lt fun e => hqpre ((hpre q hqm).2 e)
          refine Nat.le_antisymm (Nat.le_of_not_lt fun e => ?_) h1
          have := hC pre q post hL k ((htail q hqm hql k e).resolve_right (by omega)) (by omega)
          have := (hpre k hmk).1 this
          omega
        subst hqk
        rw [List.drop_eq_getElem_cons hql] at h
        have hnoc : ∀ p ∈ post, p < m → bit p q = true → False := fun p hp hpm hb => by
          have := hC pre q post hL p hb (by omega)
          rw [hL] at hLn
          exact (List.nodup_append.1 hLn).2.2 p this p (by simp [hp]) rfl
        refine Q41 (hpl _ (List.getElem_mem _)) (fun s hs => ?_) (fun v w' hv => ?_) h
        · have : l[s]? = lf[s]? := hag s fun p hp hpm o ho hod => by
            rcases List.mem_cons.1 hp with rfl | hp
            · omega
            refine hnoc p hp hpm ?_
            rcases List.mem_append.1 hs with hs | hs
            · unfold I6 at hs
              split at hs
              · simp at hs
              · rename_i j b hgd
                split at hs
                · rename_i d hdd
                  simp only [List.mem_singleton] at hs
                  subst hs
                  obtain ⟨p', hpq, hpj, hb⟩ := hg q os[q] j b hoq hgd
                  obtain ⟨o', ho', hod'⟩ := Option.bind_eq_some_iff.1 hdd
                  have := Zc os hn p' p o' o s (by rw [hpj, ho']) ho hod' hod
                  subst this; exact hb
                · simp at hs
            · exact hclash p q o os[q] (by omega) ho hoq (by simp only [Ng, hod, Bool.or_eq_true]; left; left; simpa using hs)
          simp only [get, List.getD_eq_getElem?_getD, this]
        · refine ih (pre ++ [q]) (q + 1) hL' (by omega) (by omega) (fun q' hq' => ?_) (fun p hp => hlate p (by simp [hp])) _ _ w' ?_ ?_ (fun s hs => ?_) (fun p hp hpm o d x ho hmx hod => ?_) (fun s hs => ?_) hv
          · simp only [List.mem_append, List.mem_singleton, hpre q' hq']; omega
          · cases hdst : os[q].dst <;> simp [put, hl]
          · cases hdst : os[q].dst <;> simp [put, hlf]
          · have hb : l[s]? = lf[s]? ∨ os[q].dst = some s := by
              left
              refine hag s fun p hp hpm o ho => ?_
              rcases List.mem_cons.1 hp with rfl | hp
              · omega
              · exact hs p hp hpm o ho
            cases hdst : os[q].dst with
            | none => rcases hb with hb | hb
                      · exact hb
                      · rw [hdst] at hb; cases hb
            | some d =>
              simp only [put]
              by_cases e : d = s
              · subst e
                have hdl : d < l0.length := hd d (by simp only [D5, List.mem_filterMap]; exact ⟨os[q], List.getElem_mem _, hdst⟩)
                rw [List.getElem?_set_self (by rw [hl]; exact hdl), List.getElem?_set_self (by rw [hlf]; exact hdl)]
              · rw [List.getElem?_set_ne e, List.getElem?_set_ne e]
                rcases hb with hb | hb
                · exact hb
                · rw [hdst] at hb; cases hb; exact absurd rfl e
          · have hv0 := hval p (by simp [hp]) hpm o d x ho hmx hod
            cases hdst : os[q].dst with
            | none => exact hv0
            | some d' =>
              have hne : d' ≠ d := by
                rintro rfl
                have := Zc os hn p q o os[q] d' ho hoq hod hdst
                omega
              simp only [put]
              rw [List.getElem?_set_ne hne]; exact hv0
          · cases hdst : os[q].dst with
            | none => exact hun s hs
            | some d =>
              have hdin : (D5 os).contains d = true := by
                rw [List.contains_iff_mem]; simp only [D5, List.mem_filterMap]; exact ⟨os[q], List.getElem_mem _, hdst⟩
              simp only [put]
              rw [List.getElem?_set_ne (by rintro rfl; rw [hs] at hdin; cases hdin)]
              exact hun s hs
  intro post
  induction post with
  | nil =>
    intro pre hL hlt l u w hA hB hΦ
    refine fin pre [] hL hlt ?_ l u w hA hB hΦ
    intro q hq
    rw [List.append_nil] at hL
    refine Classical.byContradiction fun hnot => ?_
    have h1 := C4 os.length (q :: pre) (List.nodup_cons.2 ⟨hnot, hL ▸ hLn⟩) (fun k hk => by
      rcases List.mem_cons.1 hk with rfl | hk
      · omega
      · exact hLlt k (by rw [hL]; exact hk))
    simp at h1
    rw [hL] at hLl; omega
  | cons q post ih =>
    intro pre hL hlt l u w hA hB hΦ
    have hqpre : q ∉ pre := by
      rw [hL] at hLn
      intro h
      exact (List.nodup_append.1 hLn).2.2 q h q (by simp) rfl
    have hql := hLlt q (by rw [hL]; simp)
    by_cases hqm : m ≤ q
    · -- the tail begins
      have hmiss : ∀ p, p < m → p ∉ pre → Uy os p = true := fun p hp hnp => by
        rcases htail q hqm hql p (by omega) with h | h
        · exact absurd (hC pre q post hL p h (by omega)) hnp
        · exact h.2
      have hmvl : ∀ p, Uy os p = true → ∀ o, os[p]? = some o → ∃ x, mv o = some x ∧ ∀ s, x = .tmp s → (D5 os).contains s = false := by
        intro p hp o ho
        unfold Uy at hp
        rw [ho] at hp
        simp only at hp
        cases hm' : mv o with
        | none => rw [hm'] at hp; cases hp
        | some x =>
          refine ⟨x, rfl, fun s hs => ?_⟩
          subst hs
          rw [hm'] at hp; simpa using hp
      obtain ⟨g1, g2⟩ := Dq hn hd' m hm
      have hno0 : ∀ s, (D5 os).contains s = false → ∀ (p : Nat) o, os[p]? = some o → o.dst ≠ some s := by
        intro s hs p o ho hod
        have : (D5 os).contains s = true := by
          rw [List.contains_iff_mem]; simp only [D5, List.mem_filterMap]
          exact ⟨o, List.mem_of_getElem? ho, hod⟩
        rw [hs] at this; cases this
      refine late (q :: post) pre m hL (Nat.le_refl _) hm (fun q' hq' => ⟨fun e => hlt q' e, fun e => absurd hq' (by omega)⟩) (fun p hp hpm => hmiss p hpm fun e => by
          rw [hL] at hLn
          exact (List.nodup_append.1 hLn).2.2 p e p hp rfl) l (G4 u (M4 (l0.map .val) 0 (os.take m))) w hA.len (by simp [G4, Ba os _ m hm]) (fun s hs => ?_) (fun p hp hpm o d x ho hmx hod => ?_) (fun s hs => ?_) ?_
      · rw [G4, List.getElem?_map]
        by_cases hex : ∃ p, p < m ∧ ∃ o, os[p]? = some o ∧ o.dst = some s
        · obtain ⟨p, hp, o, ho, hod⟩ := hex
          by_cases hpp : p ∈ pre
          · rw [hA.done p hpp o s ho hod, g1 p hp o s ho hod]; rfl
          · exfalso
            have hpL : p ∈ L := by
              refine Classical.byContradiction fun hnot => ?_
              have h1 := C4 os.length (p :: L) (List.nodup_cons.2 ⟨hnot, hLn⟩) (fun k hk => by
                rcases List.mem_cons.1 hk with rfl | hk
                · omega
                · exact hLlt k hk)
              simp at h1; omega
            rw [hL] at hpL
            rcases List.mem_append.1 hpL with h | h
            · exact hpp h
            · exact hs p h hp o ho hod
        · have hno : ∀ p, p < m → ∀ o, os[p]? = some o → o.dst ≠ some s := fun p hp o ho hod => hex ⟨p, hp, o, ho, hod⟩
          rw [hA.rest s (fun p hp => hno p (hlt p hp)), g2 s hno, List.getElem?_map]
          cases l0[s]? <;> rfl
      · have hpp : p ∉ pre := fun e => by
          rw [hL] at hLn
          exact (List.nodup_append.1 hLn).2.2 p e p hp rfl
        rw [G4, List.getElem?_map, g1 p hpm o d ho hod]
        simp only [Option.map_some, Option.some.injEq]
        have hres : I0 os (l0.map .val) p = entOf (M4 (l0.map .val) 0 (os.take p)) x := by simp [I0, ho, Dp, hmx]
        rw [hres]
        obtain ⟨x', hx1, hx2⟩ := hmvl p (hmiss p hpm hpp) o ho
        rw [hmx] at hx1; cases hx1
        cases x with
        | tmp s =>
          have hs := hx2 s rfl
          obtain ⟨_, k2⟩ := Dq (S0 := l0.map .val) hn hd' p (by omega)
          simp only [entOf]
          rw [Rk, k2 s (fun p' _ o' ho' => hno0 s hs p' o' ho'), List.getElem?_map]
          simp only [ev, get, List.getD_eq_getElem?_getD]
          cases l0[s]? <;> rfl
        | _ => rfl
      · exact hA.rest s fun p _ o ho => hno0 s hs p o ho
      · refine hW.last u w hB (by simp) fun k o hk hmv => ?_
        have hkm : k < m := by
          have := (List.getElem?_eq_some_iff.1 hk).1
          simp at this; omega
        rw [Nat.zero_add]
        rw [htget k hkm] at hk
        refine (hΦ k (Classical.byContradiction fun hnp => ?_) o hk hmv).1
        obtain ⟨x, hx, _⟩ := hmvl k (hmiss k hkm hnp) o hk
        rw [hmv] at hx; cases hx
    · have hqm : q < m := by omega
      have hoq : os[q]? = some os[q] := List.getElem?_eq_getElem hql
      obtain ⟨g1, g2⟩ := Dq (S0 := l0.map .val) hn hd' q (by omega)
      -- what a slot holds that this operation reads
      have hslot : ∀ s, (∃ p o, os[p]? = some o ∧ o.dst = some s ∧ p < q ∧ bit p q = true) ∨ s ∈ P9 os[q] →
          get l s = (getE (M4 (l0.map .val) 0 (os.take q)) s).at u ∧ ∀ r, getE (M4 (l0.map .val) 0 (os.take q)) s = .ref r → r ∈ pre ∧ ∃ o, os[r]? = some o ∧ mv o = none := by
        intro s hs
        have hno : (∀ p ∈ pre, ∀ o, os[p]? = some o → o.dst ≠ some s) → (∀ p, p < q → ∀ o, os[p]? = some o → o.dst ≠ some s) →
            get l s = (getE (M4 (l0.map .val) 0 (os.take q)) s).at u ∧ ∀ r, getE (M4 (l0.map .val) 0 (os.take q)) s = .ref r → r ∈ pre ∧ ∃ o, os[r]? = some o ∧ mv o = none := by
          intro h1 h2
          rw [Rk, g2 s h2, List.getElem?_map]
          simp only [get, List.getD_eq_getElem?_getD, hA.rest s h1]
          cases l0[s]? with
          | none => exact ⟨rfl, fun r hr => by cases hr⟩
          | some v => exact ⟨rfl, fun r hr => by cases hr⟩
        have hyes : ∀ p o, os[p]? = some o → o.dst = some s → p < q → p ∈ pre →
            get l s = (getE (M4 (l0.map .val) 0 (os.take q)) s).at u ∧ ∀ r, getE (M4 (l0.map .val) 0 (os.take q)) s = .ref r → r ∈ pre ∧ ∃ o, os[r]? = some o ∧ mv o = none := by
          intro p o hp ho hpq hpp
          rw [Rk, g1 p hpq o s hp ho]
          simp only [get, List.getD_eq_getElem?_getD, hA.done p hpp o s hp ho, Option.getD_some]
          first | exact ⟨rfl, hA.refs p hpp⟩ | exact ⟨trivial, hA.refs p hpp⟩
        rcases hs with ⟨p, o, hp, ho, hpq, hb⟩ | hs
        · exact hyes p o hp ho hpq (hC pre q post hL p hb (by omega))
        · by_cases hex : ∃ (p : Nat) (o : Oper), os[p]? = some o ∧ o.dst = some s
          · obtain ⟨p, o, hp, ho⟩ := hex
            have hplt := (List.getElem?_eq_some_iff.1 hp).1
            have hun : ∀ p' o', os[p']? = some o' → o'.dst = some s → p' = p := fun p' o' h1 h2 => Zc os hn p' p o' o s h1 hp h2 ho
            rcases Nat.lt_trichotomy p q with h | h | h
            · have hb := hclash p q o os[q] h hp hoq (by simp only [Ng, ho, Bool.or_eq_true]; left; left; simpa using hs)
              exact hyes p o hp ho h (hC pre q post hL p hb (by omega))
            · subst h
              exact hno (fun p' hp' o' h1 h2 => by rw [hun p' o' h1 h2] at hp'; exact hqpre hp') (fun p' hp' o' h1 h2 => by rw [hun p' o' h1 h2] at hp'; omega)
            · refine hno (fun p' hp' o' h1 h2 => ?_) (fun p' hp' o' h1 h2 => by rw [hun p' o' h1 h2] at hp'; omega)
              have e := hun p' o' h1 h2
              subst e
              have hb := hclash q p' os[q] o' h hoq h1 (by simp only [Ng, h2, Bool.or_eq_true]; right; left; simpa using hs)
              obtain ⟨p1, p2, hpp⟩ := List.append_of_mem hp'
              have := hC p1 p' (p2 ++ q :: post) (by rw [hL, hpp]; simp) q hb hql
              exact hqpre (by rw [hpp]; exact List.mem_append_left _ this)
          · exact hno (fun p _ o h1 h2 => hex ⟨p, o, h1, h2⟩) (fun p _ o h1 h2 => hex ⟨p, o, h1, h2⟩)
      have hgs : ∀ s ∈ I6 ops os[q] ++ P9 os[q], (∃ p o, os[p]? = some o ∧ o.dst = some s ∧ p < q ∧ bit p q = true) ∨ s ∈ P9 os[q] := by
        intro s hs
        rcases List.mem_append.1 hs with hs | hs
        · left
          unfold I6 at hs
          split at hs
          · simp at hs
          · rename_i j b hgd
            split at hs
            · rename_i d hdd
              simp only [List.mem_singleton] at hs
              subst hs
              obtain ⟨p, hpq, hpj, hb⟩ := hg q os[q] j b hoq hgd
              obtain ⟨o, ho, hod⟩ := Option.bind_eq_some_iff.1 hdd
              exact ⟨p, o, by rw [hpj, ho], hod, hpq, hb⟩
            · simp at hs
        · exact .inr hs
      have hrun0 := htget q hqm
      rw [hoq] at hrun0
      rw [List.filterMap_cons, hoq]
      simp only
      -- the state behind it
      have step : ∀ (v : Value) (u' : Nat → Value) (w' : World), (∀ p ∈ pre, (I0 os (l0.map .val) p).at u' = (I0 os (l0.map .val) p).at u) → v = (I0 os (l0.map .val) q).at u' →
          (∀ r, I0 os (l0.map .val) q = .ref r → r ∈ q :: pre ∧ ∃ o, os[r]? = some o ∧ mv o = none) → B w' → (∀ r ∈ q :: pre, ∀ o, os[r]? = some o → mv o = none → Φ r u' w' ∧ ∀ j ∈ refs ops (M4 (l0.map .val) 0 (os.take r)) o, j ∈ q :: pre) →
          W6 P ops N6 (post.filterMap (os[·]?)) (put l os[q].dst v) w' := by
        intro v u' w' hu hv hr hB' hΦ'
        have hmem : ∀ x, x ∈ pre ++ [q] ↔ x ∈ q :: pre := by intro x; simp [or_comm]
        refine ih (pre ++ [q]) (by rw [hL]; simp) (fun x hx => by rcases List.mem_cons.1 ((hmem x).1 hx) with rfl | hx; exact hqm; exact hlt x hx) _ u' w' ?_ hB' (fun r hr o ho hm' => ⟨(hΦ' r ((hmem r).1 hr) o ho hm').1, fun j hj => (hmem j).2 ((hΦ' r ((hmem r).1 hr) o ho hm').2 j hj)⟩)
        have hrefs : ∀ p ∈ pre ++ [q], ∀ r, I0 os (l0.map .val) p = .ref r → r ∈ pre ++ [q] ∧ ∃ o, os[r]? = some o ∧ mv o = none := by
          intro p hp r hr'
          rcases List.mem_cons.1 ((hmem p).1 hp) with rfl | hp
          · exact ⟨(hmem r).2 (hr r hr').1, (hr r hr').2⟩
          · obtain ⟨h1, h2⟩ := hA.refs p hp r hr'
            exact ⟨List.mem_append_left _ h1, h2⟩
        cases hdst : os[q].dst with
        | none =>
          refine ⟨hA.len, ?_, ?_, hrefs⟩
          · intro p hp o d ho hod
            rcases List.mem_cons.1 ((hmem p).1 hp) with rfl | hp
            · rw [hoq] at ho; cases ho; rw [hdst] at hod; cases hod
            · rw [hu p hp]; exact hA.done p hp o d ho hod
          · intro s hs; exact hA.rest s fun p hp => hs p (List.mem_append_left _ hp)
        | some d0 =>
          have hdl : d0 < l0.length := hd d0 (by simp only [D5, List.mem_filterMap]; exact ⟨os[q], List.getElem_mem _, hdst⟩)
          refine ⟨by simp [put, hA.len], ?_, ?_, hrefs⟩
          · intro p hp o d ho hod
            rcases List.mem_cons.1 ((hmem p).1 hp) with rfl | hp2
            · rw [hoq] at ho; cases ho
              rw [hdst] at hod; cases hod
              simp only [put]
              rw [List.getElem?_set_self (by rw [hA.len]; exact hdl), hv]
            · have hne : d0 ≠ d := by
                rintro rfl
                have := Zc os hn p q o os[q] d0 ho hoq hod hdst
                subst this; exact hqpre hp2
              simp only [put]
              rw [List.getElem?_set_ne hne, hu p hp2]
              exact hA.done p hp2 o d ho hod
          · intro s hs
            have hne : d0 ≠ s := fun e => hs q (by simp) os[q] hoq (by rw [hdst, e])
            simp only [put]
            rw [List.getElem?_set_ne hne]
            exact hA.rest s fun p hp => hs p (List.mem_append_left _ hp)
      cases hmv : mv os[q] with
      | some x =>
        have hres : I0 os (l0.map .val) q = entOf (M4 (l0.map .val) 0 (os.take q)) x := by simp [I0, hoq, Dp, hmv]
        -- a move: what the operand holds
        have hx : ev l x = (entOf (M4 (l0.map .val) 0 (os.take q)) x).at u ∧ ∀ r, entOf (M4 (l0.map .val) 0 (os.take q)) x = .ref r → r ∈ pre ∧ ∃ o, os[r]? = some o ∧ mv o = none := by
          cases x with
          | tmp s =>
            have hs : s ∈ P9 os[q] := by
              unfold mv at hmv
              split at hmv
              · cases hmv
              · simp only [P9, List.mem_filterMap]
                split at hmv
                · rename_i y hy; cases hmv; exact ⟨.tmp s, by rw [hy]; simp [Op.operands], rfl⟩
                · rename_i y hy; cases hmv; exact ⟨.tmp s, by rw [hy]; simp [Op.operands], rfl⟩
                · cases hmv
            exact hslot s (.inr hs)
          | _ => exact ⟨rfl, fun r hr => by cases hr⟩
        have hgn : os[q].guard = none := by
          unfold mv at hmv
          split at hmv
          · cases hmv
          · assumption
        simp only [W6, hgn]
        have hden : N3 P l os[q] w (fun v w => W6 P ops N6 (post.filterMap (os[·]?)) (put l os[q].dst v) w) = W6 P ops N6 (post.filterMap (os[·]?)) (put l os[q].dst (ev l x)) w := by
          unfold mv at hmv
          rw [hgn] at hmv
          simp only at hmv
          split at hmv
          · rename_i y hy; cases hmv; simp only [N3, hy]
          · rename_i y hy; cases hmv; simp only [N3, hy]
          · cases hmv
        rw [hden]
        refine step _ u w (fun _ _ => rfl) (by rw [hres]; exact hx.1) (fun r hr => by
          rw [hres] at hr
          obtain ⟨h1, h2⟩ := hx.2 r hr
          exact ⟨List.mem_cons_of_mem _ h1, h2⟩) hB (fun r hr o ho hm' => by
          rcases List.mem_cons.1 hr with rfl | hr
          · rw [hoq] at ho; cases ho; rw [hmv] at hm'; cases hm'
          · exact ⟨(hΦ r hr o ho hm').1, fun j hj => List.mem_cons_of_mem _ ((hΦ r hr o ho hm').2 j hj)⟩)
      | none =>
        have hres : I0 os (l0.map .val) q = .ref q := by simp [I0, hoq, Dp, hmv]
        have hrun := hW.run q os[q] hrun0 hmv (hpl _ (List.getElem_mem _)) u w hB
        rw [htake q (by omega), Nat.zero_add] at hrun
        have hst := hW.stable
        have hrun2 := hrun (fun j hj => by
          obtain ⟨s, hs, he⟩ := Ej (Ex hj)
          obtain ⟨h1, o, h2, h3⟩ := (hslot s (hgs s hs)).2 j he
          exact (hΦ j h1 o h2 h3).1)
        have hin : ∀ j ∈ refs ops (M4 (l0.map .val) 0 (os.take q)) os[q], j ∈ pre := fun j hj => by
          obtain ⟨s, hs, he⟩ := Ej (Ex hj)
          exact ((hslot s (hgs s hs)).2 j he).1
        refine Q0t ?_
        rw [Tt (hpl _ (List.getElem_mem _)) (l' := G4 u (M4 (l0.map .val) 0 (os.take q))) (fun s hs => by rw [Cf]; exact (hslot s (hgs s hs)).1)]
        refine Q0G ?_ hrun2
        intro v w' ⟨hTw, hφ⟩
        have hne : ∀ r ∈ pre, r ≠ q := fun r hr e => hqpre (e ▸ hr)
        refine step v (fun n => if n = q then v else u n) w' ?_ (by rw [hres]; simp [Ent.at]) (fun r hr => by rw [hres] at hr; cases hr; exact ⟨by simp, os[q], hoq, hmv⟩) (hT w w' hB hTw) ?_
        · intro p hp
          cases he : I0 os (l0.map .val) p with
          | val x => rfl
          | ref r =>
            have := hne r (hA.refs p hp r he).1
            simp [Ent.at, this]
        · intro r hr o ho hm'
          rcases List.mem_cons.1 hr with rfl | hr
          · rw [hoq] at ho; cases ho
            exact ⟨hφ _ (fun x hx => by simp [hne x (hin x hx)]) (by simp), fun j hj => List.mem_cons_of_mem _ (hin j hj)⟩
          · obtain ⟨f1, f2⟩ := hΦ r hr o ho hm'
            have hrm := hlt r hr
            have hne' := hne r hr
            have hl := hW.loc r o (by rw [htget r hrm]; exact ho) hm' (fun n => if n = q then v else u n) u (fun x hx => by
              rw [htake r (by omega), Nat.zero_add] at hx
              have : x ≠ q := by
                rcases List.mem_cons.1 hx with rfl | hx
                · exact hne'
                · exact hne x (f2 x hx)
              simp [this])
            have hs := hst r o (by rw [htget r hrm]; exact ho) hm'
            rw [Nat.zero_add] at hs hl
            refine ⟨?_, fun j hj => List.mem_cons_of_mem _ (f2 j hj)⟩
            rw [hl]
            exact hs _ _ _ f1 hTw
def Q8I : Op → Bool
  | .move _ | .assign _ | .fieldAddr .. | .indexAddr .. | .field .. | .index .. | .binOp .. | .unOp .. | .extract .. | .pick .. | .makeFunc .. | .nilCheck _ | .slice .. => true
  | _ => false
def ready (ops : List Oper) (seen : List Nat) (j : Nat) : Bool := (F3 ops j).all (seen.contains ·)
def Q8F (ops : List Oper) (j : Nat) : Bool := match ops[j]? with | some o => Q8I o.op | none => false
def Q59 (ops : List Oper) : Nat → List Nat → List Nat → List Nat
  | 0, _, seen => seen.reverse
  | n + 1, todo, seen =>
    match todo.find? (fun j => Q8F ops j && ready ops seen j) with
    | some j => Q59 ops n (todo.erase j) (j :: seen)
    | none => match todo.find? (ready ops seen) with
      | some j => Q59 ops n (todo.erase j) (j :: seen)
      | none => seen.reverse
def Jl (ops : List Oper) : List Nat := Q59 ops ops.length (List.range ops.length) []
def Uo (ops : List Oper) (ord : List Nat) (p q : Nat) : Bool := ((Ki ops []).getD (ord.getD q 0) 0).testBit (ord.getD p 0)
def O8 (ops : List Oper) (ord : List Nat) : List Oper := ord.map fun i => ops.getD i default
def O6 (ops : List Oper) (ord : List Nat) : Nat → Nat
  | 0 => 0
  | j + 1 => if (List.range j).all (fun i => Uo ops ord i j || Uy (O8 ops ord) i) then O6 ops ord j else j + 1
def Q9S (ops : List Oper) (ord : List Nat) (c n : Nat) : Bool := (List.range n).all fun q => (List.range q).all fun p => decide (p < c) || Uo ops ord p q
def Nt (ops : List Oper) (ord : List Nat) (n : Nat) : Nat := if Q9S ops ord (O6 ops ord n) n then O6 ops ord n else n
theorem Q1y (ops : List Oper) (ord : List Nat) : ∀ n, O6 ops ord n ≤ n ∧ ∀ q, O6 ops ord n ≤ q → q < n → ∀ p, p < q → Uo ops ord p q = true ∨ Uy (O8 ops ord) p = true
  | 0 => ⟨Nat.le_refl _, fun q _ h => by omega⟩
  | j + 1 => by
    obtain ⟨h1, h2⟩ := Q1y ops ord j
    simp only [O6]
    split
    · rename_i h
      refine ⟨by omega, fun q hq hql p hp => ?_⟩
      by_cases e : q = j
      · subst e
        simpa using List.all_eq_true.1 h p (by simpa using hp)
      · exact h2 q hq (by omega) p hp
    · exact ⟨Nat.le_refl _, fun q hq hql => by omega⟩
theorem Q5o (ops : List Oper) (ord : List Nat) (n : Nat) : Nt ops ord n ≤ n ∧ ∀ q, Nt ops ord n ≤ q → q < n → ∀ p, p < q → Uo ops ord p q = true ∨ (p < Nt ops ord n ∧ Uy (O8 ops ord) p = true) := by
  obtain ⟨h1, h2⟩ := Q1y ops ord n
  unfold Nt
  split
  · rename_i hb
    refine ⟨h1, fun q hq hql p hp => ?_⟩
    by_cases hpc : p < O6 ops ord n
    · exact (h2 q hq hql p hp).imp id fun h => ⟨hpc, h⟩
    · left
      have := List.all_eq_true.1 (List.all_eq_true.1 hb q (by simpa using hql)) p (by simpa using hp)
      simpa [hpc] using this
  · exact ⟨Nat.le_refl _, fun q hq hql => by omega⟩
def Q7C (ops : List Oper) (ord : List Nat) : Bool :=
  ord.length == ops.length && (List.range ops.length).all (ord.contains ·) && Yg ord && ord.all (fun i => decide (i < ops.length)) &&
    (List.range ops.length).all fun q => (List.range q).all fun p => !Uo ops ord q p
def Q2z (ops : List Oper) (n : Nat) : Bool :=
  Uh ops && Q4j (Ki ops []) ops && Yg (D5 (O8 ops (Jl ops))) && (D5 (O8 ops (Jl ops))).all (fun d => decide (d < n)) &&
    (Qx .any ops (List.range ops.length) && Qx .text ops (List.range ops.length) && Qx .gc ops (Q96 .gc ops ops.length (List.range ops.length) [])) && Q7C ops (Jl ops)
theorem Ph : ∀ {l : List Nat}, Yg l = true → l.Nodup
  | [], _ => List.nodup_nil
  | x :: l, h => by
    simp only [Yg, Bool.and_eq_true, Bool.not_eq_true'] at h
    exact List.nodup_cons.2 ⟨by simpa using h.1, Ph h.2⟩
theorem Q3g {ops : List Oper} : ∀ (rest : List Oper) (acc : List Nat), acc.length + rest.length = ops.length → (∀ k, acc.length ≤ k → ops[k]? = rest[k - acc.length]?) →
    (∀ j k, j < acc.length → k ∈ F3 ops j → (acc.getD j 0).testBit k = true) → ∀ j k, j < ops.length → k ∈ F3 ops j → ((Ki rest acc).getD j 0).testBit k = true
  | [], acc, hl, _, hacc => fun j k hj hk => hacc j k (by simp at hl; omega) hk
  | o :: rest, acc, hl, hget, hacc => by
    have ho : ops[acc.length]? = some o := by rw [hget _ (Nat.le_refl _)]; simp
    refine Q3g rest _ (by simp at hl ⊢; omega) ?_ ?_
    · intro k hk
      simp only [List.length_append, List.length_cons, List.length_nil] at hk ⊢
      rw [hget k (by omega)]
      obtain ⟨m, hm⟩ : ∃ m, k - acc.length = m + 1 := ⟨k - acc.length - 1, by omega⟩
      rw [hm, List.getElem?_cons_succ]
      congr 1; omega
    · intro j k hj hk
      simp only [List.length_append, List.length_cons, List.length_nil] at hj
      by_cases hj2 : j < acc.length
      · simp only [List.getD_eq_getElem?_getD, List.getElem?_append_left hj2]
        simpa only [List.getD_eq_getElem?_getD] using hacc j k hj2 hk
      · have hj3 : j = acc.length := by omega
        subst hj3
        simp only [List.getD_eq_getElem?_getD, List.getElem?_append_right (Nat.le_refl _), Nat.sub_self, List.getElem?_cons_zero, Option.getD_some]
        unfold F3 at hk
        rw [ho] at hk
        simp only [Option.map_some, Option.getD_some, List.mem_map] at hk
        obtain ⟨e, he, rfl⟩ := hk
        have key : ∀ (l : List Edge) (s : Nat), (e ∈ l ∨ s.testBit e.on = true) → (l.foldl (fun s e => s ||| 2 ^ e.on ||| (acc[e.on]?).getD 0) s).testBit e.on = true := by
          intro l
          induction l with
          | nil => intro s h; simpa using h
          | cons x l ih =>
            intro s h
            refine ih _ ?_
            rcases h with h | h
            · rcases List.mem_cons.1 h with rfl | h
              · right; simp
              · exact .inl h
            · right; simp [h]
        exact key _ _ (.inl he)
theorem Dr {α β : Type} {f g : α → Option β} : ∀ {l : List α}, (∀ x ∈ l, f x = g x) → l.filterMap f = l.filterMap g
  | [], _ => rfl
  | x :: l, h => by
    rw [List.filterMap_cons, List.filterMap_cons, h x (by simp), Dr fun y hy => h y (by simp [hy])]
theorem Q88 (P : Program) (ops : Array Oper) (T : World → World → Prop) (B : World → Prop) (N6 : List Value → World → Prop) (l0 : List Value) (hok : Q2z ops.toList l0.length = true)
    (hT : ∀ w w', B w → T w w' → B w')
    (h : chain P ops.toList T B N6 ((O8 ops.toList (Jl ops.toList)).drop (Nt ops.toList (Jl ops.toList) ops.toList.length)) 0
      ((O8 ops.toList (Jl ops.toList)).take (Nt ops.toList (Jl ops.toList) ops.toList.length)) (l0.map .val) [] [])
    (b : Bool) (t : Nat) (w : World) (hw : B w) : W6 P ops.toList N6 ((Region.schedule b ops t).filterMap (ops[·]?)) l0 w := by
  simp only [Q2z, Bool.and_eq_true] at hok
  obtain ⟨⟨⟨⟨⟨he, hc⟩, hn⟩, hd⟩, ⟨ho1, ho2⟩, ho3⟩, hord⟩ := hok
  generalize Jl ops.toList = ord at *
  simp only [Q7C, Bool.and_eq_true, beq_iff_eq] at hord
  obtain ⟨⟨⟨⟨hol, hoall⟩, hon⟩, holt⟩, horesp⟩ := hord
  have hon' := Ph hon
  have hosl : (O8 ops.toList ord).length = ops.toList.length := by simp [O8, hol]
  have hordlt : ∀ p, p < ops.toList.length → ord.getD p 0 < ops.toList.length := by
    intro p hp
    simp only [List.getD_eq_getElem?_getD]
    rw [List.getElem?_eq_getElem (by omega)]
    have := List.all_eq_true.1 holt ord[p] (List.getElem_mem _)
    simpa using this
  have hosget : ∀ p, p < ops.toList.length → (O8 ops.toList ord)[p]? = ops.toList[ord.getD p 0]? := by
    intro p hp
    have h1 := hordlt p hp
    simp only [List.getD_eq_getElem?_getD] at h1
    rw [List.getElem?_eq_getElem (by omega : p < ord.length)] at h1
    simp only [Option.getD_some] at h1
    simp only [O8, List.getElem?_map, List.getD_eq_getElem?_getD]
    rw [List.getElem?_eq_getElem (by omega : p < ord.length)]
    simp only [Option.map_some, Option.getD_some]
    rw [List.getElem?_eq_getElem h1]
    simp
  obtain ⟨Φ, _, hW⟩ := Gw P ops.toList T B N6 _ _ 0 (l0.map .val) [] [] (by intro e he j hj; simp only [List.mem_map] at he; obtain ⟨v, _, rfl⟩ := he; cases hj) (by simp) (by simp [Zm]) h
  obtain ⟨hnd, hlen, hresp⟩ := Q1S b ops t he (fun m => by cases m <;> exact ⟨_, by assumption⟩)
  have hltL := Tu b ops t
  generalize Region.schedule b ops t = L0 at hnd hlen hresp hltL ⊢
  have hmemord : ∀ i, i < ops.toList.length → i ∈ ord := fun i hi => by simpa using List.all_eq_true.1 hoall i (by simpa using hi)
  have hidx : ∀ i, i < ops.toList.length → ord.idxOf i < ops.toList.length ∧ ord.getD (ord.idxOf i) 0 = i := by
    intro i hi
    have h1 := List.idxOf_lt_length_of_mem (hmemord i hi)
    refine ⟨by omega, ?_⟩
    simp only [List.getD_eq_getElem?_getD]
    rw [List.getElem?_eq_getElem h1]
    simp
  have hidx2 : ∀ p, p < ops.toList.length → ord.idxOf (ord.getD p 0) = p := by
    intro p hp
    simp only [List.getD_eq_getElem?_getD]
    rw [List.getElem?_eq_getElem (by omega : p < ord.length)]
    simp only [Option.getD_some]
    exact List.Nodup.idxOf_getElem hon' p (by omega)
  have hno : ∀ p q, p < q → q < ops.toList.length → Uo ops.toList ord q p = false := by
    intro p q hpq hq
    have := List.all_eq_true.1 (List.all_eq_true.1 horesp q (by simpa using hq)) p (by simpa using hpq)
    simpa using this
  have hfm : L0.filterMap (ops[·]?) = (L0.map (ord.idxOf ·)).filterMap ((O8 ops.toList ord)[·]?) := by
    rw [List.filterMap_map]
    refine Dr fun i hi => ?_
    have := hltL i hi
    have h1 := hidx i (by simpa using this)
    simp only [Function.comp]
    rw [hosget _ h1.1, h1.2]
    simp
  rw [hfm]
  obtain ⟨hcut1, hcut2⟩ := Q5o ops.toList ord ops.toList.length
  refine Q9P (os := O8 ops.toList ord) (m := Nt ops.toList ord ops.toList.length) (T := T) (B := B) (Φ := Φ) (Uo ops.toList ord) ?_ hn (fun d hm => by simpa using List.all_eq_true.1 hd d hm) ?_ ?_ (by omega)
    (fun q hq hql p hp => hcut2 q hq (by omega) p hp) hT hW (L0.map (ord.idxOf ·)) ?_ (by simp [hlen, hol, O8]) ?_ ?_ _ [] rfl (by simp) l0 (fun _ => undef) w
    ⟨rfl, by simp, fun _ _ => rfl, by simp⟩ hw (by simp)
  · intro o ho
    simp only [O8, List.mem_map] at ho
    obtain ⟨i, hi, rfl⟩ := ho
    have hil : i < ops.toList.length := by simpa using List.all_eq_true.1 holt i hi
    simp only [Uh, List.all_eq_true, Bool.and_eq_true] at he
    have := (he (ops.toList[i], i) (by rw [List.mem_zipIdx_iff_getElem?]; simpa using hil)).1.1
    rw [List.getD_eq_getElem?_getD, List.getElem?_eq_getElem hil]
    exact this
  · intro p q a b' hpq ha hb hcc
    have hp : p < ops.toList.length := by have := (List.getElem?_eq_some_iff.1 ha).1; omega
    have hq : q < ops.toList.length := by have := (List.getElem?_eq_some_iff.1 hb).1; omega
    rw [hosget p hp] at ha
    rw [hosget q hq] at hb
    have hcl : ∀ i i' x x', i < i' → ops.toList[i]? = some x → ops.toList[i']? = some x' → (Ng x x' || Ng x' x) = true → ((Ki ops.toList []).getD i' 0).testBit i = true := by
      intro i i' x x' hlt hx hx' hcc
      simp only [Q4j, List.all_eq_true] at hc
      have := hc (x', i') (by rw [List.mem_zipIdx_iff_getElem?]; simpa using hx') (x, i) (by rw [List.mem_zipIdx_iff_getElem?]; simpa using hx)
      simp only [hlt, hcc, decide_true, Bool.not_true, Bool.false_or, Bool.or_self] at this
      exact this
    have hneq : ord.getD p 0 ≠ ord.getD q 0 := by
      intro e
      have := hidx2 p hp
      rw [e, hidx2 q hq] at this
      omega
    rcases Nat.lt_or_gt_of_ne hneq with h | h
    · exact hcl _ _ a b' h ha hb hcc
    · have h1 := hcl _ _ b' a h hb ha (by rw [Bool.or_comm]; exact hcc)
      have h2 := hno p q hpq hq
      unfold Uo at h2
      rw [h1] at h2; cases h2
  · intro q o j b' hq hgd
    have hql : q < ops.toList.length := by have := (List.getElem?_eq_some_iff.1 hq).1; omega
    rw [hosget q hql] at hq
    have hjin : j ∈ F3 ops.toList (ord.getD q 0) := by
      have he2 := he
      simp only [Uh, List.all_eq_true, Bool.and_eq_true] at he2
      have := (he2 (o, ord.getD q 0) (by rw [List.mem_zipIdx_iff_getElem?]; simpa using hq)).2
      rw [hgd] at this
      simp only [List.any_eq_true] at this
      obtain ⟨e, hem, hek⟩ := this
      unfold F3
      rw [hq]
      simp only [Option.map_some, Option.getD_some, List.mem_map]
      exact ⟨e, hem, by simpa using hek⟩
    have hjl := Bx he _ (hordlt q hql) j hjin
    have hj : j < ops.toList.length := by have := hordlt q hql; omega
    have hb := Q3g (ops := ops.toList) ops.toList [] (by simp) (by simp) (by intro j k hj; simp at hj) _ j (hordlt q hql) hjin
    obtain ⟨h1, h2⟩ := hidx j hj
    have hbit : Uo ops.toList ord (ord.idxOf j) q = true := by unfold Uo; rw [h2]; exact hb
    refine ⟨ord.idxOf j, ?_, by rw [hosget _ h1, h2], hbit⟩
    rcases Nat.lt_trichotomy (ord.idxOf j) q with h | h | h
    · exact h
    · rw [← h, h2] at hjl; omega
    · have := hno q _ h h1
      rw [hbit] at this; cases this
  · refine List.pairwise_map.2 (hnd.imp_of_mem ?_)
    intro x y hx hy hne hxy
    have h1 := (hidx x (by simpa using hltL x hx)).2
    have h2 := (hidx y (by simpa using hltL y hy)).2
    exact hne (by rw [← h1, ← h2, hxy])
  · intro q hq
    simp only [List.mem_map] at hq
    obtain ⟨i, hi, rfl⟩ := hq
    have := (hidx i (by simpa using hltL i hi)).1
    omega
  · intro pre q post hL p hb hp
    rw [List.map_eq_append_iff] at hL
    obtain ⟨pre0, rest0, hL0, hpre, hrest⟩ := hL
    rw [List.map_eq_cons_iff] at hrest
    obtain ⟨i, post0, hr, hi, hpost⟩ := hrest
    subst hr hi hpre
    have hil : i < ops.toList.length := by simpa using hltL i (by rw [hL0]; simp)
    obtain ⟨h1, h2⟩ := hidx i hil
    unfold Uo at hb
    rw [h2] at hb
    have hp' : p < ops.toList.length := by omega
    have := Q2Z he hresp i hil (ord.getD p 0) pre0 post0 hL0 hb
    rw [List.mem_map]
    exact ⟨ord.getD p 0, this, hidx2 p hp'⟩
def Q27 : List Ent → Nat → Ent → (List Ent → Prop) → Prop
  | [], _, _, k => k []
  | _ :: l, 0, e, k => k (e :: l)
  | x :: l, n + 1, e, k => Q27 l n e (fun l' => k (x :: l'))
def Q2b (S : List Ent) (d : Option Nat) (e : Ent) (k : List Ent → Prop) : Prop :=
  match d with
  | some d => Q27 S d e k
  | none => k S
def Q5m : List Ent → Nat → (Ent → Prop) → Prop
  | [], _, k => k (.val undef)
  | x :: _, 0, k => k x
  | _ :: l, n + 1, k => Q5m l n k
def Q6i (S : List Ent) (x : Operand) (k : Ent → Prop) : Prop :=
  match x with
  | .tmp t => Q5m S t k
  | .const v => k (.val v)
  | .global g => k (.val (.pointer (some ⟨g, 0, none⟩)))
  | .func f => k (.val (.func (.func f) #[] #[]))
def Ps (u : Nat → Value) : List Ent → (List Value → Prop) → Prop
  | [], k => k []
  | .val v :: S, k => Ps u S (fun l => k (v :: l))
  | .ref j :: S, k => Ps u S (fun l => k (u j :: l))
def Q54 : List Value → (List Ent → Prop) → Prop
  | [], k => k []
  | v :: l, k => Q54 l (fun S => k (.val v :: S))
theorem Q3u : ∀ (S : List Ent) (n : Nat) (e : Ent) (k : List Ent → Prop), Q27 S n e k = k (Q03 S n e)
  | [], _, _, _ => rfl
  | _ :: _, 0, _, _ => rfl
  | _ :: l, n + 1, e, k => by simp only [Q27, Q03, Q3u l n e]
theorem Ap (S : List Ent) (d : Option Nat) (e : Ent) (k : List Ent → Prop) : Q2b S d e k = k (putE S d e) := by
  cases d with
  | none => rfl
  | some d => exact Q3u S d e k
theorem Q2J : ∀ (S : List Ent) (n : Nat) (k : Ent → Prop), Q5m S n k = k (getE S n)
  | [], _, _ => rfl
  | _ :: _, 0, _ => rfl
  | _ :: l, n + 1, k => Q2J l n k
theorem Q5U (S : List Ent) (x : Operand) (k : Ent → Prop) : Q6i S x k = k (entOf S x) := by
  cases x with
  | tmp t => exact Q2J S t k
  | _ => rfl
theorem Q02 (u : Nat → Value) : ∀ (S : List Ent) (k : List Value → Prop), Ps u S k = k (G4 u S)
  | [], _ => rfl
  | .val v :: S, k => by simp only [Ps, Q02 u S]; rfl
  | .ref j :: S, k => by simp only [Ps, Q02 u S]; rfl
theorem Q4z : ∀ (l : List Value) (k : List Ent → Prop), Q54 l k = k (l.map .val)
  | [], _ => rfl
  | v :: l, k => by simp only [Q54, Q4z l]; rfl
noncomputable def Df (P : Program) (ops : List Oper) (T : World → World → Prop) (B : World → Prop) (N6 : List Value → World → Prop) (tail : List Oper) : Nat → List Oper → List Ent → Dl → List Nat → Prop
  | _, [], S, φs, done => Cv done (fun _ => undef) fun u => ∀ w, B w → Tc φs u w (Ps u S fun l => T0 P ops N6 tail l w) done
  | i, o :: rest, S, φs, done =>
    match mv o with
    | some x => Q6i S x fun e => Q2b S o.dst e fun S => Df P ops T B N6 tail (i + 1) rest S φs done
    | none => match Q7h o with
      | true => Q2G T (fun φ => Cv (refs ops S o) (fun _ => undef) fun u => ∀ w, B w → Bf φs u w (runOp P ops (G4 u S) o w (dk T (φ ((refs ops S o).map u)) w)) (refs ops S o))
        (fun φ => Q2b S o.dst (.ref i) fun S' => Df P ops T B N6 tail (i + 1) rest S' (φs ++ [(i, refs ops S o, φ)]) (done ++ [i]))
      | false => Q7 T (fun φ => Cv (refs ops S o) (fun _ => undef) fun u => ∀ w, B w → Bf φs u w (runOp P ops (G4 u S) o w (dk T φ w)) (refs ops S o))
        (fun φ => Q2b S o.dst (.ref i) fun S' => Df P ops T B N6 tail (i + 1) rest S' (φs ++ [(i, [], fun _ => φ)]) (done ++ [i]))
theorem Ey (P : Program) (ops : List Oper) (T : World → World → Prop) (B : World → Prop) (N6 : List Value → World → Prop) (tail : List Oper) : ∀ (rest : List Oper) (i : Nat) (S : List Ent) (φs : Dl) (done : List Nat),
    Df P ops T B N6 tail i rest S φs done = chain P ops T B N6 tail i rest S φs done
  | [], i, S, φs, done => by simp only [Df, chain, Q02]
  | o :: rest, i, S, φs, done => by
    simp only [Df, chain]
    split
    · rw [Q5U, Ap, Ey]
    · split
      · congr 1
        funext φ
        rw [Ap, Ey]
      · congr 1
        funext φ
        rw [Ap, Ey]
noncomputable def Q7l (P : Program) (ops : List Oper) (N6 : List Value → World → Prop) (l : List Value) (w : World) : Prop :=
  dr w fun T B => Q54 l fun S => Df P ops T B N6 ((O8 ops (Jl ops)).drop (Nt ops (Jl ops) ops.length)) 0 ((O8 ops (Jl ops)).take (Nt ops (Jl ops) ops.length)) S [] []
def Pt (a b : List Nat) : Bool := a.all (b.contains ·) && b.all (a.contains ·)
theorem Dt {a b : List Nat} (h : Pt a b = true) (i : Nat) : a.contains i = b.contains i := by
  simp only [Pt, Bool.and_eq_true, List.all_eq_true] at h
  rw [Bool.eq_iff_iff]
  constructor
  · intro hi; exact h.1 i (by simpa using hi)
  · intro hi; exact h.2 i (by simpa using hi)
abbrev W2 := List (Option (List Nat × List Nat))
def W2.slots (ann : W2) : List (Option (List Nat)) := ann.map (·.map (·.1))
theorem W2.slots_get (ann : W2) (k : Nat) : ann.slots.getD k none = (ann.getD k none).map (·.1) := by
  simp only [W2.slots, List.getD_eq_getElem?_getD, List.getElem?_map]
  cases ann[k]? <;> rfl
noncomputable def Jp (P : Program) (ann : W2) (sl0 : List (Option (List Nat))) : Nat → Code → Ms → List Value → World → Prop
  | _, .skip, Q, l, w => Q .normal l w
  | _, .label _, Q, l, w => Q .normal l w
  | _, .exit id, Q, l, w => Q (.exit id) l w
  | _, .ret, Q, l, w => Q .ret l w
  | _, .region _ ops false, Q, l, w => T0 P ops.toList (fun l w => Q .normal l w) ops.toList l w
  | _, .region _ ops true, Q, l, w => match Q2z ops.toList l.length with
    | true => Q7l P ops.toList (fun l w => Q .normal l w) l w
    | false => False
  | k, .seq x y, Q, l, w => match ann.getD k none with
    | none => Jp P ann sl0 (k + 1) x (Af (fun l w => Jp P ann sl0 (k + 1 + G8 x) y Q l w) Q) l w
    | some (sl, wr) => match Pt wr (M3 sl0 (k + 1) x) with
      | true => jn w (fun J w => Jp P ann sl0 (k + 1) x (Af (fun l' w' => J (Wr l' sl) w') Q) l w)
        (fun z d w => Rr sl wr z d 0 l fun l => Jp P ann sl0 (k + 1 + G8 x) y Q l w)
      | false => False
  | k, .cond c x y, Q, l, w => X1 (ev l c) (Jp P ann sl0 k x Q l w) (Jp P ann sl0 (k + G8 x) y Q l w)
  | k, .block id c, Q, l, w => Jp P ann sl0 k c (Q0d id Q) l w
  | k, .loop c, Q, l, w => match ann.getD k none with
    | none => False
    | some (sl, wr) => match Pt wr (M3 sl0 (k + 1) c) with
      | true => lp (Wr l sl) w (fun again x d w => Rr sl wr x d 0 l fun l => Jp P ann sl0 (k + 1) c (Af (fun l' w' => again (Wr l' sl) w') Q) l w)
      | false => False
  | _, _, _, _, _ => False
theorem Kh {next next' : List Value → World → Prop} {Q Q' : Ms} (hn : ∀ l w, next l w → next' l w) (hq : ∀ e l w, Q e l w → Q' e l w) : ∀ e l w, Af next Q e l w → Af next' Q' e l w := by
  intro e l w h; cases e <;> first | exact hn _ _ h | exact hq _ _ _ h
theorem Q7f (P : Program) (ann : W2) (c : Code) : ∀ (k : Nat) (Q Q' : Ms) (l : List Value) (w : World), (∀ e l w, Q e l w → Q' e l w) →
    Jp P ann ann.slots k c Q l w → Ld P ann.slots k c Q' l w := by
  induction c with
  | skip => intro k Q Q' l w hq h; exact hq _ _ _ h
  | label n => intro k Q Q' l w hq h; exact hq _ _ _ h
  | exit id => intro k Q Q' l w hq h; exact hq _ _ _ h
  | ret => intro k Q Q' l w hq h; exact hq _ _ _ h
  | goto n => intro k Q Q' l w hq h; exact h.elim
  | refuse s => intro k Q Q' l w hq h; exact h.elim
  | scope c => intro k Q Q' l w hq h; exact h.elim
  | rangeFunc f p a b => intro k Q Q' l w hq h; exact h.elim
  | region id ops draw =>
    intro k Q Q' l w hq h
    cases draw with
    | true =>
      simp only [Jp] at h
      split at h
      · rename_i hok
        simp only [Q7l, Q7x, Q4O, Q4z, Ey] at h
        obtain ⟨T, B, h0, hT, h⟩ := h
        intro t
        have hd := Q88 P ops T B _ l hok hT h (P.follows .mixedOrders) t w.drew h0
        refine Xy P _ _ _ (D5 ops.toList) l _ _ _ ?_ (C6.refl _ _) (fun l w hn _ => hq _ _ _ hn) hd
        intro o ho d hd
        simp only [List.mem_filterMap] at ho
        obtain ⟨i, _, hi⟩ := ho
        simp only [D5, List.contains_eq_mem, List.mem_filterMap, decide_eq_true_eq]
        exact ⟨o, by simpa using Array.mem_of_getElem? hi, hd⟩
      · exact h.elim
    | false =>
      simp only [Jp] at h
      rw [Q0C] at h
      refine Xy P _ _ _ (D5 ops.toList) l _ _ _ ?_ (C6.refl _ _) (fun l w hn _ => hq _ _ _ hn) h
      intro o ho d hd
      simp only [D5, List.contains_eq_mem, List.mem_filterMap, decide_eq_true_eq]
      exact ⟨o, ho, hd⟩
  | seq x y ihx ihy =>
    intro k Q Q' l w hq h
    simp only [Jp, Ld] at h ⊢
    rw [W2.slots_get]
    split at h
    · rename_i hk
      simp only [hk, Option.map_none]
      exact ihx _ _ _ _ _ (Kh (fun l w h => ihy _ _ _ _ _ hq h) hq) h
    · rename_i sl wr hk
      simp only [hk, Option.map_some]
      split at h
      · rename_i hs
        obtain ⟨J, h1, h2⟩ := Q2N h
        refine Ve J (ihx _ _ _ _ _ (Kh (fun l w h => h) hq) h1) fun z d w hz => ?_
        have h3 := h2 z d w hz
        rw [Q1P, Eo _ _ _ (Dt hs)] at h3
        exact ihy _ _ _ _ _ hq h3
      · exact h.elim
  | cond c x y ihx ihy =>
    intro k Q Q' l w hq h
    exact Q1L (ihx k _ _ _ _ hq) (ihy _ _ _ _ _ hq) h
  | block id c ih =>
    intro k Q Q' l w hq h
    refine ih k _ _ _ _ ?_ h
    intro e l' w' h'
    cases e with
    | exit id' => simp only [Q0d] at h' ⊢; split <;> rename_i hid <;> simp only [hid, if_true, if_false] at h' <;> exact hq _ _ _ h'
    | _ => exact hq _ _ _ h'
  | loop c ih =>
    intro k Q Q' l w hq h
    simp only [Jp, Ld] at h ⊢
    split at h
    · exact h.elim
    · rename_i sl wr hk
      have hsl : (ann.slots.getD k none).getD [] = sl := by rw [W2.slots_get, hk]; rfl
      split at h
      · rename_i hs
        subst hsl
        refine Q1O (fun again x d w hb => ?_) h
        rw [Q1P, Eo _ _ _ (Dt hs)] at hb
        exact ih _ _ _ _ _ (Kh (fun l w h => h) hq) hb
      · exact h.elim
def Q0j (P : Program) (t : TypeId) (a : Value) (w : World) (K : Value → Prop) : Prop := ∃ v, (do loadVar t (← asAddr a) : Sem Value).run P w = .ok v w ∧ K v
theorem Q04 : ∃ f : Program → TypeId → Value → World → (Value → Prop) → Prop, f = Q0j := ⟨_, rfl⟩
noncomputable def N2 : Program → TypeId → Value → World → (Value → Prop) → Prop := Classical.choose Q04
theorem Q0l : N2 = Q0j := Classical.choose_spec Q04
noncomputable def Q3m (P : Program) (l : List Value) (K : List Value → World → Prop) : List ResultVar → List Value → World → Prop
  | [], acc, w => K acc.reverse w
  | .tmp t :: rs, acc, w => Q3m P l K rs (get l t :: acc) w
  | .cell a t :: rs, acc, w => N2 P t (get l a) w fun v => Q3m P l K rs (v :: acc) w
def Q0I : List Value → Value
  | [v] => v
  | vs => .tuple vs.toArray
noncomputable def results (P : Program) (rs : List ResultVar) (K : Value → World → Prop) (l : List Value) (w : World) : Prop :=
  Q3m P l (fun vs w => K (Q0I vs) w) rs [] w
noncomputable def Q57 (P : Program) (fn : Func) (K : Value → World → Prop) : Ms
  | .normal, l, w | .ret, l, w => results P fn.results.toList K l w
  | _, _, _ => False
def Q73 (K : Value → World → Prop) (e : Ending) (w : World) : Prop := match e with | .returned v => K v w | _ => False
theorem Q3j (a : Array Value) (t : Nat) : a.getD t undef = get a.toList t := by
  simp [get, List.getD_eq_getElem?_getD]
theorem Q6A (vs : List Value) : (if h : vs.toArray.size = 1 then vs.toArray[0] else Value.tuple vs.toArray) = Q0I vs := by
  match vs with
  | [] => rfl
  | [v] => rfl
  | _ :: _ :: _ => rfl
theorem Q01 (P : Program) (l : List Value) (K : List Value → World → Prop) (f : ResultVar → Sem Value)
    (hf1 : ∀ t, f (.tmp t) = Pure.pure (get l t)) (hf2 : ∀ a t, f (.cell a t) = (do loadVar t (← asAddr (get l a)))) : ∀ (rs : List ResultVar) (acc : List Value) (w : World), Q3m P l K rs acc w →
    ∃ vs, (rs.mapM f).run P w = .ok vs w ∧ K (acc.reverse ++ vs) w
  | [], acc, w, h => ⟨[], by simp, by rw [List.append_nil]; exact h⟩
  | .tmp t :: rs, acc, w, h => by
    obtain ⟨vs, h1, h2⟩ := Q01 P l K f hf1 hf2 rs _ w h
    refine ⟨get l t :: vs, ?_, by simpa using h2⟩
    rw [List.mapM_cons, hf1]
    simp [h1]
  | .cell a t :: rs, acc, w, h => by
    simp only [Q3m, Q0l] at h
    obtain ⟨v, hv, h⟩ := h
    obtain ⟨vs, h1, h2⟩ := Q01 P l K f hf1 hf2 rs _ w h
    refine ⟨v :: vs, ?_, by simpa using h2⟩
    rw [List.mapM_cons, hf2, Sem.run_bind, hv]
    simp [h1]
def Q94 (a : Array Value) : ResultVar → Sem Value
  | .tmp t => Pure.pure (a.getD t undef)
  | .cell b t => do loadVar t (← asAddr (a.getD b undef))
theorem Q31 (fn : Func) (a : Array Value) : Go.results fn a = (do
  let vs ← fn.results.mapM (Q94 a)
  Pure.pure (if h : vs.size = 1 then vs[0] else .tuple vs)) := by
  unfold Go.results
  congr 1
theorem Ab (P : Program) (fn : Func) (K : Value → World → Prop) (a : Array Value) (w : World) (h : results P fn.results.toList K a.toList w) :
    ∃ v, (Go.results fn a).run P w = .ok v w ∧ K v w := by
  rw [Q31, Array.mapM_eq_mapM_toList]
  obtain ⟨vs, h1, h2⟩ := Q01 P a.toList (fun vs w => K (Q0I vs) w) (Q94 a) (fun t => by rw [← Q3j]; rfl) (fun a' t => by rw [← Q3j]; rfl) fn.results.toList [] w h
  refine ⟨Q0I vs, ?_, by simpa using h2⟩
  rw [Sem.run_bind, Sem.run_map, h1]
  simp only [Result.andThen_ok, Sem.run_pure, Q6A]
def Km (fn : Func) (args : List Value) : List Value := args ++ List.replicate (fn.ntmps - args.length) undef
theorem Q2T {P : Program} {f : FuncId} {fn : Func} {c : Code} {args : List Value} {w : World} {K : Value → World → Prop} (ann : List (Option (List Nat)))
    (hf : P.funcs[f]? = some fn) (hb : fn.body = some c) (h : Ld P ann 0 c (Q57 P fn K) (Km fn args) w) : Calls P f args.toArray w (Q73 K) := by
  refine calls_of_wp hf hb (wp_mono (Q5N P ann c 0 (Q57 P fn K) _ w rfl ?_) ?_)
  · have : (args.toArray ++ Array.replicate (fn.ntmps - args.toArray.size) undef).toList = Km fn args := by simp [Km]
    simp only [this]; exact h
  · intro e a w ⟨hd, hq⟩
    cases e with
    | normal => exact ⟨hd, Ab P fn K _ _ hq⟩
    | ret => exact ⟨hd, Ab P fn K _ _ hq⟩
    | _ => exact hq.elim
theorem Jq {P : Program} {f : FuncId} {fn : Func} {args : List Value} {w : World} {K : Value → World → Prop}
    (hf : P.funcs[f]? = some fn) (hb : fn.body.isSome = true) (hn : (fn.name == "runtime.NumGoroutine") = false) (h : Calls P f args.toArray w (Q73 K)) : Q1 P f args w K := by
  have hr : (callFunc f args.toArray).run P w = .ok (.enter f args.toArray) w := by
    unfold callFunc
    simp only [Sem.run_bind, run_program, Result.andThen_ok, hf, hn, Bool.false_eq_true, if_false]
    cases hbo : fn.body with
    | none => rw [hbo] at hb; cases hb
    | some c => simp
  unfold Q1
  rw [Ze]
  unfold Xm
  rw [hr]
  refine h.mono fun e w' he => ?_
  cases e <;> exact he
theorem Q0R {P : Program} {f : FuncId} {fn : Func} {args : List Value} {w : World} {K : Value → World → Prop}
    (hf : P.funcs[f]? = some fn) (hb : fn.body.isSome = true) (hn : (fn.name == "runtime.NumGoroutine") = false) (h : Q1 P f args w K) : Calls P f args.toArray w (Q73 K) := by
  have hr : (callFunc f args.toArray).run P w = .ok (.enter f args.toArray) w := by
    unfold callFunc
    simp only [Sem.run_bind, run_program, Result.andThen_ok, hf, hn, Bool.false_eq_true, if_false]
    cases hbo : fn.body with
    | none => rw [hbo] at hb; cases hb
    | some c => simp
  unfold Q1 at h
  rw [Ze] at h
  unfold Xm at h
  rw [hr] at h
  refine Calls.mono h fun e w' he => ?_
  cases e <;> exact he
theorem Q7Z {P : Program} {f : FuncId} {fn : Func} {args : List Value} {w : World} {K : Value → World → Prop} (ann : W2)
    (hf : P.funcs[f]? = some fn) (hb : fn.body.isSome = true) (hn : (fn.name == "runtime.NumGoroutine") = false)
    (h : Jp P ann ann.slots 0 (fn.body.getD .skip) (Q57 P fn K) (Km fn args) w) : Q1 P f args w K := by
  refine Jq hf hb hn ?_
  obtain ⟨c, hc⟩ := Option.isSome_iff_exists.1 hb
  rw [hc] at h
  exact Q2T ann.slots hf hc (Q7f P ann c 0 _ _ _ _ (fun _ _ _ h => h) h)
theorem Q9 {P : Program} {f : FuncId} {fn : Func} {args : List Value} {w : World} {K : Value → World → Prop} {g : Prop} (ann : W2)
    (hf : P.funcs[f]? = some fn) (hb : fn.body.isSome = true) (hn : (fn.name == "runtime.NumGoroutine") = false)
    (he : g = Jp P ann ann.slots 0 (fn.body.getD .skip) (Q57 P fn K) (Km fn args) w) (h : g) : Q1 P f args w K :=
  Q7Z ann hf hb hn (he ▸ h)
theorem J4 {P : Program} {f : FuncId} {first caps : List Value} {args : List Value} {w : World} {K : Value → World → Prop} (h : Q1 P f (first ++ args ++ caps) w K) : Z7 P (.func (.func f) first.toArray caps.toArray) args w K := by
  simpa [Z7, Q1, Deferred.ofValue, invoke, pure_bind, List.append_toArray] using h
end Go.Emb

namespace Go.Proofs.YtdnfaboigajkhaaGreatDoor
noncomputable abbrev P : Program := Tryz.prog
namespace F
abbrev bB : Nat := 11
abbrev bo : Nat := 12
abbrev aw : Nat := 13
abbrev bK : Nat := 14
abbrev aJ : Nat := 15
abbrev a8 : Nat := 16
abbrev v : Nat := 18
abbrev bf : Nat := 19
abbrev ai : Nat := 20
abbrev aR : Nat := 22
abbrev w : Nat := 23
abbrev ax : Nat := 24
abbrev aZ : Nat := 25
abbrev aS : Nat := 26
abbrev aT : Nat := 27
abbrev bg : Nat := 28
abbrev bL : Nat := 29
abbrev b0 : Nat := 30
abbrev s : Nat := 31
abbrev bp : Nat := 32
abbrev bM : Nat := 33
abbrev ar : Nat := 34
abbrev b1 : Nat := 35
abbrev a2 : Nat := 36
abbrev b2 : Nat := 37
abbrev c1 : Nat := 38
abbrev bC : Nat := 39
abbrev f : Nat := 40
abbrev aU : Nat := 41
abbrev m : Nat := 42
abbrev b3 : Nat := 43
abbrev b4 : Nat := 44
abbrev aN : Nat := 45
abbrev b5 : Nat := 46
abbrev b : Nat := 47
abbrev aV : Nat := 48
abbrev ay : Nat := 49
abbrev aK : Nat := 50
abbrev aO : Nat := 51
abbrev aa : Nat := 52
abbrev cc : Nat := 53
abbrev t : Nat := 54
abbrev b6 : Nat := 55
abbrev ab : Nat := 56
abbrev bh : Nat := 57
abbrev a1 : Nat := 58
abbrev i : Nat := 59
abbrev aC : Nat := 60
abbrev d : Nat := 61
abbrev aD : Nat := 62
abbrev j : Nat := 63
abbrev bN : Nat := 64
abbrev n : Nat := 65
abbrev c4 : Nat := 66
abbrev aE : Nat := 67
abbrev aL : Nat := 68
abbrev az : Nat := 69
abbrev ad : Nat := 70
abbrev aB : Nat := 71
abbrev cg : Nat := 72
abbrev c7 : Nat := 73
abbrev c2 : Nat := 74
abbrev a0 : Nat := 75
abbrev a5 : Nat := 76
abbrev bD : Nat := 77
abbrev aP : Nat := 78
abbrev bE : Nat := 79
abbrev c : Nat := 80
abbrev u : Nat := 81
abbrev av : Nat := 82
abbrev ae : Nat := 83
abbrev af : Nat := 84
abbrev aI : Nat := 85
abbrev a : Nat := 86
abbrev aA : Nat := 87
abbrev bi : Nat := 88
abbrev b7 : Nat := 89
abbrev b8 : Nat := 90
abbrev aF : Nat := 91
abbrev bj : Nat := 92
abbrev cj : Nat := 93
abbrev bO : Nat := 94
abbrev ag : Nat := 95
abbrev ch : Nat := 96
abbrev c0 : Nat := 97
abbrev ac : Nat := 98
abbrev aj : Nat := 99
abbrev e : Nat := 100
abbrev h : Nat := 101
abbrev ck : Nat := 102
abbrev bk : Nat := 103
abbrev a9 : Nat := 107
abbrev bT : Nat := 108
abbrev bU : Nat := 109
abbrev a3 : Nat := 110
abbrev aG : Nat := 111
abbrev bV : Nat := 112
abbrev au : Nat := 113
abbrev bW : Nat := 114
abbrev ak : Nat := 115
abbrev bX : Nat := 116
abbrev al : Nat := 117
abbrev be : Nat := 118
abbrev bq : Nat := 119
abbrev ah : Nat := 120
abbrev aQ : Nat := 121
abbrev a6 : Nat := 122
abbrev a7 : Nat := 123
abbrev r : Nat := 124
abbrev bF : Nat := 125
abbrev q : Nat := 126
abbrev x : Nat := 127
abbrev bJ : Nat := 128
abbrev aq : Nat := 129
abbrev bl : Nat := 132
abbrev b9 : Nat := 133
abbrev bA : Nat := 134
abbrev bP : Nat := 135
abbrev aH : Nat := 136
abbrev am : Nat := 139
abbrev bQ : Nat := 140
abbrev bY : Nat := 141
abbrev g : Nat := 142
abbrev bG : Nat := 143
abbrev bu : Nat := 144
abbrev bv : Nat := 145
abbrev br : Nat := 146
abbrev aX : Nat := 147
abbrev an : Nat := 148
abbrev aY : Nat := 149
abbrev c8 : Nat := 150
abbrev ao : Nat := 151
abbrev aM : Nat := 152
abbrev a4 : Nat := 153
abbrev bH : Nat := 157
abbrev c5 : Nat := 158
abbrev bI : Nat := 159
abbrev bR : Nat := 160
abbrev k : Nat := 163
abbrev bw : Nat := 164
abbrev bS : Nat := 165
abbrev cd : Nat := 166
abbrev l : Nat := 167
abbrev bx : Nat := 168
abbrev ba : Nat := 169
abbrev cl : Nat := 173
abbrev bZ : Nat := 174
abbrev y : Nat := 175
abbrev ce : Nat := 176
abbrev bs : Nat := 177
abbrev c6 : Nat := 178
abbrev cf : Nat := 179
abbrev c9 : Nat := 180
abbrev z : Nat := 181
abbrev bb : Nat := 182
abbrev bc : Nat := 183
abbrev bd : Nat := 184
abbrev ap : Nat := 185
abbrev p : Nat := 186
abbrev ci : Nat := 187
abbrev c3 : Nat := 190
abbrev aW : Nat := 191
abbrev bm : Nat := 192
abbrev bz : Nat := 193
abbrev bn : Nat := 194
abbrev ca : Nat := 195
abbrev bt : Nat := 196
abbrev o : Nat := 197
abbrev cb : Nat := 198
end F
namespace T
abbrev x : Nat := 0
abbrev af : Nat := 2
abbrev d : Nat := 3
abbrev l : Nat := 4
abbrev s : Nat := 5
abbrev b : Nat := 9
abbrev ak : Nat := 12
abbrev ac : Nat := 21
abbrev g : Nat := 22
abbrev p : Nat := 25
abbrev t : Nat := 26
abbrev u : Nat := 33
abbrev ah : Nat := 37
abbrev h : Nat := 39
abbrev i : Nat := 45
abbrev f : Nat := 46
abbrev k : Nat := 47
abbrev j : Nat := 48
abbrev c : Nat := 50
abbrev e : Nat := 55
abbrev a : Nat := 57
abbrev a2 : Nat := 60
abbrev z : Nat := 64
abbrev r : Nat := 67
abbrev q : Nat := 69
abbrev v : Nat := 74
abbrev y : Nat := 78
abbrev w : Nat := 80
abbrev a6 : Nat := 87
abbrev ad : Nat := 96
abbrev ae : Nat := 103
abbrev o : Nat := 105
abbrev a4 : Nat := 108
abbrev a1 : Nat := 112
abbrev m : Nat := 123
abbrev ai : Nat := 125
abbrev aa : Nat := 127
abbrev a0 : Nat := 136
abbrev n : Nat := 141
abbrev al : Nat := 150
abbrev a7 : Nat := 152
abbrev a8 : Nat := 155
abbrev a3 : Nat := 170
abbrev a5 : Nat := 171
abbrev aj : Nat := 177
abbrev a9 : Nat := 179
abbrev ab : Nat := 180
abbrev ag : Nat := 182
abbrev am : Nat := 186
abbrev an : Nat := 188
end T
namespace G
abbrev b : Nat := 0
abbrev c : Nat := 1
abbrev a : Nat := 2
abbrev e : Nat := 3
abbrev d : Nat := 4
end G
end Go.Proofs.YtdnfaboigajkhaaGreatDoor

set_option maxRecDepth 100000
namespace Go.Proofs.YtdnfaboigajkhaaGreatDoor
open Go.Emb
def Ks : W2 := [none, none, none, none, none, none, some ([3], [2, 3, 4, 5, 9, 10, 11, 12, 13, 14, 15, 16, 17, 18, 19, 20, 21, 22, 23, 24, 25, 26, 27, 28, 29, 30, 31, 32, 33, 34, 35, 36, 37, 38, 39, 40, 41, 42, 43, 44, 45, 46, 47, 48, 49, 50, 51, 52, 53, 54, 55, 56, 57, 58, 59, 60, 61, 62, 63, 64, 65, 66, 67, 68, 69]), none, none, none, none, none, none, none, none, some ([5], [2, 5, 35, 36, 37, 38, 39, 40, 41, 42, 43, 44, 45, 46, 47, 48, 49, 50, 51, 52, 53, 54, 55, 56, 57, 58, 59, 60, 61, 62, 63, 64, 65, 66, 67, 68, 69]), none, none, none, none, none, none]
def Ly (a0 : Value) (w : World) (K : Value → World → Prop) : Prop :=
 X4 P .len [T.g] T.d [false] [a0] w fun t7 w =>
 Q3 P .gtr T.d (.tmp 7) (.const (.int .i64 12)) t7 (.int .i64 12) w fun t8 w =>
 X1 t8 (
 K (.bool false) w) (
 lp (α := Value) (.int .i64 0) w fun again6 x6 d_ w =>
 X4 P .len [T.g] T.d [false] [a0] w fun t11 w =>
 Q3 P .lss T.d (.tmp 9) (.tmp 11) x6 t11 w fun t12 w =>
 X1 t12 (
 indexAddr P T.g a0 x6 w fun t17 w =>
 Q2 P T.a t17 w fun t18 w =>
 M0 P T.a w fun t4 w =>
 V5 P T.a t4 t18 w fun _u w =>
 fieldAddr P T.a t4 2 w fun t19 w =>
 Q2 P T.f t19 w fun t20 w =>
 X4 P .len [T.f] T.d [false] [t20] w fun t21 w =>
 Q3 P .gtr T.d (.tmp 21) (.const (.int .i64 6)) t21 (.int .i64 6) w fun t22 w =>
 Q0 t22 false w (fieldAddr P T.a t4 6) fun t24 w =>
 Q0 t22 false w (Q2 P T.h t24) fun t25 w =>
 Q0 t22 false w (X4 P .len [T.h] T.d [false] [t25]) fun t26 w =>
 Q0 t22 false w (Q3 P .gtr T.d (.tmp 26) (.const (.int .i64 6)) t26 (.int .i64 6)) fun t27 w =>
 pick P t22 (.bool true) t27 w fun t28 w =>
 Q0 t28 false w (fieldAddr P T.a t4 7) fun t30 w =>
 Q0 t28 false w (Q2 P T.e t30) fun t31 w =>
 Q0 t28 false w (X4 P .len [T.e] T.d [false] [t31]) fun t32 w =>
 Q0 t28 false w (Q3 P .gtr T.d (.tmp 32) (.const (.int .i64 6)) t32 (.int .i64 6)) fun t33 w =>
 pick P t28 (.bool true) t33 w fun t34 w =>
 X1 t34 (
 K (.bool false) w) (
 lp (α := Value) (.int .i64 0) w fun again15 x15 d_ w =>
 fieldAddr P T.a t4 7 w fun t36 w =>
 Q2 P T.e t36 w fun t37 w =>
 X4 P .len [T.e] T.d [false] [t37] w fun t38 w =>
 Q3 P .lss T.d (.tmp 35) (.tmp 38) x15 t38 w fun t39 w =>
 X1 t39 (
 fieldAddr P T.a t4 7 w fun t42 w =>
 Q2 P T.e t42 w fun t43 w =>
 indexAddr P T.e t43 x15 w fun t45 w =>
 fieldAddr P T.c t45 5 w fun t46 w =>
 Q2 P T.k t46 w fun t47 w =>
 X4 P .len [T.k] T.d [false] [t47] w fun t48 w =>
 Q3 P .gtr T.d (.tmp 48) (.const (.int .i64 50)) t48 (.int .i64 50) w fun t49 w =>
 Q0 t49 false w (fieldAddr P T.a t4 7) fun t51 w =>
 Q0 t49 false w (Q2 P T.e t51) fun t52 w =>
 Q0 t49 false w (fun w J => J x15 w) fun t53 w =>
 Q0 t49 false w (indexAddr P T.e t52 t53) fun t54 w =>
 Q0 t49 false w (fieldAddr P T.c t54 1) fun t55 w =>
 Q0 t49 false w (Q2 P T.f t55) fun t56 w =>
 Q0 t49 false w (X4 P .len [T.f] T.d [false] [t56]) fun t57 w =>
 Q0 t49 false w (Q3 P .gtr T.d (.tmp 57) (.const (.int .i64 8)) t57 (.int .i64 8)) fun t58 w =>
 pick P t49 (.bool true) t58 w fun t59 w =>
 Q0 t59 false w (fieldAddr P T.a t4 7) fun t61 w =>
 Q0 t59 false w (Q2 P T.e t61) fun t62 w =>
 Q0 t59 false w (fun w J => J x15 w) fun t63 w =>
 Q0 t59 false w (indexAddr P T.e t62 t63) fun t64 w =>
 Q0 t59 false w (fieldAddr P T.c t64 6) fun t65 w =>
 Q0 t59 false w (Q2 P T.j t65) fun t66 w =>
 Q0 t59 false w (X4 P .len [T.j] T.d [false] [t66]) fun t67 w =>
 Q0 t59 false w (Q3 P .gtr T.d (.tmp 67) (.const (.int .i64 8)) t67 (.int .i64 8)) fun t68 w =>
 pick P t59 (.bool true) t68 w fun t69 w =>
 X1 t69 (
 K (.bool false) w) (
 Q3 P .add T.d (.tmp 40) (.const (.int .i64 1)) x15 (.int .i64 1) w fun t41 w =>
 again15 t41 w)) (
 Q3 P .add T.d (.tmp 13) (.const (.int .i64 1)) x6 (.int .i64 1) w fun t14 w =>
 again6 t14 w))) (
 K (.bool true) w))
theorem Ic {a0 : Value} {w : World} {K : Value → World → Prop} (h : Ly a0 w K) : Q1 P F.bo [a0] w K := Q9 Ks Tryz.func12 rfl (by decide) (by kernel_rfl) h
def Q2v : W2 := [none, none, none, none, some ([1, 10], [1, 3, 10, 11, 12, 13, 14, 15, 16, 17, 18]), none, none, none, none, none]
def Gy (w : World) (K : Value → World → Prop) : Prop :=
 Qu P T.a [(0, (.string ⟨#[79, 98, 106, 101, 99, 116]⟩))] w fun t4 w =>
 Qu P T.i [(0, (.string ⟨#[119, 104, 97, 116]⟩)), (1, (.string ⟨#[116, 101, 120, 116]⟩))] w fun t5 w =>
 buildSlice P T.h 1 [(0, t5)] w fun t6 w =>
 Qu P T.a [(0, (.string ⟨#[70, 97, 117, 108, 116]⟩)), (1, (.string ⟨#[79, 98, 106, 101, 99, 116]⟩)), (6, t6)] w fun t7 w =>
 buildSlice P T.g 2 [(0, t4), (1, t7)] w fun t8 w =>
 Q2 P T.ad (.pointer (some ⟨G.b, 0, none⟩)) w fun t9 w =>
 lp (α := Value × Value) (t8, (.int .i64 0)) w fun again4 x4 d_ w =>
 Q3 P .lss T.d (.tmp 10) (.const (.int .i64 6)) x4.2 (.int .i64 6) w fun t11 w =>
 X1 t11 (
 E2 P T.ad t9 x4.2 w fun t12 w =>
 Qu P T.a [(0, t12), (1, (.string ⟨#[70, 97, 117, 108, 116]⟩)), (5, (.bool true))] w fun t15 w =>
 buildSlice P T.g 1 [(0, t15)] w fun t16 w =>
 X4 P .append [T.g, T.g] T.g [false, false] [x4.1, t16] w fun t17 w =>
 Q3 P .add T.d (.tmp 10) (.const (.int .i64 1)) x4.2 (.int .i64 1) w fun t18 w =>
 again4 (t17, t18) w) (
 K x4.1 w)
theorem Q3s {w : World} {K : Value → World → Prop} (h : Gy  w K) : Q1 P F.bL [] w K := Q9 Q2v Tryz.func29 rfl (by decide) (by kernel_rfl) h
def Q2O : W2 := [none, none, none, some ([8], [2, 4, 8, 9, 10, 11, 12, 13, 14, 15, 16, 17, 18, 19, 20, 21, 22, 23, 24, 25, 26, 27, 28, 29, 30, 31, 32, 33]), none, none, none, none, none, none, none]
def Kp (a0 : Value) (w : World) (K : Value → World → Prop) : Prop :=
 box P T.a a0 w fun v_c_1 w =>
 fieldAddr P T.a v_c_1 7 w fun t5 w =>
 Q2 P T.e t5 w fun t6 w =>
 X4 P .len [T.e] T.d [false] [t6] w fun t7 w =>
 lp (α := Value) (.int .i64 0) w fun again3 x3 d_ w =>
 Q3 P .lss T.d (.tmp 8) (.tmp 7) x3 t7 w fun t9 w =>
 X1 t9 (
 indexAddr P T.e t6 x3 w fun t10 w =>
 Q2 P T.c t10 w fun t11 w =>
 M0 P T.c w fun v_m_4 w =>
 V5 P T.c v_m_4 t11 w fun _u w =>
 fieldAddr P T.c v_m_4 1 w fun t12 w =>
 Q2 P T.f t12 w fun t13 w =>
 X4 P .len [T.f] T.d [false] [t13] w fun t14 w =>
 Q3 P .gtr T.d (.tmp 14) (.const (.int .i64 32)) t14 (.int .i64 32) w fun t15 w =>
 Q0 t15 false w (fieldAddr P T.c v_m_4 6) fun t17 w =>
 Q0 t15 false w (Q2 P T.j t17) fun t18 w =>
 Q0 t15 false w (X4 P .len [T.j] T.d [false] [t18]) fun t19 w =>
 Q0 t15 false w (Q3 P .gtr T.d (.tmp 19) (.const (.int .i64 32)) t19 (.int .i64 32)) fun t20 w =>
 pick P t15 (.bool true) t20 w fun t21 w =>
 Q0 t21 false w (fieldAddr P T.c v_m_4 5) fun t23 w =>
 Q0 t21 false w (Q2 P T.k t23) fun t24 w =>
 Q0 t21 false w (X4 P .len [T.k] T.d [false] [t24]) fun t25 w =>
 Q0 t21 false w (Q3 P .gtr T.d (.tmp 25) (.const (.int .i64 200)) t25 (.int .i64 200)) fun t26 w =>
 pick P t21 (.bool true) t26 w fun t27 w =>
 Q0 t27 false w (fieldAddr P T.c v_m_4 4) fun t29 w =>
 Q0 t27 false w (Q2 P T.d t29) fun t30 w =>
 Q0 t27 false w (Q3 P .gtr T.d (.tmp 30) (.const (.int .i64 64)) t30 (.int .i64 64)) fun t31 w =>
 pick P t27 (.bool true) t31 w fun t32 w =>
 X1 t32 (
 K (.bool true) w) (
 Q3 P .add T.d (.tmp 8) (.const (.int .i64 1)) x3 (.int .i64 1) w fun t33 w =>
 again3 t33 w)) (
 fieldAddr P T.a v_c_1 2 w fun t34 w =>
 Q2 P T.f t34 w fun t35 w =>
 X4 P .len [T.f] T.d [false] [t35] w fun t36 w =>
 Q3 P .gtr T.d (.tmp 36) (.const (.int .i64 32)) t36 (.int .i64 32) w fun t37 w =>
 Q0 t37 false w (fieldAddr P T.a v_c_1 6) fun t39 w =>
 Q0 t37 false w (Q2 P T.h t39) fun t40 w =>
 Q0 t37 false w (X4 P .len [T.h] T.d [false] [t40]) fun t41 w =>
 Q0 t37 false w (Q3 P .gtr T.d (.tmp 41) (.const (.int .i64 32)) t41 (.int .i64 32)) fun t42 w =>
 pick P t37 (.bool true) t42 w fun t43 w =>
 Q0 t43 false w (fieldAddr P T.a v_c_1 7) fun t45 w =>
 Q0 t43 false w (Q2 P T.e t45) fun t46 w =>
 Q0 t43 false w (X4 P .len [T.e] T.d [false] [t46]) fun t47 w =>
 Q0 t43 false w (Q3 P .gtr T.d (.tmp 47) (.const (.int .i64 32)) t47 (.int .i64 32)) fun t48 w =>
 pick P t43 (.bool true) t48 w fun t49 w =>
 K t49 w)
theorem Q3f {a0 : Value} {w : World} {K : Value → World → Prop} (h : Kp a0 w K) : Q1 P F.c7 [a0] w K := Q9 Q2O Tryz.func73 rfl (by decide) (by kernel_rfl) h
def T3 : W2 := [none, none, none, some ([8], [4, 5, 8, 9, 10, 11, 12, 13, 14, 15, 16, 17, 18]), none, none, none, none, none, none, none]
def H3 (a0 a1 : Value) (w : World) (K : Value → World → Prop) : Prop :=
 X4 P .len [T.e] T.d [false] [a0] w fun t7 w =>
 lp (α := Value) (.int .i64 0) w fun again3 x3 d_ w =>
 Q3 P .lss T.d (.tmp 8) (.tmp 7) x3 t7 w fun t9 w =>
 X1 t9 (
 indexAddr P T.e a0 x3 w fun t14 w =>
 Q2 P T.c t14 w fun t15 w =>
 Z7 P a1 [t15] w fun t16 w =>
 X1 t16 (
 K x3 w) (
 Q3 P .add T.d (.tmp 8) (.const (.int .i64 1)) x3 (.int .i64 1) w fun t18 w =>
 again3 t18 w)) (
 K (.int .i64 (-1)) w)
theorem T4 {a0 a1 : Value} {w : World} {K : Value → World → Prop} (h : H3 a0 a1 w K) : Q1 P F.h [a0, a1] w K := Q9 T3 Tryz.func101 rfl (by decide) (by kernel_rfl) h
def D8 (a0 a1 : Value) (w : World) (K : Value → World → Prop) : Prop :=
 Q1 P F.h [a0, a1] w fun t7 w =>
 Q3 P .geq T.d (.tmp 7) (.const (.int .i64 0)) t7 (.int .i64 0) w fun t8 w =>
 K t8 w
theorem G9 {a0 a1 : Value} {w : World} {K : Value → World → Prop} (h : D8 a0 a1 w K) : Q1 P F.a [a0, a1] w K := Q9 (List.replicate 2 none) Tryz.func86 rfl (by decide) (by kernel_rfl) h
def Q4P : W2 := [none, none, none, some ([], [4, 6, 9, 10, 11, 12, 13, 14, 15]), none, none, none, none, none, none]
def Q0r (a0 a1 : Value) (w : World) (K : Value → World → Prop) : Prop :=
 rng P T.b a0 w fun t8 w =>
 lp (α := Unit) () w fun again3 x3 d_ w =>
 N6 P t8 true T.x w fun t9 w =>
 ext P t9 0 w fun t10 w =>
 X1 t10 (
 ext P t9 2 w fun t11 w =>
 Z7 P a1 [t11] w fun t14 w =>
 U6 P .not t14 w fun t15 w =>
 X1 t15 (
 K (.bool false) w) (
 again3 () w)) (
 K (.bool true) w)
theorem Q4N {a0 a1 : Value} {w : World} {K : Value → World → Prop} (h : Q0r a0 a1 w K) : Q1 P F.c5 [a0, a1] w K := Q9 Q4P Tryz.func158 rfl (by decide) (by kernel_rfl) h
def Pg (a0 : Value) (w : World) (K : Value → World → Prop) : Prop :=
 Q3 P .geq T.ac (.tmp 3) (.const (.int .i32 65)) a0 (.int .i32 65) w fun t4 w =>
 Q0 t4 true w (fun w J => J a0 w) fun t6 w =>
 Q0 t4 true w (Q3 P .leq T.ac (.tmp 6) (.const (.int .i32 90)) t6 (.int .i32 90)) fun t7 w =>
 pick P t4 t7 (.bool false) w fun t8 w =>
 K t8 w
theorem Q2E {a0 : Value} {w : World} {K : Value → World → Prop} (h : Pg a0 w K) : Q1 P F.bP [a0] w K := Q9 (List.replicate 2 none) Tryz.func135 rfl (by decide) (by kernel_rfl) h
def Ix (a0 : Value) (w : World) (K : Value → World → Prop) : Prop :=
 Q3 P .geq T.ac (.tmp 3) (.const (.int .i32 97)) a0 (.int .i32 97) w fun t4 w =>
 Q0 t4 true w (fun w J => J a0 w) fun t6 w =>
 Q0 t4 true w (Q3 P .leq T.ac (.tmp 6) (.const (.int .i32 122)) t6 (.int .i32 122)) fun t7 w =>
 pick P t4 t7 (.bool false) w fun t8 w =>
 K t8 w
theorem Q38 {a0 : Value} {w : World} {K : Value → World → Prop} (h : Ix a0 w K) : Q1 P F.bR [a0] w K := Q9 (List.replicate 2 none) Tryz.func160 rfl (by decide) (by kernel_rfl) h
def Fj (a0 : Value) (w : World) (K : Value → World → Prop) : Prop :=
 Q1 P F.bP [a0] w fun t4 w =>
 Q0 t4 false w (fun w J => J a0 w) fun t6 w =>
 Q0 t4 false w (Q1 P F.bR [t6]) fun t7 w =>
 pick P t4 (.bool true) t7 w fun t8 w =>
 Q0 t8 false w (fun w J => J a0 w) fun t10 w =>
 Q0 t8 false w (Q3 P .geq T.ac (.tmp 10) (.const (.int .i32 48)) t10 (.int .i32 48)) fun t11 w =>
 Q0 t8 false w (fun w J => J t11 w) fun t12 w =>
 Q0 t12 true w (fun w J => J a0 w) fun t13 w =>
 Q0 t12 true w (Q3 P .leq T.ac (.tmp 13) (.const (.int .i32 57)) t13 (.int .i32 57)) fun t14 w =>
 Q0 t8 false w (pick P t12 t14 (.bool false)) fun t15 w =>
 pick P t8 (.bool true) t15 w fun t16 w =>
 K t16 w
theorem Q22 {a0 : Value} {w : World} {K : Value → World → Prop} (h : Fj a0 w K) : Q1 P F.bI [a0] w K := Q9 (List.replicate 2 none) Tryz.func159 rfl (by decide) (by kernel_rfl) h
def Ty (a0 : Value) (w : World) (K : Value → World → Prop) : Prop :=
 Q3 P .eql T.b (.tmp 3) (.const (.string ⟨#[]⟩)) a0 (.string ⟨#[]⟩) w fun t4 w =>
 Q0 t4 false w (fun w J => J a0 w) fun t6 w =>
 Q0 t4 false w (X4 P .len [T.b] T.d [false] [t6]) fun t7 w =>
 Q0 t4 false w (Q3 P .gtr T.d (.tmp 7) (.const (.int .i64 32)) t7 (.int .i64 32)) fun t8 w =>
 pick P t4 (.bool true) t8 w fun t9 w =>
 Q0 t9 false w (fun w J => J a0 w) fun t11 w =>
 Q0 t9 false w (E2 P T.b t11 (.int .i64 0)) fun t12 w =>
 Q0 t9 false w (Q3 P .geq T.s (.tmp 12) (.const (.int .u8 48)) t12 (.int .u8 48)) fun t13 w =>
 Q0 t9 false w (fun w J => J t13 w) fun t14 w =>
 Q0 t14 true w (fun w J => J a0 w) fun t15 w =>
 Q0 t14 true w (E2 P T.b t15 (.int .i64 0)) fun t16 w =>
 Q0 t14 true w (Q3 P .leq T.s (.tmp 16) (.const (.int .u8 57)) t16 (.int .u8 57)) fun t17 w =>
 Q0 t9 false w (pick P t14 t17 (.bool false)) fun t18 w =>
 pick P t9 (.bool true) t18 w fun t19 w =>
 X1 t19 (
 K (.bool false) w) (
 Q1 P F.c5 [a0, (.func (.func F.bI) #[] #[])] w fun t21 w =>
 K t21 w)
theorem Q4b {a0 : Value} {w : World} {K : Value → World → Prop} (h : Ty a0 w K) : Q1 P F.bA [a0] w K := Q9 (List.replicate 5 none) Tryz.func134 rfl (by decide) (by kernel_rfl) h
def Ik (a0 : Value) (w : World) (K : Value → World → Prop) : Prop :=
 Q1 P F.bA [a0] w fun t4 w =>
 Q0 t4 true w (fun w J => J a0 w) fun t6 w =>
 Q0 t4 true w (E2 P T.b t6 (.int .i64 0)) fun t7 w =>
 Q0 t4 true w (conv P T.s T.ac t7) fun t8 w =>
 Q0 t4 true w (Q1 P F.bP [t8]) fun t9 w =>
 pick P t4 t9 (.bool false) w fun t10 w =>
 K t10 w
theorem Q2p {a0 : Value} {w : World} {K : Value → World → Prop} (h : Ik a0 w K) : Q1 P F.ac [a0] w K := Q9 (List.replicate 2 none) Tryz.func98 rfl (by decide) (by kernel_rfl) h
def Vk : W2 := [none, none, none, some ([8], [4, 5, 8, 9, 10, 11, 12, 13, 14, 15, 16, 17, 18]), none, none, none, none, none, none, none]
def I4 (a0 a1 : Value) (w : World) (K : Value → World → Prop) : Prop :=
 X4 P .len [T.f] T.d [false] [a0] w fun t7 w =>
 lp (α := Value) (.int .i64 0) w fun again3 x3 d_ w =>
 Q3 P .lss T.d (.tmp 8) (.tmp 7) x3 t7 w fun t9 w =>
 X1 t9 (
 indexAddr P T.f a0 x3 w fun t14 w =>
 Q2 P T.b t14 w fun t15 w =>
 Q3 P .eql T.b (.tmp 11) (.tmp 15) a1 t15 w fun t16 w =>
 X1 t16 (
 K x3 w) (
 Q3 P .add T.d (.tmp 8) (.const (.int .i64 1)) x3 (.int .i64 1) w fun t18 w =>
 again3 t18 w)) (
 K (.int .i64 (-1)) w)
theorem Wl {a0 a1 : Value} {w : World} {K : Value → World → Prop} (h : I4 a0 a1 w K) : Q1 P F.am [a0, a1] w K := Q9 Vk Tryz.func139 rfl (by decide) (by kernel_rfl) h
def B7 (a0 a1 : Value) (w : World) (K : Value → World → Prop) : Prop :=
 Q1 P F.am [a0, a1] w fun t7 w =>
 Q3 P .geq T.d (.tmp 7) (.const (.int .i64 0)) t7 (.int .i64 0) w fun t8 w =>
 K t8 w
theorem Zt {a0 a1 : Value} {w : World} {K : Value → World → Prop} (h : B7 a0 a1 w K) : Q1 P F.a9 [a0, a1] w K := Q9 (List.replicate 2 none) Tryz.func107 rfl (by decide) (by kernel_rfl) h
def Ev (a0 : Value) (w : World) (K : Value → World → Prop) : Prop :=
 box P T.c a0 w fun v_m_1 w =>
 fieldAddr P T.c v_m_1 3 w fun t3 w =>
 Q2 P T.l t3 w fun t4 w =>
 K t4 w
theorem Q06 {a0 : Value} {w : World} {K : Value → World → Prop} (h : Ev a0 w K) : Q1 P F.bT [a0] w K := Q9 (List.replicate 2 none) Tryz.func108 rfl (by decide) (by kernel_rfl) h
def Ep (a0 : Value) (w : World) (K : Value → World → Prop) : Prop :=
 box P T.c a0 w fun v_m_1 w =>
 fieldAddr P T.c v_m_1 3 w fun t3 w =>
 Q2 P T.l t3 w fun t4 w =>
 U6 P .not t4 w fun t5 w =>
 K t5 w
theorem Q07 {a0 : Value} {w : World} {K : Value → World → Prop} (h : Ep a0 w K) : Q1 P F.bU [a0] w K := Q9 (List.replicate 2 none) Tryz.func109 rfl (by decide) (by kernel_rfl) h
def Zq : W2 := [none, none, none, some ([8], [4, 5, 8, 9, 10, 11, 12, 13, 14, 15, 16, 17, 18]), none, none, none, none, none, none, none]
def B2 (a0 a1 : Value) (w : World) (K : Value → World → Prop) : Prop :=
 X4 P .len [T.f] T.d [false] [a0] w fun t7 w =>
 lp (α := Value) (.int .i64 0) w fun again3 x3 d_ w =>
 Q3 P .lss T.d (.tmp 8) (.tmp 7) x3 t7 w fun t9 w =>
 X1 t9 (
 indexAddr P T.f a0 x3 w fun t14 w =>
 Q2 P T.b t14 w fun t15 w =>
 Z7 P a1 [t15] w fun t16 w =>
 X1 t16 (
 K x3 w) (
 Q3 P .add T.d (.tmp 8) (.const (.int .i64 1)) x3 (.int .i64 1) w fun t18 w =>
 again3 t18 w)) (
 K (.int .i64 (-1)) w)
theorem Zr {a0 a1 : Value} {w : World} {K : Value → World → Prop} (h : B2 a0 a1 w K) : Q1 P F.r [a0, a1] w K := Q9 Zq Tryz.func124 rfl (by decide) (by kernel_rfl) h
def S8 (a0 a1 : Value) (w : World) (K : Value → World → Prop) : Prop :=
 Q1 P F.r [a0, a1] w fun t7 w =>
 Q3 P .geq T.d (.tmp 7) (.const (.int .i64 0)) t7 (.int .i64 0) w fun t8 w =>
 K t8 w
theorem Xq {a0 a1 : Value} {w : World} {K : Value → World → Prop} (h : S8 a0 a1 w K) : Q1 P F.c [a0, a1] w K := Q9 (List.replicate 2 none) Tryz.func80 rfl (by decide) (by kernel_rfl) h
def Jf (a0 a1 : Value) (w : World) (K : Value → World → Prop) : Prop :=
 Q2 P T.u a1 w fun t4 w =>
 Z7 P t4 [a0] w fun t6 w =>
 U6 P .not t6 w fun t7 w =>
 K t7 w
theorem Ez {a0 a1 : Value} {w : World} {K : Value → World → Prop} (h : Jf a0 a1 w K) : Q1 P F.bQ [a0, a1] w K := Q9 (List.replicate 2 none) Tryz.func140 rfl (by decide) (by kernel_rfl) h
def Uu (a0 a1 : Value) (w : World) (K : Value → World → Prop) : Prop :=
 box P T.u a1 w fun v_is_3 w =>
 D0 P (.func F.bQ) [] [v_is_3] w fun t6 w =>
 Q1 P F.c [a0, t6] w fun t7 w =>
 U6 P .not t7 w fun t8 w =>
 K t8 w
theorem St {a0 a1 : Value} {w : World} {K : Value → World → Prop} (h : Uu a0 a1 w K) : Q1 P F.a3 [a0, a1] w K := Q9 (List.replicate 2 none) Tryz.func110 rfl (by decide) (by kernel_rfl) h
def Ju (a0 a1 a2 : Value) (w : World) (K : Value → World → Prop) : Prop :=
 dr w fun Tr Br =>
 Q7 Tr (fun φ5 => ∀ w, Br w → Q2 P T.a2 a1 w (dk Tr φ5 w)) fun φ5 =>
 Q7 Tr (fun φ7 => ∀ t5 w, Br w → φ5 t5 w → Z7 P t5 [a0] w (dk Tr φ7 w)) fun φ7 =>
 Q7 Tr (fun φ8 => ∀ w, Br w → Q2 P T.a2 a1 w (dk Tr φ8 w)) fun φ8 =>
 Q7 Tr (fun φ9 => ∀ w, Br w → Q2 P T.b a2 w (dk Tr φ9 w)) fun φ9 =>
 ∀ t5 t7 t8 t9 w, Br w → φ5 t5 w → φ7 t7 w → φ8 t8 w → φ9 t9 w → 
 Z7 P t8 [t9] w fun t10 w =>
 Q3 P .eql T.b (.tmp 7) (.tmp 10) t7 t10 w fun t11 w =>
 K t11 w
theorem Rp {a0 a1 a2 : Value} {w : World} {K : Value → World → Prop} (h : Ju a0 a1 a2 w K) : Q1 P F.bY [a0, a1, a2] w K := Q9 (List.replicate 2 none) Tryz.func141 rfl (by decide) (by kernel_rfl) h
def Ga : W2 := [none, none, none, some ([9], [4, 5, 6, 9, 10, 11, 12, 13, 14, 15, 16, 17, 18, 19]), none, none, none, none, none, none, none]
def La (a0 a1 : Value) (w : World) (K : Value → World → Prop) : Prop :=
 box P T.a2 a1 w fun v_name_3 w =>
 X4 P .len [T.f] T.d [false] [a0] w fun t8 w =>
 lp (α := Value) (.int .i64 0) w fun again3 x3 d_ w =>
 Q3 P .lss T.d (.tmp 9) (.tmp 8) x3 t8 w fun t10 w =>
 X1 t10 (
 indexAddr P T.f a0 x3 w fun t12 w =>
 Q2 P T.b t12 w fun t13 w =>
 M0 P T.b w fun v_x_6 w =>
 V5 P T.b v_x_6 t13 w fun _u w =>
 R7 P T.f a0 none (some x3) none w fun t16 w =>
 D0 P (.func F.bY) [] [v_name_3, v_x_6] w fun t17 w =>
 Q1 P F.c [t16, t17] w fun t18 w =>
 X1 t18 (
 K (.bool false) w) (
 Q3 P .add T.d (.tmp 9) (.const (.int .i64 1)) x3 (.int .i64 1) w fun t19 w =>
 again3 t19 w)) (
 K (.bool true) w)
theorem Gl {a0 a1 : Value} {w : World} {K : Value → World → Prop} (h : La a0 a1 w K) : Q1 P F.aG [a0, a1] w K := Q9 Ga Tryz.func111 rfl (by decide) (by kernel_rfl) h
def Q0H (a0 : Value) (w : World) (K : Value → World → Prop) : Prop :=
 K a0 w
theorem Q0u {a0 : Value} {w : World} {K : Value → World → Prop} (h : Q0H a0 w K) : Q1 P F.bV [a0] w K := Q9 (List.replicate 2 none) Tryz.func112 rfl (by decide) (by kernel_rfl) h
def Qj : W2 := [none, none, none, some ([8], [4, 5, 8, 9, 10, 11, 12, 13, 14, 15, 16, 17, 18]), none, none, none, none, none, none, none]
def R0 (a0 a1 : Value) (w : World) (K : Value → World → Prop) : Prop :=
 X4 P .len [T.h] T.d [false] [a0] w fun t7 w =>
 lp (α := Value) (.int .i64 0) w fun again3 x3 d_ w =>
 Q3 P .lss T.d (.tmp 8) (.tmp 7) x3 t7 w fun t9 w =>
 X1 t9 (
 indexAddr P T.h a0 x3 w fun t14 w =>
 Q2 P T.i t14 w fun t15 w =>
 Z7 P a1 [t15] w fun t16 w =>
 X1 t16 (
 K x3 w) (
 Q3 P .add T.d (.tmp 8) (.const (.int .i64 1)) x3 (.int .i64 1) w fun t18 w =>
 again3 t18 w)) (
 K (.int .i64 (-1)) w)
theorem Qa {a0 a1 : Value} {w : World} {K : Value → World → Prop} (h : R0 a0 a1 w K) : Q1 P F.j [a0, a1] w K := Q9 Qj Tryz.func63 rfl (by decide) (by kernel_rfl) h
def E9 (a0 a1 : Value) (w : World) (K : Value → World → Prop) : Prop :=
 Q1 P F.j [a0, a1] w fun t7 w =>
 Q3 P .geq T.d (.tmp 7) (.const (.int .i64 0)) t7 (.int .i64 0) w fun t8 w =>
 K t8 w
theorem P1 {a0 a1 : Value} {w : World} {K : Value → World → Prop} (h : E9 a0 a1 w K) : Q1 P F.g [a0, a1] w K := Q9 (List.replicate 2 none) Tryz.func142 rfl (by decide) (by kernel_rfl) h
def Yp (a0 a1 a2 : Value) (w : World) (K : Value → World → Prop) : Prop :=
 box P T.i a0 w fun v_y_3 w =>
 dr w fun Tr Br =>
 Q7 Tr (fun φ5 => ∀ w, Br w → Q2 P T.a0 a1 w (dk Tr φ5 w)) fun φ5 =>
 Q7 Tr (fun φ6 => ∀ w, Br w → Q2 P T.i v_y_3 w (dk Tr φ6 w)) fun φ6 =>
 Q7 Tr (fun φ7 => ∀ t5 t6 w, Br w → φ5 t5 w → φ6 t6 w → Z7 P t5 [t6] w (dk Tr φ7 w)) fun φ7 =>
 Q7 Tr (fun φ8 => ∀ w, Br w → Q2 P T.a0 a1 w (dk Tr φ8 w)) fun φ8 =>
 Q7 Tr (fun φ9 => ∀ w, Br w → Q2 P T.i a2 w (dk Tr φ9 w)) fun φ9 =>
 ∀ t5 t6 t7 t8 t9 w, Br w → φ5 t5 w → φ6 t6 w → φ7 t7 w → φ8 t8 w → φ9 t9 w → 
 Z7 P t8 [t9] w fun t10 w =>
 Q3 P .eql T.b (.tmp 7) (.tmp 10) t7 t10 w fun t11 w =>
 K t11 w
theorem Dj {a0 a1 a2 : Value} {w : World} {K : Value → World → Prop} (h : Yp a0 a1 a2 w K) : Q1 P F.bG [a0, a1, a2] w K := Q9 (List.replicate 2 none) Tryz.func143 rfl (by decide) (by kernel_rfl) h
def Hf : W2 := [none, none, none, some ([9], [4, 5, 6, 9, 10, 11, 12, 13, 14, 15, 16, 17, 18, 19]), none, none, none, none, none, none, none]
def Jh (a0 a1 : Value) (w : World) (K : Value → World → Prop) : Prop :=
 box P T.a0 a1 w fun v_name_3 w =>
 X4 P .len [T.h] T.d [false] [a0] w fun t8 w =>
 lp (α := Value) (.int .i64 0) w fun again3 x3 d_ w =>
 Q3 P .lss T.d (.tmp 9) (.tmp 8) x3 t8 w fun t10 w =>
 X1 t10 (
 indexAddr P T.h a0 x3 w fun t12 w =>
 Q2 P T.i t12 w fun t13 w =>
 M0 P T.i w fun v_x_6 w =>
 V5 P T.i v_x_6 t13 w fun _u w =>
 R7 P T.h a0 none (some x3) none w fun t16 w =>
 D0 P (.func F.bG) [] [v_name_3, v_x_6] w fun t17 w =>
 Q1 P F.g [t16, t17] w fun t18 w =>
 X1 t18 (
 K (.bool false) w) (
 Q3 P .add T.d (.tmp 9) (.const (.int .i64 1)) x3 (.int .i64 1) w fun t19 w =>
 again3 t19 w)) (
 K (.bool true) w)
theorem Hr {a0 a1 : Value} {w : World} {K : Value → World → Prop} (h : Jh a0 a1 w K) : Q1 P F.au [a0, a1] w K := Q9 Hf Tryz.func113 rfl (by decide) (by kernel_rfl) h
def Ei (a0 : Value) (w : World) (K : Value → World → Prop) : Prop :=
 box P T.i a0 w fun v_f_1 w =>
 fieldAddr P T.i v_f_1 0 w fun t3 w =>
 Q2 P T.b t3 w fun t4 w =>
 K t4 w
theorem Q0q {a0 : Value} {w : World} {K : Value → World → Prop} (h : Ei a0 w K) : Q1 P F.bW [a0] w K := Q9 (List.replicate 2 none) Tryz.func114 rfl (by decide) (by kernel_rfl) h
def Xp (a0 a1 a2 : Value) (w : World) (K : Value → World → Prop) : Prop :=
 box P T.c a0 w fun v_y_3 w =>
 dr w fun Tr Br =>
 Q7 Tr (fun φ5 => ∀ w, Br w → Q2 P T.z a1 w (dk Tr φ5 w)) fun φ5 =>
 Q7 Tr (fun φ6 => ∀ w, Br w → Q2 P T.c v_y_3 w (dk Tr φ6 w)) fun φ6 =>
 Q7 Tr (fun φ7 => ∀ t5 t6 w, Br w → φ5 t5 w → φ6 t6 w → Z7 P t5 [t6] w (dk Tr φ7 w)) fun φ7 =>
 Q7 Tr (fun φ8 => ∀ w, Br w → Q2 P T.z a1 w (dk Tr φ8 w)) fun φ8 =>
 Q7 Tr (fun φ9 => ∀ w, Br w → Q2 P T.c a2 w (dk Tr φ9 w)) fun φ9 =>
 ∀ t5 t6 t7 t8 t9 w, Br w → φ5 t5 w → φ6 t6 w → φ7 t7 w → φ8 t8 w → φ9 t9 w → 
 Z7 P t8 [t9] w fun t10 w =>
 Q3 P .eql T.b (.tmp 7) (.tmp 10) t7 t10 w fun t11 w =>
 K t11 w
theorem Nj {a0 a1 a2 : Value} {w : World} {K : Value → World → Prop} (h : Xp a0 a1 a2 w K) : Q1 P F.bu [a0, a1, a2] w K := Q9 (List.replicate 2 none) Tryz.func144 rfl (by decide) (by kernel_rfl) h
def Dv : W2 := [none, none, none, some ([9], [4, 5, 6, 9, 10, 11, 12, 13, 14, 15, 16, 17, 18, 19]), none, none, none, none, none, none, none]
def Zn (a0 a1 : Value) (w : World) (K : Value → World → Prop) : Prop :=
 box P T.z a1 w fun v_name_3 w =>
 X4 P .len [T.e] T.d [false] [a0] w fun t8 w =>
 lp (α := Value) (.int .i64 0) w fun again3 x3 d_ w =>
 Q3 P .lss T.d (.tmp 9) (.tmp 8) x3 t8 w fun t10 w =>
 X1 t10 (
 indexAddr P T.e a0 x3 w fun t12 w =>
 Q2 P T.c t12 w fun t13 w =>
 M0 P T.c w fun v_x_6 w =>
 V5 P T.c v_x_6 t13 w fun _u w =>
 R7 P T.e a0 none (some x3) none w fun t16 w =>
 D0 P (.func F.bu) [] [v_name_3, v_x_6] w fun t17 w =>
 Q1 P F.a [t16, t17] w fun t18 w =>
 X1 t18 (
 K (.bool false) w) (
 Q3 P .add T.d (.tmp 9) (.const (.int .i64 1)) x3 (.int .i64 1) w fun t19 w =>
 again3 t19 w)) (
 K (.bool true) w)
theorem Du {a0 a1 : Value} {w : World} {K : Value → World → Prop} (h : Zn a0 a1 w K) : Q1 P F.ak [a0, a1] w K := Q9 Dv Tryz.func115 rfl (by decide) (by kernel_rfl) h
def Em (a0 : Value) (w : World) (K : Value → World → Prop) : Prop :=
 box P T.c a0 w fun v_m_1 w =>
 fieldAddr P T.c v_m_1 0 w fun t3 w =>
 Q2 P T.b t3 w fun t4 w =>
 K t4 w
theorem Q0e {a0 : Value} {w : World} {K : Value → World → Prop} (h : Em a0 w K) : Q1 P F.bX [a0] w K := Q9 (List.replicate 2 none) Tryz.func116 rfl (by decide) (by kernel_rfl) h
def Xj (a0 a1 : Value) (w : World) (K : Value → World → Prop) : Prop :=
 box P T.i a0 w fun v_x_2 w =>
 Q2 P T.a6 a1 w fun t4 w =>
 Q2 P T.i v_x_2 w fun t5 w =>
 Z7 P t4 [t5] w fun t6 w =>
 U6 P .not t6 w fun t7 w =>
 K t7 w
theorem Nu {a0 a1 : Value} {w : World} {K : Value → World → Prop} (h : Xj a0 a1 w K) : Q1 P F.bv [a0, a1] w K := Q9 (List.replicate 2 none) Tryz.func145 rfl (by decide) (by kernel_rfl) h
def Zi (a0 a1 : Value) (w : World) (K : Value → World → Prop) : Prop :=
 box P T.a6 a1 w fun v_is_3 w =>
 D0 P (.func F.bv) [] [v_is_3] w fun t6 w =>
 Q1 P F.g [a0, t6] w fun t7 w =>
 U6 P .not t7 w fun t8 w =>
 K t8 w
theorem Eb {a0 a1 : Value} {w : World} {K : Value → World → Prop} (h : Zi a0 a1 w K) : Q1 P F.al [a0, a1] w K := Q9 (List.replicate 2 none) Tryz.func117 rfl (by decide) (by kernel_rfl) h
def Ib (a0 : Value) (w : World) (K : Value → World → Prop) : Prop :=
 Q3 P .eql T.b (.tmp 3) (.const (.string ⟨#[105, 110, 116]⟩)) a0 (.string ⟨#[105, 110, 116]⟩) w fun t4 w =>
 Q0 t4 false w (fun w J => J a0 w) fun t6 w =>
 Q0 t4 false w (Q3 P .eql T.b (.tmp 6) (.const (.string ⟨#[98, 111, 111, 108]⟩)) t6 (.string ⟨#[98, 111, 111, 108]⟩)) fun t7 w =>
 pick P t4 (.bool true) t7 w fun t8 w =>
 Q0 t8 false w (fun w J => J a0 w) fun t10 w =>
 Q0 t8 false w (Q3 P .eql T.b (.tmp 10) (.const (.string ⟨#[116, 101, 120, 116]⟩)) t10 (.string ⟨#[116, 101, 120, 116]⟩)) fun t11 w =>
 pick P t8 (.bool true) t11 w fun t12 w =>
 K t12 w
theorem Q2q {a0 : Value} {w : World} {K : Value → World → Prop} (h : Ib a0 w K) : Q1 P F.aa [a0] w K := Q9 (List.replicate 2 none) Tryz.func52 rfl (by decide) (by kernel_rfl) h
def Zl (a0 a1 : Value) (w : World) (K : Value → World → Prop) : Prop :=
 X4 P .len [T.b] T.d [false] [a0] w fun t6 w =>
 X4 P .len [T.b] T.d [false] [a1] w fun t8 w =>
 Q3 P .geq T.d (.tmp 6) (.tmp 8) t6 t8 w fun t9 w =>
 Q0 t9 true w (fun w J => J a0 w) fun t11 w =>
 Q0 t9 true w (fun w J => J a0 w) fun t12 w =>
 Q0 t9 true w (X4 P .len [T.b] T.d [false] [t12]) fun t13 w =>
 Q0 t9 true w (fun w J => J a1 w) fun t14 w =>
 Q0 t9 true w (X4 P .len [T.b] T.d [false] [t14]) fun t15 w =>
 Q0 t9 true w (Q3 P .sub T.d (.tmp 13) (.tmp 15) t13 t15) fun t16 w =>
 Q0 t9 true w (R7 P T.b t11 (some t16) none none) fun t17 w =>
 Q0 t9 true w (fun w J => J a1 w) fun t18 w =>
 Q0 t9 true w (Q3 P .eql T.b (.tmp 17) (.tmp 18) t17 t18) fun t19 w =>
 pick P t9 t19 (.bool false) w fun t20 w =>
 K t20 w
theorem Dy {a0 a1 : Value} {w : World} {K : Value → World → Prop} (h : Zl a0 a1 w K) : Q1 P F.a4 [a0, a1] w K := Q9 (List.replicate 2 none) Tryz.func153 rfl (by decide) (by kernel_rfl) h
def Lc (a0 a1 : Value) (w : World) (K : Value → World → Prop) : Prop :=
 Q1 P F.a4 [a0, a1] w fun t7 w =>
 K t7 w
theorem Fr {a0 a1 : Value} {w : World} {K : Value → World → Prop} (h : Lc a0 a1 w K) : Q1 P F.bl [a0, a1] w K := Q9 (List.replicate 2 none) Tryz.func132 rfl (by decide) (by kernel_rfl) h
def Ym (a0 a1 : Value) (w : World) (K : Value → World → Prop) : Prop :=
 Q1 P F.a4 [a0, a1] w fun t7 w =>
 X1 t7 (
 X4 P .len [T.b] T.d [false] [a0] w fun t10 w =>
 X4 P .len [T.b] T.d [false] [a1] w fun t12 w =>
 Q3 P .sub T.d (.tmp 10) (.tmp 12) t10 t12 w fun t13 w =>
 R7 P T.b a0 none (some t13) none w fun t14 w =>
 K t14 w) (
 K a0 w)
theorem Ol {a0 a1 : Value} {w : World} {K : Value → World → Prop} (h : Ym a0 a1 w K) : Q1 P F.bH [a0, a1] w K := Q9 (List.replicate 5 none) Tryz.func157 rfl (by decide) (by kernel_rfl) h
def Vv (a0 a1 : Value) (w : World) (K : Value → World → Prop) : Prop :=
 Q1 P F.bH [a0, a1] w fun t7 w =>
 K t7 w
theorem Sp {a0 a1 : Value} {w : World} {K : Value → World → Prop} (h : Vv a0 a1 w K) : Q1 P F.b9 [a0, a1] w K := Q9 (List.replicate 2 none) Tryz.func133 rfl (by decide) (by kernel_rfl) h
def Q3G : W2 := [none, none, none, some ([0, 4], [0, 4, 5, 6, 7, 8, 9, 10]), none, none, none]
def Tp (a0 : Value) (w : World) (K : Value → World → Prop) : Prop :=
 lp (α := Value × Value) (a0, (.int .i64 0)) w fun again3 x3 d_ w =>
 Q1 P F.bl [x3.1, (.string ⟨#[91, 93]⟩)] w fun t6 w =>
 X1 t6 (
 Q1 P F.b9 [x3.1, (.string ⟨#[91, 93]⟩)] w fun t8 w =>
 Q3 P .add T.d (.tmp 9) (.const (.int .i64 1)) x3.2 (.int .i64 1) w fun t10 w =>
 again3 (t8, t10) w) (
 K (.tuple #[x3.1, x3.2]) w)
theorem Q4a {a0 : Value} {w : World} {K : Value → World → Prop} (h : Tp a0 w K) : Q1 P F.c0 [a0] w K := Q9 Q3G Tryz.func97 rfl (by decide) (by kernel_rfl) h
def Gz (a0 : Value) (w : World) (K : Value → World → Prop) : Prop :=
 Q1 P F.c0 [a0] w fun t7 w =>
 ext P t7 0 w fun t8 w =>
 ext P t7 1 w fun t9 w =>
 Q3 P .leq T.d (.tmp 10) (.const (.int .i64 3)) t9 (.int .i64 3) w fun t11 w =>
 Q0 t11 true w (fun w J => J t8 w) fun t13 w =>
 Q0 t11 true w (Q1 P F.aa [t13]) fun t14 w =>
 Q0 t11 true w (fun w J => J t14 w) fun t15 w =>
 Q0 t15 false w (fun w J => J t8 w) fun t16 w =>
 Q0 t15 false w (Q1 P F.ac [t16]) fun t17 w =>
 Q0 t11 true w (pick P t15 (.bool true) t17) fun t18 w =>
 pick P t11 t18 (.bool false) w fun t19 w =>
 K t19 w
theorem Q3h {a0 : Value} {w : World} {K : Value → World → Prop} (h : Gz a0 w K) : Q1 P F.a1 [a0] w K := Q9 (List.replicate 3 none) Tryz.func58 rfl (by decide) (by kernel_rfl) h
def Sa (a0 : Value) (w : World) (K : Value → World → Prop) : Prop :=
 Q1 P F.bA [a0] w fun t4 w =>
 Q0 t4 true w (fun w J => J a0 w) fun t6 w =>
 Q0 t4 true w (Q1 P F.ac [t6]) fun t7 w =>
 Q0 t4 true w (U6 P .not t7) fun t8 w =>
 pick P t4 t8 (.bool false) w fun t9 w =>
 K t9 w
theorem Q0N {a0 : Value} {w : World} {K : Value → World → Prop} (h : Sa a0 w K) : Q1 P F.bq [a0] w K := Q9 (List.replicate 2 none) Tryz.func119 rfl (by decide) (by kernel_rfl) h
def Ef (a0 : Value) (w : World) (K : Value → World → Prop) : Prop :=
 box P T.i a0 w fun v_f_1 w =>
 fieldAddr P T.i v_f_1 0 w fun t3 w =>
 Q2 P T.b t3 w fun t4 w =>
 Q1 P F.bq [t4] w fun t5 w =>
 Q0 t5 true w (fieldAddr P T.i v_f_1 1) fun t7 w =>
 Q0 t5 true w (Q2 P T.b t7) fun t8 w =>
 Q0 t5 true w (Q1 P F.a1 [t8]) fun t9 w =>
 pick P t5 t9 (.bool false) w fun t10 w =>
 K t10 w
theorem Q0z {a0 : Value} {w : World} {K : Value → World → Prop} (h : Ef a0 w K) : Q1 P F.be [a0] w K := Q9 (List.replicate 2 none) Tryz.func118 rfl (by decide) (by kernel_rfl) h
def Qn (a0 a1 : Value) (w : World) (K : Value → World → Prop) : Prop :=
 box P T.c a0 w fun v_x_2 w =>
 Q2 P T.a4 a1 w fun t4 w =>
 Q2 P T.c v_x_2 w fun t5 w =>
 Z7 P t4 [t5] w fun t6 w =>
 U6 P .not t6 w fun t7 w =>
 K t7 w
theorem Mv {a0 a1 : Value} {w : World} {K : Value → World → Prop} (h : Qn a0 a1 w K) : Q1 P F.br [a0, a1] w K := Q9 (List.replicate 2 none) Tryz.func146 rfl (by decide) (by kernel_rfl) h
def Yh (a0 a1 : Value) (w : World) (K : Value → World → Prop) : Prop :=
 box P T.a4 a1 w fun v_is_3 w =>
 D0 P (.func F.br) [] [v_is_3] w fun t6 w =>
 Q1 P F.a [a0, t6] w fun t7 w =>
 U6 P .not t7 w fun t8 w =>
 K t8 w
theorem Oq {a0 a1 : Value} {w : World} {K : Value → World → Prop} (h : Yh a0 a1 w K) : Q1 P F.ah [a0, a1] w K := Q9 (List.replicate 2 none) Tryz.func120 rfl (by decide) (by kernel_rfl) h
def Oy (a0 a1 : Value) (w : World) (K : Value → World → Prop) : Prop :=
 box P T.m a0 w fun v_x_2 w =>
 fieldAddr P T.m v_x_2 0 w fun t4 w =>
 Q2 P T.d t4 w fun t5 w =>
 Q3 P .geq T.d (.tmp 5) (.const (.int .i64 0)) t5 (.int .i64 0) w fun t6 w =>
 Q0 t6 true w (fieldAddr P T.m v_x_2 1) fun t8 w =>
 Q0 t6 true w (Q2 P T.d t8) fun t9 w =>
 Q0 t6 true w (fieldAddr P T.m v_x_2 0) fun t10 w =>
 Q0 t6 true w (Q2 P T.d t10) fun t11 w =>
 Q0 t6 true w (Q3 P .gtr T.d (.tmp 9) (.tmp 11) t9 t11) fun t12 w =>
 pick P t6 t12 (.bool false) w fun t13 w =>
 Q0 t13 true w (fieldAddr P T.m v_x_2 1) fun t15 w =>
 Q0 t13 true w (Q2 P T.d t15) fun t16 w =>
 Q0 t13 true w (Q2 P T.d a1) fun t17 w =>
 Q0 t13 true w (Q3 P .leq T.d (.tmp 16) (.tmp 17) t16 t17) fun t18 w =>
 pick P t13 t18 (.bool false) w fun t19 w =>
 Q0 t19 true w (fieldAddr P T.m v_x_2 2) fun t21 w =>
 Q0 t19 true w (Q2 P T.d t21) fun t22 w =>
 Q0 t19 true w (Q3 P .geq T.d (.tmp 22) (.const (.int .i64 0)) t22 (.int .i64 0)) fun t23 w =>
 pick P t19 t23 (.bool false) w fun t24 w =>
 Q0 t24 true w (fieldAddr P T.m v_x_2 2) fun t26 w =>
 Q0 t24 true w (Q2 P T.d t26) fun t27 w =>
 Q0 t24 true w (Q2 P T.d a1) fun t28 w =>
 Q0 t24 true w (Q3 P .lss T.d (.tmp 27) (.tmp 28) t27 t28) fun t29 w =>
 pick P t24 t29 (.bool false) w fun t30 w =>
 Q0 t30 true w (fieldAddr P T.m v_x_2 3) fun t32 w =>
 Q0 t30 true w (Q2 P T.b t32) fun t33 w =>
 Q0 t30 true w (Q1 P F.ac [t33]) fun t34 w =>
 pick P t30 t34 (.bool false) w fun t35 w =>
 K t35 w
theorem Aq {a0 a1 : Value} {w : World} {K : Value → World → Prop} (h : Oy a0 a1 w K) : Q1 P F.aX [a0, a1] w K := Q9 (List.replicate 2 none) Tryz.func147 rfl (by decide) (by kernel_rfl) h
def Qb : W2 := [none, none, none, some ([8], [4, 5, 8, 9, 10, 11, 12, 13, 14, 15, 16, 17, 18]), none, none, none, none, none, none, none]
def R2 (a0 a1 : Value) (w : World) (K : Value → World → Prop) : Prop :=
 X4 P .len [T.k] T.d [false] [a0] w fun t7 w =>
 lp (α := Value) (.int .i64 0) w fun again3 x3 d_ w =>
 Q3 P .lss T.d (.tmp 8) (.tmp 7) x3 t7 w fun t9 w =>
 X1 t9 (
 indexAddr P T.k a0 x3 w fun t14 w =>
 Q2 P T.n t14 w fun t15 w =>
 Z7 P a1 [t15] w fun t16 w =>
 X1 t16 (
 K x3 w) (
 Q3 P .add T.d (.tmp 8) (.const (.int .i64 1)) x3 (.int .i64 1) w fun t18 w =>
 again3 t18 w)) (
 K (.int .i64 (-1)) w)
theorem Qi {a0 a1 : Value} {w : World} {K : Value → World → Prop} (h : R2 a0 a1 w K) : Q1 P F.y [a0, a1] w K := Q9 Qb Tryz.func175 rfl (by decide) (by kernel_rfl) h
def E8 (a0 a1 : Value) (w : World) (K : Value → World → Prop) : Prop :=
 Q1 P F.y [a0, a1] w fun t7 w =>
 Q3 P .geq T.d (.tmp 7) (.const (.int .i64 0)) t7 (.int .i64 0) w fun t8 w =>
 K t8 w
theorem P3 {a0 a1 : Value} {w : World} {K : Value → World → Prop} (h : E8 a0 a1 w K) : Q1 P F.k [a0, a1] w K := Q9 (List.replicate 2 none) Tryz.func163 rfl (by decide) (by kernel_rfl) h
def Xh (a0 a1 : Value) (w : World) (K : Value → World → Prop) : Prop :=
 box P T.n a0 w fun v_x_2 w =>
 Q2 P T.a8 a1 w fun t4 w =>
 Q2 P T.n v_x_2 w fun t5 w =>
 Z7 P t4 [t5] w fun t6 w =>
 U6 P .not t6 w fun t7 w =>
 K t7 w
theorem Ni {a0 a1 : Value} {w : World} {K : Value → World → Prop} (h : Xh a0 a1 w K) : Q1 P F.bw [a0, a1] w K := Q9 (List.replicate 2 none) Tryz.func164 rfl (by decide) (by kernel_rfl) h
def Zk (a0 a1 : Value) (w : World) (K : Value → World → Prop) : Prop :=
 box P T.a8 a1 w fun v_is_3 w =>
 D0 P (.func F.bw) [] [v_is_3] w fun t6 w =>
 Q1 P F.k [a0, t6] w fun t7 w =>
 U6 P .not t7 w fun t8 w =>
 K t8 w
theorem Dz {a0 a1 : Value} {w : World} {K : Value → World → Prop} (h : Zk a0 a1 w K) : Q1 P F.an [a0, a1] w K := Q9 (List.replicate 2 none) Tryz.func148 rfl (by decide) (by kernel_rfl) h
def Xr : W2 := [none, none, none, some ([8], [4, 5, 8, 9, 10, 11, 12, 13, 14, 15, 16, 17, 18]), none, none, none, none, none, none, none]
def C0 (a0 a1 : Value) (w : World) (K : Value → World → Prop) : Prop :=
 X4 P .len [T.ag] T.d [false] [a0] w fun t7 w =>
 lp (α := Value) (.int .i64 0) w fun again3 x3 d_ w =>
 Q3 P .lss T.d (.tmp 8) (.tmp 7) x3 t7 w fun t9 w =>
 X1 t9 (
 indexAddr P T.ag a0 x3 w fun t14 w =>
 Q2 P T.a3 t14 w fun t15 w =>
 Z7 P a1 [t15] w fun t16 w =>
 X1 t16 (
 K x3 w) (
 Q3 P .add T.d (.tmp 8) (.const (.int .i64 1)) x3 (.int .i64 1) w fun t18 w =>
 again3 t18 w)) (
 K (.int .i64 (-1)) w)
theorem Yj {a0 a1 : Value} {w : World} {K : Value → World → Prop} (h : C0 a0 a1 w K) : Q1 P F.p [a0, a1] w K := Q9 Xr Tryz.func186 rfl (by decide) (by kernel_rfl) h
def Fg (a0 a1 : Value) (w : World) (K : Value → World → Prop) : Prop :=
 box P T.a3 a0 w fun v_o_2 w =>
 fieldAddr P T.a3 v_o_2 0 w fun t4 w =>
 Q2 P T.b t4 w fun t5 w =>
 Q2 P T.b a1 w fun t6 w =>
 Q3 P .eql T.b (.tmp 5) (.tmp 6) t5 t6 w fun t7 w =>
 K t7 w
theorem Q23 {a0 a1 : Value} {w : World} {K : Value → World → Prop} (h : Fg a0 a1 w K) : Q1 P F.ci [a0, a1] w K := Q9 (List.replicate 2 none) Tryz.func187 rfl (by decide) (by kernel_rfl) h
def Ae (a0 : Value) (w : World) (K : Value → World → Prop) : Prop :=
 box P T.b a0 w fun v_name_1 w =>
 R7 P T.a5 (.pointer (some ⟨G.a, 0, none⟩)) none none none w fun t3 w =>
 D0 P (.func F.ci) [] [v_name_1] w fun t4 w =>
 Q1 P F.p [t3, t4] w fun t5 w =>
 K t5 w
theorem Q3I {a0 : Value} {w : World} {K : Value → World → Prop} (h : Ae a0 w K) : Q1 P F.ce [a0] w K := Q9 (List.replicate 2 none) Tryz.func176 rfl (by decide) (by kernel_rfl) h
def Pe (a0 : Value) (w : World) (K : Value → World → Prop) : Prop :=
 Q1 P F.ce [a0] w fun t7 w =>
 Q3 P .lss T.d (.tmp 8) (.const (.int .i64 0)) t7 (.int .i64 0) w fun t9 w =>
 X1 t9 (
 K (.tuple #[(.bool false), (.bool false), (.bool false)]) w) (
 dr w fun Tr Br =>
 Q7 Tr (fun φ11 => ∀ w, Br w → indexAddr P T.a5 (.pointer (some ⟨G.a, 0, none⟩)) t7 w (dk Tr φ11 w)) fun φ11 =>
 Q7 Tr (fun φ12 => ∀ t11 w, Br w → φ11 t11 w → fieldAddr P T.a3 t11 1 w (dk Tr φ12 w)) fun φ12 =>
 Q7 Tr (fun φ15 => ∀ w, Br w → indexAddr P T.a5 (.pointer (some ⟨G.a, 0, none⟩)) t7 w (dk Tr φ15 w)) fun φ15 =>
 Q7 Tr (fun φ16 => ∀ t15 w, Br w → φ15 t15 w → fieldAddr P T.a3 t15 2 w (dk Tr φ16 w)) fun φ16 =>
 Q7 Tr (fun φ13 => ∀ t12 w, Br w → φ12 t12 w → Q2 P T.l t12 w (dk Tr φ13 w)) fun φ13 =>
 Q7 Tr (fun φ17 => ∀ t16 w, Br w → φ16 t16 w → Q2 P T.l t16 w (dk Tr φ17 w)) fun φ17 =>
 ∀ t11 t12 t15 t16 t13 t17 w, Br w → φ11 t11 w → φ12 t12 w → φ15 t15 w → φ16 t16 w → φ13 t13 w → φ17 t17 w → 
 K (.tuple #[t13, t17, (.bool true)]) w)
theorem Q3d {a0 : Value} {w : World} {K : Value → World → Prop} (h : Pe a0 w K) : Q1 P F.bS [a0] w K := Q9 (List.replicate 6 none) Tryz.func165 rfl (by decide) (by kernel_rfl) h
def Zh (a0 a1 : Value) (w : World) (K : Value → World → Prop) : Prop :=
 Q1 P F.bz [a0, a1] w fun t7 w =>
 K t7 w
theorem Dw {a0 a1 : Value} {w : World} {K : Value → World → Prop} (h : Zh a0 a1 w K) : Q1 P F.ap [a0, a1] w K := Q9 (List.replicate 2 none) Tryz.func185 rfl (by decide) (by kernel_rfl) h
end Go.Proofs.YtdnfaboigajkhaaGreatDoor

set_option maxRecDepth 100000
namespace Go.Proofs.YtdnfaboigajkhaaGreatDoor
open Go.Emb
def Fp : W2 := [none, none, none, none, none, none, none, none, none, none, none, none, none, none, none, none, none, some ([8, 10], [4, 8, 10, 11, 12, 13, 57, 58, 59, 60, 61, 62, 63, 64, 65, 66, 67, 68, 69, 70, 71, 72, 73, 74, 75, 76, 77, 78, 79, 80, 81, 82, 83, 84, 85, 86, 87, 88, 89, 90, 91, 92, 93, 94, 95, 96, 97, 98, 99, 100, 101, 102, 103, 104, 105, 106, 107, 108, 109, 110, 111, 112, 113, 114, 115, 116, 117, 118, 119, 120, 121, 122, 123, 124, 125, 126, 127, 128, 129, 130, 131, 132, 133, 134, 135, 136, 137, 138, 139, 140, 141, 142]), none, none, some ([8], [4, 8, 11, 60, 61, 62, 63, 64, 65, 66, 67, 68, 69, 70, 71, 72, 73, 74, 75, 76, 77]), none, none, none, none, none, none, none, none, none, none, none, none, none, none, none, none, none, none, none, none, none, none, none]
def Wp (a0 a1 : Value) (w : World) (K : Value → World → Prop) : Prop :=
 X4 P .len [T.b] T.d [false] [a1] w fun t15 w =>
 Q3 P .eql T.d (.tmp 17) (.const (.int .i64 0)) t15 (.int .i64 0) w fun t18 w =>
 Q0 t18 false w (fun w J => J a1 w) fun t20 w =>
 Q0 t18 false w (fun w J => J a0 w) fun t21 w =>
 Q0 t18 false w (Q3 P .eql T.b (.tmp 20) (.tmp 21) t20 t21) fun t22 w =>
 pick P t18 (.bool true) t22 w fun t23 w =>
 X1 t23 (
 K (.int .i64 0) w) (
 Q3 P .eql T.d (.tmp 25) (.const (.int .i64 1)) t15 (.int .i64 1) w fun t26 w =>
 X1 t26 (
 E2 P T.b a1 (.int .i64 0) w fun t29 w =>
 Q1 P F.ap [a0, t29] w fun t30 w =>
 K t30 w) (
 X4 P .len [T.b] T.d [false] [a0] w fun t34 w =>
 Q3 P .geq T.d (.tmp 32) (.tmp 34) t15 t34 w fun t35 w =>
 X1 t35 (
 K (.int .i64 (-1)) w) (
 Q2 P T.d (.pointer (some ⟨G.c, 0, none⟩)) w fun t38 w =>
 Q3 P .leq T.d (.tmp 37) (.tmp 38) t15 t38 w fun t39 w =>
 Q0 t39 true w (fun w J => J a0 w) fun t41 w =>
 Q0 t39 true w (X4 P .len [T.b] T.d [false] [t41]) fun t42 w =>
 Q0 t39 true w (Q3 P .leq T.d (.tmp 42) (.const (.int .i64 64)) t42 (.int .i64 64)) fun t43 w =>
 pick P t39 t43 (.bool false) w fun t44 w =>
 X1 t44 (
 Q1 P F.bZ [a0, a1] w fun t47 w =>
 K t47 w) (
 E2 P T.b a1 (.int .i64 0) w fun t49 w =>
 E2 P T.b a1 (.int .i64 1) w fun t51 w =>
 X4 P .len [T.b] T.d [false] [a0] w fun t53 w =>
 Q3 P .sub T.d (.tmp 53) (.tmp 54) t53 t15 w fun t55 w =>
 Q3 P .add T.d (.tmp 55) (.const (.int .i64 1)) t55 (.int .i64 1) w fun t56 w =>
 lp (α := Value × Value) ((.int .i64 0), (.int .i64 0)) w fun again17 x17 d_ w =>
 Q3 P .lss T.d (.tmp 57) (.tmp 58) x17.1 t56 w fun t59 w =>
 X1 t59 (
 jn (α := Value) w (fun J20 w =>
 E2 P T.b a0 x17.1 w fun t62 w =>
 Q3 P .neq T.s (.tmp 62) (.tmp 63) t62 t49 w fun t64 w =>
 X1 t64 (
 Q3 P .add T.d (.tmp 66) (.const (.int .i64 1)) x17.1 (.int .i64 1) w fun t67 w =>
 R7 P T.b a0 (some t67) (some t56) none w fun t69 w =>
 Q1 P F.ap [t69, t49] w fun t71 w =>
 Q3 P .lss T.d (.tmp 72) (.const (.int .i64 0)) t71 (.int .i64 0) w fun t73 w =>
 X1 t73 (
 K (.int .i64 (-1)) w) (
 Q3 P .add T.d (.tmp 75) (.const (.int .i64 1)) t71 (.int .i64 1) w fun t76 w =>
 Q3 P .add T.d (.tmp 74) (.tmp 76) x17.1 t76 w fun t77 w =>
 J20 t77 w)) (
 J20 x17.1 w)) fun z20 d_ w =>
 Q3 P .add T.d (.tmp 79) (.const (.int .i64 1)) z20 (.int .i64 1) w fun t80 w =>
 E2 P T.b a0 t80 w fun t81 w =>
 Q3 P .eql T.s (.tmp 81) (.tmp 82) t81 t51 w fun t83 w =>
 Q0 t83 true w (fun w J => J a0 w) fun t85 w =>
 Q0 t83 true w (fun w J => J z20 w) fun t86 w =>
 Q0 t83 true w (fun w J => J z20 w) fun t87 w =>
 Q0 t83 true w (fun w J => J t15 w) fun t88 w =>
 Q0 t83 true w (Q3 P .add T.d (.tmp 87) (.tmp 88) t87 t88) fun t89 w =>
 Q0 t83 true w (R7 P T.b t85 (some t86) (some t89) none) fun t90 w =>
 Q0 t83 true w (fun w J => J a1 w) fun t91 w =>
 Q0 t83 true w (Q3 P .eql T.b (.tmp 90) (.tmp 91) t90 t91) fun t92 w =>
 pick P t83 t92 (.bool false) w fun t93 w =>
 X1 t93 (
 K z20 w) (
 Q3 P .add T.d (.tmp 95) (.const (.int .i64 1)) z20 (.int .i64 1) w fun t96 w =>
 Q3 P .add T.d (.tmp 97) (.const (.int .i64 1)) x17.2 (.int .i64 1) w fun t98 w =>
 Q2 P T.d (.pointer (some ⟨G.c, 0, none⟩)) w fun t100 w =>
 Q3 P .leq T.d (.tmp 99) (.tmp 100) t15 t100 w fun t101 w =>
 Q0 t101 true w (fun w J => J t98 w) fun t103 w =>
 Q0 t101 true w (fun w J => J t96 w) fun t104 w =>
 Q0 t101 true w (Q1 P F.cl [t104]) fun t105 w =>
 Q0 t101 true w (Q3 P .gtr T.d (.tmp 103) (.tmp 105) t103 t105) fun t106 w =>
 pick P t101 t106 (.bool false) w fun t107 w =>
 X1 t107 (
 R7 P T.b a0 (some t96) none none w fun t110 w =>
 Q1 P F.bZ [t110, a1] w fun t112 w =>
 Q3 P .geq T.d (.tmp 113) (.const (.int .i64 0)) t112 (.int .i64 0) w fun t114 w =>
 X1 t114 (
 Q3 P .add T.d (.tmp 115) (.tmp 116) t112 t96 w fun t117 w =>
 K t117 w) (
 K (.int .i64 (-1)) w)) (
 Q2 P T.d (.pointer (some ⟨G.c, 0, none⟩)) w fun t119 w =>
 Q3 P .gtr T.d (.tmp 118) (.tmp 119) t15 t119 w fun t120 w =>
 Q0 t120 true w (fun w J => J t98 w) fun t122 w =>
 Q0 t120 true w (fun w J => J t96 w) fun t123 w =>
 Q0 t120 true w (Q3 P .shr T.d (.tmp 123) (.const (.int .u64 4)) t123 (.int .u64 4)) fun t124 w =>
 Q0 t120 true w (Q3 P .add T.d (.const (.int .i64 4)) (.tmp 124) (.int .i64 4) t124) fun t125 w =>
 Q0 t120 true w (Q3 P .geq T.d (.tmp 122) (.tmp 125) t122 t125) fun t126 w =>
 pick P t120 t126 (.bool false) w fun t127 w =>
 Q0 t127 true w (fun w J => J t96 w) fun t129 w =>
 Q0 t127 true w (fun w J => J t56 w) fun t130 w =>
 Q0 t127 true w (Q3 P .lss T.d (.tmp 129) (.tmp 130) t129 t130) fun t131 w =>
 pick P t127 t131 (.bool false) w fun t132 w =>
 X1 t132 (
 R7 P T.b a0 (some t96) none none w fun t135 w =>
 Q1 P F.cb [t135, a1] w fun t137 w =>
 Q3 P .lss T.d (.tmp 138) (.const (.int .i64 0)) t137 (.int .i64 0) w fun t139 w =>
 X1 t139 (
 K (.int .i64 (-1)) w) (
 Q3 P .add T.d (.tmp 140) (.tmp 141) t96 t137 w fun t142 w =>
 K t142 w)) (
 again17 (t96, t98) w)))) (
 K (.int .i64 (-1)) w)))))
theorem Gi {a0 a1 : Value} {w : World} {K : Value → World → Prop} (h : Wp a0 a1 w K) : Q1 P F.bn [a0, a1] w K := Q9 Fp Tryz.func194 rfl (by decide) (by kernel_rfl) h
def Ts (a0 : Value) (w : World) (K : Value → World → Prop) : Prop :=
 Q1 P F.c0 [a0] w fun t7 w =>
 ext P t7 0 w fun t8 w =>
 ext P t7 1 w fun t9 w =>
 Q1 P F.a1 [a0] w fun t11 w =>
 U6 P .not t11 w fun t12 w =>
 X1 t12 (
 K (.int .i64 0) w) (
 K t9 w)
theorem Q3E {a0 : Value} {w : World} {K : Value → World → Prop} (h : Ts a0 w K) : Q1 P F.cf [a0] w K := Q9 (List.replicate 6 none) Tryz.func179 rfl (by decide) (by kernel_rfl) h
def Mx (a0 a1 : Value) (w : World) (K : Value → World → Prop) : Prop :=
 Q1 P F.bn [a0, a1] w fun t10 w =>
 Q3 P .geq T.d (.tmp 11) (.const (.int .i64 0)) t10 (.int .i64 0) w fun t12 w =>
 X1 t12 (
 dr w fun Tr Br =>
 Q7 Tr (fun φ15 => ∀ w, Br w → R7 P T.b a0 none (some t10) none w (dk Tr φ15 w)) fun φ15 =>
 Q7 Tr (fun φ19 => ∀ w, Br w → X4 P .len [T.b] T.d [false] [a1] w (dk Tr φ19 w)) fun φ19 =>
 Q7 Tr (fun φ20 => ∀ t19 w, Br w → φ19 t19 w → Q3 P .add T.d (.tmp 17) (.tmp 19) t10 t19 w (dk Tr φ20 w)) fun φ20 =>
 Q7 Tr (fun φ21 => ∀ t20 w, Br w → φ20 t20 w → R7 P T.b a0 (some t20) none none w (dk Tr φ21 w)) fun φ21 =>
 ∀ t15 t19 t20 t21 w, Br w → φ15 t15 w → φ19 t19 w → φ20 t20 w → φ21 t21 w → 
 K (.tuple #[t15, t21, (.bool true)]) w) (
 K (.tuple #[a0, (.string ⟨#[]⟩), (.bool false)]) w)
theorem Tm {a0 a1 : Value} {w : World} {K : Value → World → Prop} (h : Mx a0 a1 w K) : Q1 P F.ca [a0, a1] w K := Q9 (List.replicate 6 none) Tryz.func195 rfl (by decide) (by kernel_rfl) h
def Fa (a0 a1 : Value) (w : World) (K : Value → World → Prop) : Prop :=
 Q1 P F.ca [a0, a1] w fun t9 w =>
 ext P t9 0 w fun t10 w =>
 ext P t9 1 w fun t11 w =>
 ext P t9 2 w fun t12 w =>
 K (.tuple #[t10, t11, t12]) w
theorem Q1V {a0 a1 : Value} {w : World} {K : Value → World → Prop} (h : Fa a0 a1 w K) : Q1 P F.c3 [a0, a1] w K := Q9 (List.replicate 2 none) Tryz.func190 rfl (by decide) (by kernel_rfl) h
def Kv (a0 : Value) (w : World) (K : Value → World → Prop) : Prop :=
 Q1 P F.c3 [a0, (.string ⟨#[46]⟩)] w fun t10 w =>
 ext P t10 0 w fun t11 w =>
 ext P t10 1 w fun t12 w =>
 ext P t10 2 w fun t13 w =>
 U6 P .not t13 w fun t15 w =>
 Q0 t15 false w (fun w J => J t11 w) fun t17 w =>
 Q0 t15 false w (Q1 P F.ac [t17]) fun t18 w =>
 Q0 t15 false w (U6 P .not t18) fun t19 w =>
 pick P t15 (.bool true) t19 w fun t20 w =>
 Q0 t20 false w (fun w J => J t12 w) fun t22 w =>
 Q0 t20 false w (Q1 P F.bA [t22]) fun t23 w =>
 Q0 t20 false w (U6 P .not t23) fun t24 w =>
 pick P t20 (.bool true) t24 w fun t25 w =>
 Q0 t25 false w (fun w J => J t12 w) fun t27 w =>
 Q0 t25 false w (E2 P T.b t27 (.int .i64 0)) fun t28 w =>
 Q0 t25 false w (conv P T.s T.ac t28) fun t29 w =>
 Q0 t25 false w (Q1 P F.bR [t29]) fun t30 w =>
 Q0 t25 false w (U6 P .not t30) fun t31 w =>
 pick P t25 (.bool true) t31 w fun t32 w =>
 X1 t32 (
 K (.tuple #[(.string ⟨#[]⟩), (.string ⟨#[]⟩), (.int .i64 30)]) w) (
 K (.tuple #[t11, t12, (.int .i64 0)]) w)
theorem Q30 {a0 : Value} {w : World} {K : Value → World → Prop} (h : Kv a0 w K) : Q1 P F.c9 [a0] w K := Q9 (List.replicate 6 none) Tryz.func180 rfl (by decide) (by kernel_rfl) h
def Q3v : W2 := [none, none, none, none, none, none, none, some ([27], [27, 28, 29]), none, none, none, none, none, none]
def Aa (a0 a1 : Value) (w : World) (K : Value → World → Prop) : Prop :=
 Q3 P .eql T.b (.tmp 8) (.const (.string ⟨#[119, 111, 114, 100]⟩)) a0 (.string ⟨#[119, 111, 114, 100]⟩) w fun t10 w =>
 X1 t10 (
 X4 P .len [T.b] T.d [false] [a1] w fun t12 w =>
 Q3 P .leq T.d (.tmp 12) (.const (.int .i64 64)) t12 (.int .i64 64) w fun t13 w =>
 Q0 t13 true w (fun w J => J a1 w) fun t15 w =>
 Q0 t13 true w (Q1 P F.bs [t15]) fun t16 w =>
 pick P t13 t16 (.bool false) w fun t17 w =>
 Q0 t17 true w (fun w J => J a1 w) fun t19 w =>
 Q0 t17 true w (Q1 P F.c6 [t19, (.string ⟨#[10]⟩)]) fun t20 w =>
 Q0 t17 true w (U6 P .not t20) fun t21 w =>
 pick P t17 t21 (.bool false) w fun t22 w =>
 K t22 w) (
 Q3 P .eql T.b (.tmp 8) (.const (.string ⟨#[110, 101, 119]⟩)) a0 (.string ⟨#[110, 101, 119]⟩) w fun t24 w =>
 X1 t24 (
 Q1 P F.ac [a1] w fun t26 w =>
 K t26 w) (
 jn (α := Value) w (fun J7 w =>
 Q3 P .eql T.b (.tmp 8) (.const (.string ⟨#[105, 115]⟩)) a0 (.string ⟨#[105, 115]⟩) w fun t28 w =>
 X1 t28 (
 J7 t28 w) (
 Q3 P .eql T.b (.tmp 8) (.const (.string ⟨#[99, 97, 115, 116]⟩)) a0 (.string ⟨#[99, 97, 115, 116]⟩) w fun t29 w =>
 J7 t29 w)) fun z7 d_ w =>
 X1 z7 (
 Q1 P F.a1 [a1] w fun t31 w =>
 Q0 t31 true w (fun w J => J a1 w) fun t33 w =>
 Q0 t31 true w (Q1 P F.aa [t33]) fun t34 w =>
 Q0 t31 true w (U6 P .not t34) fun t35 w =>
 pick P t31 t35 (.bool false) w fun t36 w =>
 K t36 w) (
 Q3 P .eql T.b (.tmp 8) (.const (.string ⟨#[97, 114, 114, 97, 121]⟩)) a0 (.string ⟨#[97, 114, 114, 97, 121]⟩) w fun t38 w =>
 X1 t38 (
 Q1 P F.a1 [a1] w fun t40 w =>
 Q0 t40 true w (fun w J => J a1 w) fun t42 w =>
 Q0 t40 true w (Q1 P F.cf [t42]) fun t43 w =>
 Q0 t40 true w (Q3 P .lss T.d (.tmp 43) (.const (.int .i64 3)) t43 (.int .i64 3)) fun t44 w =>
 pick P t40 t44 (.bool false) w fun t45 w =>
 K t45 w) (
 Q1 P F.c9 [a1] w fun t48 w =>
 ext P t48 0 w fun t49 w =>
 ext P t48 1 w fun t50 w =>
 ext P t48 2 w fun t51 w =>
 Q3 P .eql T.t (.tmp 52) (.const (.int .i64 0)) t51 (.int .i64 0) w fun t53 w =>
 K t53 w))))
theorem Q3Y {a0 a1 : Value} {w : World} {K : Value → World → Prop} (h : Aa a0 a1 w K) : Q1 P F.cd [a0, a1] w K := Q9 Q3v Tryz.func166 rfl (by decide) (by kernel_rfl) h
def Q2r : W2 := [none, none, none, none, none, some ([16], [16, 17, 18, 19, 20, 21, 22, 23, 24, 25, 26, 27, 28, 29, 30, 31, 32, 33, 34, 35, 36, 37, 38, 39]), none, none, none, none]
def Ia (a0 : Value) (w : World) (K : Value → World → Prop) : Prop :=
 box P T.n a0 w fun v_i_1 w =>
 fieldAddr P T.n v_i_1 0 w fun t7 w =>
 Q2 P T.b t7 w fun t8 w =>
 Q1 P F.bS [t8] w fun t9 w =>
 ext P t9 0 w fun t10 w =>
 ext P t9 1 w fun t11 w =>
 ext P t9 2 w fun t12 w =>
 U6 P .not t12 w fun t15 w =>
 X1 t15 (
 K (.int .i64 40) w) (
 jn (α := Value) w (fun J5 w =>
 U6 P .not t10 w fun t18 w =>
 Q0 t18 true w (fieldAddr P T.n v_i_1 1) fun t20 w =>
 Q0 t18 true w (Q2 P T.af t20) fun t21 w =>
 Q0 t18 true w (Q3 P .neq T.af (.tmp 21) (.const (.int .i64 0)) t21 (.int .i64 0)) fun t22 w =>
 pick P t18 t22 (.bool false) w fun t23 w =>
 X1 t23 (
 J5 t23 w) (
 U6 P .not t11 w fun t25 w =>
 Q0 t25 true w (fieldAddr P T.n v_i_1 2) fun t27 w =>
 Q0 t25 true w (Q2 P T.b t27) fun t28 w =>
 Q0 t25 true w (Q3 P .neq T.b (.tmp 28) (.const (.string ⟨#[]⟩)) t28 (.string ⟨#[]⟩)) fun t29 w =>
 pick P t25 t29 (.bool false) w fun t30 w =>
 X1 t30 (
 J5 t30 w) (
 Q0 t11 true w (fieldAddr P T.n v_i_1 0) fun t33 w =>
 Q0 t11 true w (Q2 P T.b t33) fun t34 w =>
 Q0 t11 true w (fieldAddr P T.n v_i_1 2) fun t35 w =>
 Q0 t11 true w (Q2 P T.b t35) fun t36 w =>
 Q0 t11 true w (Q1 P F.cd [t34, t36]) fun t37 w =>
 Q0 t11 true w (U6 P .not t37) fun t38 w =>
 pick P t11 t38 (.bool false) w fun t39 w =>
 J5 t39 w))) fun z5 d_ w =>
 X1 z5 (
 K (.int .i64 41) w) (
 K (.int .i64 0) w))
theorem Q2m {a0 : Value} {w : World} {K : Value → World → Prop} (h : Ia a0 w K) : Q1 P F.c8 [a0] w K := Q9 Q2r Tryz.func150 rfl (by decide) (by kernel_rfl) h
def Od (a0 : Value) (w : World) (K : Value → World → Prop) : Prop :=
 box P T.n a0 w fun v_i_1 w =>
 Q2 P T.n v_i_1 w fun t3 w =>
 Q1 P F.c8 [t3] w fun t4 w =>
 Q3 P .eql T.t (.tmp 4) (.const (.int .i64 0)) t4 (.int .i64 0) w fun t5 w =>
 K t5 w
theorem An {a0 : Value} {w : World} {K : Value → World → Prop} (h : Od a0 w K) : Q1 P F.aY [a0] w K := Q9 (List.replicate 2 none) Tryz.func149 rfl (by decide) (by kernel_rfl) h
def A9 : W2 := [none, none, none, some ([8], [4, 5, 8, 9, 10, 11, 12, 13, 14, 15, 16, 17, 18]), none, none, none, none, none, none, none]
def R1 (a0 a1 : Value) (w : World) (K : Value → World → Prop) : Prop :=
 X4 P .len [T.j] T.d [false] [a0] w fun t7 w =>
 lp (α := Value) (.int .i64 0) w fun again3 x3 d_ w =>
 Q3 P .lss T.d (.tmp 8) (.tmp 7) x3 t7 w fun t9 w =>
 X1 t9 (
 indexAddr P T.j a0 x3 w fun t14 w =>
 Q2 P T.m t14 w fun t15 w =>
 Z7 P a1 [t15] w fun t16 w =>
 X1 t16 (
 K x3 w) (
 Q3 P .add T.d (.tmp 8) (.const (.int .i64 1)) x3 (.int .i64 1) w fun t18 w =>
 again3 t18 w)) (
 K (.int .i64 (-1)) w)
theorem A8 {a0 a1 : Value} {w : World} {K : Value → World → Prop} (h : R1 a0 a1 w K) : Q1 P F.z [a0, a1] w K := Q9 A9 Tryz.func181 rfl (by decide) (by kernel_rfl) h
def H0 (a0 a1 : Value) (w : World) (K : Value → World → Prop) : Prop :=
 Q1 P F.z [a0, a1] w fun t7 w =>
 Q3 P .geq T.d (.tmp 7) (.const (.int .i64 0)) t7 (.int .i64 0) w fun t8 w =>
 K t8 w
theorem P2 {a0 a1 : Value} {w : World} {K : Value → World → Prop} (h : H0 a0 a1 w K) : Q1 P F.l [a0, a1] w K := Q9 (List.replicate 2 none) Tryz.func167 rfl (by decide) (by kernel_rfl) h
def Xi (a0 a1 : Value) (w : World) (K : Value → World → Prop) : Prop :=
 box P T.m a0 w fun v_x_2 w =>
 Q2 P T.a7 a1 w fun t4 w =>
 Q2 P T.m v_x_2 w fun t5 w =>
 Z7 P t4 [t5] w fun t6 w =>
 U6 P .not t6 w fun t7 w =>
 K t7 w
theorem Nw {a0 a1 : Value} {w : World} {K : Value → World → Prop} (h : Xi a0 a1 w K) : Q1 P F.bx [a0, a1] w K := Q9 (List.replicate 2 none) Tryz.func168 rfl (by decide) (by kernel_rfl) h
def Zj (a0 a1 : Value) (w : World) (K : Value → World → Prop) : Prop :=
 box P T.a7 a1 w fun v_is_3 w =>
 D0 P (.func F.bx) [] [v_is_3] w fun t6 w =>
 Q1 P F.l [a0, t6] w fun t7 w =>
 U6 P .not t7 w fun t8 w =>
 K t8 w
theorem Ea {a0 a1 : Value} {w : World} {K : Value → World → Prop} (h : Zj a0 a1 w K) : Q1 P F.ao [a0, a1] w K := Q9 (List.replicate 2 none) Tryz.func151 rfl (by decide) (by kernel_rfl) h
def Rs (a0 : Value) (w : World) (K : Value → World → Prop) : Prop :=
 box P T.c a0 w fun t1 w =>
 fieldAddr P T.c t1 0 w fun t5 w =>
 Q2 P T.b t5 w fun t6 w =>
 Q1 P F.bq [t6] w fun t7 w =>
 U6 P .not t7 w fun t8 w =>
 Q0 t8 false w (fieldAddr P T.c t1 1) fun t10 w =>
 Q0 t8 false w (Q2 P T.f t10) fun t11 w =>
 Q0 t8 false w (Q1 P F.a3 [t11, (.func (.func F.a1) #[] #[])]) fun t12 w =>
 Q0 t8 false w (U6 P .not t12) fun t13 w =>
 pick P t8 (.bool true) t13 w fun t14 w =>
 Q0 t14 false w (fieldAddr P T.c t1 2) fun t16 w =>
 Q0 t14 false w (Q2 P T.b t16) fun t17 w =>
 Q0 t14 false w (Q3 P .neq T.b (.tmp 17) (.const (.string ⟨#[]⟩)) t17 (.string ⟨#[]⟩)) fun t18 w =>
 Q0 t14 false w (fun w J => J t18 w) fun t19 w =>
 Q0 t19 true w (fieldAddr P T.c t1 2) fun t20 w =>
 Q0 t19 true w (Q2 P T.b t20) fun t21 w =>
 Q0 t19 true w (Q1 P F.a1 [t21]) fun t22 w =>
 Q0 t19 true w (U6 P .not t22) fun t23 w =>
 Q0 t14 false w (pick P t19 t23 (.bool false)) fun t24 w =>
 pick P t14 (.bool true) t24 w fun t25 w =>
 X1 t25 (
 K (.bool false) w) (
 fieldAddr P T.c t1 3 w fun t26 w =>
 Q2 P T.l t26 w fun t27 w =>
 X1 t27 (
 fieldAddr P T.c t1 4 w fun t28 w =>
 Q2 P T.d t28 w fun t29 w =>
 Q3 P .eql T.d (.tmp 29) (.const (.int .i64 0)) t29 (.int .i64 0) w fun t30 w =>
 Q0 t30 true w (fieldAddr P T.c t1 5) fun t32 w =>
 Q0 t30 true w (Q2 P T.k t32) fun t33 w =>
 Q0 t30 true w (X4 P .len [T.k] T.d [false] [t33]) fun t34 w =>
 Q0 t30 true w (Q3 P .eql T.d (.tmp 34) (.const (.int .i64 0)) t34 (.int .i64 0)) fun t35 w =>
 pick P t30 t35 (.bool false) w fun t36 w =>
 Q0 t36 true w (fieldAddr P T.c t1 6) fun t38 w =>
 Q0 t36 true w (Q2 P T.j t38) fun t39 w =>
 Q0 t36 true w (X4 P .len [T.j] T.d [false] [t39]) fun t40 w =>
 Q0 t36 true w (Q3 P .eql T.d (.tmp 40) (.const (.int .i64 0)) t40 (.int .i64 0)) fun t41 w =>
 pick P t36 t41 (.bool false) w fun t42 w =>
 K t42 w) (
 fieldAddr P T.c t1 5 w fun t43 w =>
 Q2 P T.k t43 w fun t44 w =>
 X4 P .len [T.k] T.d [false] [t44] w fun t45 w =>
 M0 P T.d w fun t3 w =>
 V5 P T.d t3 t45 w fun _u w =>
 D0 P (.func F.aX) [] [t3] w fun t46 w =>
 Q2 P T.d t3 w fun t47 w =>
 Q3 P .gtr T.d (.tmp 47) (.const (.int .i64 0)) t47 (.int .i64 0) w fun t48 w =>
 Q0 t48 true w (fieldAddr P T.c t1 4) fun t50 w =>
 Q0 t48 true w (Q2 P T.d t50) fun t51 w =>
 Q0 t48 true w (fieldAddr P T.c t1 1) fun t52 w =>
 Q0 t48 true w (Q2 P T.f t52) fun t53 w =>
 Q0 t48 true w (X4 P .len [T.f] T.d [false] [t53]) fun t54 w =>
 Q0 t48 true w (Q3 P .gtr T.d (.tmp 51) (.tmp 54) t51 t54) fun t55 w =>
 pick P t48 t55 (.bool false) w fun t56 w =>
 Q0 t56 true w (fieldAddr P T.c t1 5) fun t58 w =>
 Q0 t56 true w (Q2 P T.k t58) fun t59 w =>
 Q0 t56 true w (Q1 P F.an [t59, (.func (.func F.aY) #[] #[])]) fun t60 w =>
 pick P t56 t60 (.bool false) w fun t61 w =>
 Q0 t61 true w (fieldAddr P T.c t1 6) fun t63 w =>
 Q0 t61 true w (Q2 P T.j t63) fun t64 w =>
 Q0 t61 true w (fun w J => J t46 w) fun t65 w =>
 Q0 t61 true w (Q1 P F.ao [t64, t65]) fun t66 w =>
 pick P t61 t66 (.bool false) w fun t67 w =>
 K t67 w))
theorem Q0V {a0 : Value} {w : World} {K : Value → World → Prop} (h : Rs a0 w K) : Q1 P F.aQ [a0] w K := Q9 (List.replicate 10 none) Tryz.func121 rfl (by decide) (by kernel_rfl) h
def Fe (a0 : Value) (w : World) (K : Value → World → Prop) : Prop :=
 box P T.a a0 w fun t1 w =>
 fieldAddr P T.a t1 0 w fun t7 w =>
 Q2 P T.b t7 w fun t8 w =>
 fieldAddr P T.a t1 1 w fun t9 w =>
 Q2 P T.b t9 w fun t10 w =>
 buildSlice P T.f 2 [(0, t8), (1, t10)] w fun t11 w =>
 fieldAddr P T.a t1 2 w fun t12 w =>
 Q2 P T.f t12 w fun t13 w =>
 X4 P .append [T.f, T.f] T.f [false, false] [t11, t13] w fun t14 w =>
 dr w fun Tr Br =>
 Q7 Tr (fun φ16 => ∀ w, Br w → R7 P T.f t14 (some (.int .i64 1)) none none w (dk Tr φ16 w)) fun φ16 =>
 Q7 Tr (fun φ17 => ∀ w, Br w → fieldAddr P T.a t1 0 w (dk Tr φ17 w)) fun φ17 =>
 Q7 Tr (fun φ18 => ∀ t17 w, Br w → φ17 t17 w → Q2 P T.b t17 w (dk Tr φ18 w)) fun φ18 =>
 ∀ t16 t17 t18 w, Br w → φ16 t16 w → φ17 t17 w → φ18 t18 w → 
 Q1 P F.a9 [t16, t18] w fun t19 w =>
 fieldAddr P T.a t1 7 w fun t20 w =>
 Q2 P T.e t20 w fun t21 w =>
 Q1 P F.a [t21, (.func (.func F.bT) #[] #[])] w fun t22 w =>
 fieldAddr P T.a t1 7 w fun t23 w =>
 Q2 P T.e t23 w fun t24 w =>
 Q1 P F.a [t24, (.func (.func F.bU) #[] #[])] w fun t25 w =>
 Q1 P F.a3 [t14, (.func (.func F.ac) #[] #[])] w fun t28 w =>
 U6 P .not t28 w fun t29 w =>
 Q0 t29 false w (fun w J => J t19 w) fun t31 w =>
 pick P t29 (.bool true) t31 w fun t32 w =>
 Q0 t32 false w (fieldAddr P T.a t1 2) fun t34 w =>
 Q0 t32 false w (Q2 P T.f t34) fun t35 w =>
 Q0 t32 false w (Q1 P F.aG [t35, (.func (.func F.bV) #[] #[])]) fun t36 w =>
 Q0 t32 false w (U6 P .not t36) fun t37 w =>
 pick P t32 (.bool true) t37 w fun t38 w =>
 X1 t38 (
 K (.bool false) w) (
 fieldAddr P T.a t1 3 w fun t40 w =>
 Q2 P T.l t40 w fun t41 w =>
 Q0 t41 true w (fieldAddr P T.a t1 4) fun t43 w =>
 Q0 t41 true w (Q2 P T.l t43) fun t44 w =>
 Q0 t41 true w (U6 P .not t44) fun t45 w =>
 Q0 t41 true w (fun w J => J t45 w) fun t46 w =>
 Q0 t46 false w (fieldAddr P T.a t1 1) fun t47 w =>
 Q0 t46 false w (Q2 P T.b t47) fun t48 w =>
 Q0 t46 false w (Q3 P .neq T.b (.tmp 48) (.const (.string ⟨#[79, 98, 106, 101, 99, 116]⟩)) t48 (.string ⟨#[79, 98, 106, 101, 99, 116]⟩)) fun t49 w =>
 Q0 t41 true w (pick P t46 (.bool true) t49) fun t50 w =>
 Q0 t41 true w (fun w J => J t50 w) fun t51 w =>
 Q0 t51 false w (fieldAddr P T.a t1 6) fun t52 w =>
 Q0 t51 false w (Q2 P T.h t52) fun t53 w =>
 Q0 t51 false w (X4 P .len [T.h] T.d [false] [t53]) fun t54 w =>
 Q0 t51 false w (Q3 P .gtr T.d (.tmp 54) (.const (.int .i64 0)) t54 (.int .i64 0)) fun t55 w =>
 Q0 t41 true w (pick P t51 (.bool true) t55) fun t56 w =>
 Q0 t41 true w (fun w J => J t56 w) fun t57 w =>
 Q0 t57 false w (fun w J => J t25 w) fun t58 w =>
 Q0 t41 true w (pick P t57 (.bool true) t58) fun t59 w =>
 pick P t41 t59 (.bool false) w fun t60 w =>
 X1 t60 (
 K (.bool false) w) (
 fieldAddr P T.a t1 4 w fun t62 w =>
 Q2 P T.l t62 w fun t63 w =>
 Q0 t63 true w (fieldAddr P T.a t1 5) fun t65 w =>
 Q0 t63 true w (Q2 P T.l t65) fun t66 w =>
 pick P t63 t66 (.bool false) w fun t67 w =>
 Q0 t67 false w (fun w J => J t22 w) fun t69 w =>
 Q0 t67 false w (fun w J => J t69 w) fun t70 w =>
 Q0 t70 true w (fieldAddr P T.a t1 4) fun t71 w =>
 Q0 t70 true w (Q2 P T.l t71) fun t72 w =>
 Q0 t70 true w (U6 P .not t72) fun t73 w =>
 Q0 t67 false w (pick P t70 t73 (.bool false)) fun t74 w =>
 pick P t67 (.bool true) t74 w fun t75 w =>
 X1 t75 (
 K (.bool false) w) (
 fieldAddr P T.a t1 6 w fun t77 w =>
 Q2 P T.h t77 w fun t78 w =>
 Q1 P F.au [t78, (.func (.func F.bW) #[] #[])] w fun t79 w =>
 U6 P .not t79 w fun t80 w =>
 Q0 t80 false w (fieldAddr P T.a t1 7) fun t82 w =>
 Q0 t80 false w (Q2 P T.e t82) fun t83 w =>
 Q0 t80 false w (Q1 P F.ak [t83, (.func (.func F.bX) #[] #[])]) fun t84 w =>
 Q0 t80 false w (U6 P .not t84) fun t85 w =>
 pick P t80 (.bool true) t85 w fun t86 w =>
 X1 t86 (
 K (.bool false) w) (
 fieldAddr P T.a t1 6 w fun t87 w =>
 Q2 P T.h t87 w fun t88 w =>
 Q1 P F.al [t88, (.func (.func F.be) #[] #[])] w fun t89 w =>
 Q0 t89 true w (fieldAddr P T.a t1 7) fun t91 w =>
 Q0 t89 true w (Q2 P T.e t91) fun t92 w =>
 Q0 t89 true w (Q1 P F.ah [t92, (.func (.func F.aQ) #[] #[])]) fun t93 w =>
 pick P t89 t93 (.bool false) w fun t94 w =>
 K t94 w))))
theorem Q21 {a0 : Value} {w : World} {K : Value → World → Prop} (h : Fe a0 w K) : Q1 P F.c2 [a0] w K := Q9 (List.replicate 15 none) Tryz.func74 rfl (by decide) (by kernel_rfl) h
def Fd (a0 : Value) (w : World) (K : Value → World → Prop) : Prop :=
 box P T.a a0 w fun v_c_1 w =>
 Q2 P T.a v_c_1 w fun t4 w =>
 Q1 P F.c7 [t4] w fun t5 w =>
 X1 t5 (
 K (.int .i64 51) w) (
 Q2 P T.a v_c_1 w fun t7 w =>
 Q1 P F.c2 [t7] w fun t8 w =>
 U6 P .not t8 w fun t9 w =>
 X1 t9 (
 K (.int .i64 50) w) (
 K (.int .i64 0) w))
theorem Q1W {a0 : Value} {w : World} {K : Value → World → Prop} (h : Fd a0 w K) : Q1 P F.c1 [a0] w K := Q9 (List.replicate 7 none) Tryz.func38 rfl (by decide) (by kernel_rfl) h
def I9 (a0 : Value) (w : World) (K : Value → World → Prop) : Prop :=
 Q3 P .eql T.f (.tmp 3) (.const (.slice none 0 0)) a0 (.slice none 0 0) w fun t4 w =>
 X1 t4 (
 K (.slice none 0 0) w) (
 buildSlice P T.f 0 [] w fun t5 w =>
 X4 P .append [T.f, T.f] T.f [false, false] [t5, a0] w fun t7 w =>
 K t7 w)
theorem Uz {a0 : Value} {w : World} {K : Value → World → Prop} (h : I9 a0 w K) : Q1 P F.a0 [a0] w K := Q9 (List.replicate 5 none) Tryz.func75 rfl (by decide) (by kernel_rfl) h
def C2 (a0 : Value) (w : World) (K : Value → World → Prop) : Prop :=
 Q3 P .eql T.h (.tmp 3) (.const (.slice none 0 0)) a0 (.slice none 0 0) w fun t4 w =>
 X1 t4 (
 K (.slice none 0 0) w) (
 buildSlice P T.h 0 [] w fun t5 w =>
 X4 P .append [T.h, T.h] T.h [false, false] [t5, a0] w fun t7 w =>
 K t7 w)
theorem Ye {a0 : Value} {w : World} {K : Value → World → Prop} (h : C2 a0 w K) : Q1 P F.a5 [a0] w K := Q9 (List.replicate 5 none) Tryz.func76 rfl (by decide) (by kernel_rfl) h
def C1 (a0 : Value) (w : World) (K : Value → World → Prop) : Prop :=
 Q3 P .eql T.k (.tmp 3) (.const (.slice none 0 0)) a0 (.slice none 0 0) w fun t4 w =>
 X1 t4 (
 K (.slice none 0 0) w) (
 buildSlice P T.k 0 [] w fun t5 w =>
 X4 P .append [T.k, T.k] T.k [false, false] [t5, a0] w fun t7 w =>
 K t7 w)
theorem Xs {a0 : Value} {w : World} {K : Value → World → Prop} (h : C1 a0 w K) : Q1 P F.a6 [a0] w K := Q9 (List.replicate 5 none) Tryz.func122 rfl (by decide) (by kernel_rfl) h
def S9 (a0 : Value) (w : World) (K : Value → World → Prop) : Prop :=
 Q3 P .eql T.j (.tmp 3) (.const (.slice none 0 0)) a0 (.slice none 0 0) w fun t4 w =>
 X1 t4 (
 K (.slice none 0 0) w) (
 buildSlice P T.j 0 [] w fun t5 w =>
 X4 P .append [T.j, T.j] T.j [false, false] [t5, a0] w fun t7 w =>
 K t7 w)
theorem Yi {a0 : Value} {w : World} {K : Value → World → Prop} (h : S9 a0 w K) : Q1 P F.a7 [a0] w K := Q9 (List.replicate 5 none) Tryz.func123 rfl (by decide) (by kernel_rfl) h
def Fb (a0 : Value) (w : World) (K : Value → World → Prop) : Prop :=
 box P T.c a0 w fun v_m_1 w =>
 M0 P T.c w fun t2 w =>
 dr w fun Tr Br =>
 Q7 Tr (fun φ3 => ∀ w, Br w → fieldAddr P T.c v_m_1 1 w (dk Tr φ3 w)) fun φ3 =>
 Q7 Tr (fun φ6 => ∀ w, Br w → fieldAddr P T.c v_m_1 5 w (dk Tr φ6 w)) fun φ6 =>
 Q7 Tr (fun φ9 => ∀ w, Br w → fieldAddr P T.c v_m_1 6 w (dk Tr φ9 w)) fun φ9 =>
 Q7 Tr (fun φ4 => ∀ t3 w, Br w → φ3 t3 w → Q2 P T.f t3 w (dk Tr φ4 w)) fun φ4 =>
 Q7 Tr (fun φ5 => ∀ t4 w, Br w → φ4 t4 w → Q1 P F.a0 [t4] w (dk Tr φ5 w)) fun φ5 =>
 Q7 Tr (fun φ7 => ∀ t6 w, Br w → φ6 t6 w → Q2 P T.k t6 w (dk Tr φ7 w)) fun φ7 =>
 Q7 Tr (fun φ8 => ∀ t7 w, Br w → φ7 t7 w → Q1 P F.a6 [t7] w (dk Tr φ8 w)) fun φ8 =>
 Q7 Tr (fun φ10 => ∀ t9 w, Br w → φ9 t9 w → Q2 P T.j t9 w (dk Tr φ10 w)) fun φ10 =>
 Q7 Tr (fun φ12 => ∀ w, Br w → fieldAddr P T.c v_m_1 1 w (dk Tr φ12 w)) fun φ12 =>
 Q7 Tr (fun φ11 => ∀ t10 w, Br w → φ10 t10 w → Q1 P F.a7 [t10] w (dk Tr φ11 w)) fun φ11 =>
 ∀ t3 t6 t9 t4 t5 t7 t8 t10 t12 t11 w, Br w → φ3 t3 w → φ6 t6 w → φ9 t9 w → φ4 t4 w → φ5 t5 w → φ7 t7 w → φ8 t8 w → φ10 t10 w → φ12 t12 w → φ11 t11 w → 
 V5 P T.f t12 t5 w fun _u w =>
 fieldAddr P T.c v_m_1 5 w fun t13 w =>
 V5 P T.k t13 t8 w fun _u w =>
 fieldAddr P T.c v_m_1 6 w fun t14 w =>
 V5 P T.j t14 t11 w fun _u w =>
 Q2 P T.c v_m_1 w fun t15 w =>
 V5 P T.c t2 t15 w fun _u w =>
 N2 P T.c t2 w fun r0 =>
 K r0 w
theorem Q20 {a0 : Value} {w : World} {K : Value → World → Prop} (h : Fb a0 w K) : Q1 P F.bD [a0] w K := Q9 (List.replicate 3 none) Tryz.func77 rfl (by decide) (by kernel_rfl) h
def Q1X : W2 := [none, none, none, none, none, some ([3, 17], [3, 5, 17, 18, 19, 20, 21, 22, 23, 24, 25, 26]), none, none, none, none, none, none]
def Ff (a0 : Value) (w : World) (K : Value → World → Prop) : Prop :=
 box P T.a a0 w fun v_c_1 w =>
 M0 P T.a w fun t2 w =>
 dr w fun Tr Br =>
 Q7 Tr (fun φ6 => ∀ w, Br w → fieldAddr P T.a v_c_1 2 w (dk Tr φ6 w)) fun φ6 =>
 Q7 Tr (fun φ9 => ∀ w, Br w → fieldAddr P T.a v_c_1 6 w (dk Tr φ9 w)) fun φ9 =>
 Q7 Tr (fun φ7 => ∀ t6 w, Br w → φ6 t6 w → Q2 P T.f t6 w (dk Tr φ7 w)) fun φ7 =>
 Q7 Tr (fun φ8 => ∀ t7 w, Br w → φ7 t7 w → Q1 P F.a0 [t7] w (dk Tr φ8 w)) fun φ8 =>
 Q7 Tr (fun φ10 => ∀ t9 w, Br w → φ9 t9 w → Q2 P T.h t9 w (dk Tr φ10 w)) fun φ10 =>
 Q7 Tr (fun φ12 => ∀ w, Br w → fieldAddr P T.a v_c_1 2 w (dk Tr φ12 w)) fun φ12 =>
 Q7 Tr (fun φ11 => ∀ t10 w, Br w → φ10 t10 w → Q1 P F.a5 [t10] w (dk Tr φ11 w)) fun φ11 =>
 ∀ t6 t9 t7 t8 t10 t12 t11 w, Br w → φ6 t6 w → φ9 t9 w → φ7 t7 w → φ8 t8 w → φ10 t10 w → φ12 t12 w → φ11 t11 w → 
 V5 P T.f t12 t8 w fun _u w =>
 fieldAddr P T.a v_c_1 6 w fun t13 w =>
 V5 P T.h t13 t11 w fun _u w =>
 fieldAddr P T.a v_c_1 7 w fun t14 w =>
 Q2 P T.e t14 w fun t15 w =>
 X4 P .len [T.e] T.d [false] [t15] w fun t16 w =>
 lp (α := Value × Value) ((.slice none 0 0), (.int .i64 0)) w fun again5 x5 d_ w =>
 Q3 P .lss T.d (.tmp 17) (.tmp 16) x5.2 t16 w fun t18 w =>
 X1 t18 (
 indexAddr P T.e t15 x5.2 w fun t19 w =>
 Q2 P T.c t19 w fun t20 w =>
 M0 P T.c w fun v_m_5 w =>
 V5 P T.c v_m_5 t20 w fun _u w =>
 Q2 P T.c v_m_5 w fun t22 w =>
 Q1 P F.bD [t22] w fun t23 w =>
 buildSlice P T.e 1 [(0, t23)] w fun t24 w =>
 X4 P .append [T.e, T.e] T.e [false, false] [x5.1, t24] w fun t25 w =>
 Q3 P .add T.d (.tmp 17) (.const (.int .i64 1)) x5.2 (.int .i64 1) w fun t26 w =>
 again5 (t25, t26) w) (
 fieldAddr P T.a v_c_1 7 w fun t28 w =>
 V5 P T.e t28 x5.1 w fun _u w =>
 Q2 P T.a v_c_1 w fun t29 w =>
 V5 P T.a t2 t29 w fun _u w =>
 N2 P T.a t2 w fun r0 =>
 K r0 w)
theorem Q1T {a0 : Value} {w : World} {K : Value → World → Prop} (h : Ff a0 w K) : Q1 P F.bC [a0] w K := Q9 Q1X Tryz.func39 rfl (by decide) (by kernel_rfl) h
def Xt (a0 a1 : Value) (w : World) (K : Value → World → Prop) : Prop :=
 nilCheck P a0 w fun t9 w =>
 fieldAddr P T.q t9 1 w fun t10 w =>
 Q2 P T.r t10 w fun t11 w =>
 lookup P T.r t11 a1 true w fun t13 w =>
 ext P t13 0 w fun t14 w =>
 ext P t13 1 w fun t15 w =>
 K t15 w
theorem Lw {a0 a1 : Value} {w : World} {K : Value → World → Prop} (h : Xt a0 a1 w K) : Q1 P F.f [a0, a1] w K := Q9 (List.replicate 3 none) Tryz.func40 rfl (by decide) (by kernel_rfl) h
def Uv (a0 a1 : Value) (w : World) (K : Value → World → Prop) : Prop :=
 M0 P T.a w fun t4 w =>
 dr w fun Tr Br =>
 Q7 Tr (fun φ6 => ∀ w, Br w → nilCheck P a0 w (dk Tr φ6 w)) fun φ6 =>
 Q7 Tr (fun φ7 => ∀ t6 w, Br w → φ6 t6 w → fieldAddr P T.q t6 0 w (dk Tr φ7 w)) fun φ7 =>
 Q7 Tr (fun φ10 => ∀ w, Br w → nilCheck P a0 w (dk Tr φ10 w)) fun φ10 =>
 Q7 Tr (fun φ11 => ∀ t10 w, Br w → φ10 t10 w → fieldAddr P T.q t10 1 w (dk Tr φ11 w)) fun φ11 =>
 Q7 Tr (fun φ8 => ∀ t7 w, Br w → φ7 t7 w → Q2 P T.g t7 w (dk Tr φ8 w)) fun φ8 =>
 Q7 Tr (fun φ12 => ∀ t11 w, Br w → φ11 t11 w → Q2 P T.r t11 w (dk Tr φ12 w)) fun φ12 =>
 Q7 Tr (fun φ14 => ∀ t12 w, Br w → φ12 t12 w → lookup P T.r t12 a1 false w (dk Tr φ14 w)) fun φ14 =>
 ∀ t6 t7 t10 t11 t8 t12 t14 w, Br w → φ6 t6 w → φ7 t7 w → φ10 t10 w → φ11 t11 w → φ8 t8 w → φ12 t12 w → φ14 t14 w → 
 indexAddr P T.g t8 t14 w fun t15 w =>
 Q2 P T.a t15 w fun t16 w =>
 V5 P T.a t4 t16 w fun _u w =>
 N2 P T.a t4 w fun r0 =>
 K r0 w
theorem Cm {a0 a1 : Value} {w : World} {K : Value → World → Prop} (h : Uv a0 a1 w K) : Q1 P F.d [a0, a1] w K := Q9 (List.replicate 2 none) Tryz.func61 rfl (by decide) (by kernel_rfl) h
def Rt : W2 := [none, none, none, none, none, none, some ([29], [4, 6, 29, 30, 31, 32, 33, 34, 35, 36, 37, 38, 39, 40, 41, 42, 43, 44]), none, none, none, none, none, none, none]
def Uk (a0 a1 : Value) (w : World) (K : Value → World → Prop) : Prop :=
 box P T.a a1 w fun v_c_3 w =>
 fieldAddr P T.a v_c_3 1 w fun t8 w =>
 Q2 P T.b t8 w fun t9 w =>
 Q1 P F.f [a0, t9] w fun t10 w =>
 U6 P .not t10 w fun t11 w =>
 Q0 t11 false w (fun w J => J a0 w) fun t13 w =>
 Q0 t11 false w (fieldAddr P T.a v_c_3 1) fun t14 w =>
 Q0 t11 false w (Q2 P T.b t14) fun t15 w =>
 Q0 t11 false w (Q1 P F.d [t13, t15]) fun t16 w =>
 Q0 t11 false w (D1 P T.a t16 3) fun t17 w =>
 pick P t11 (.bool true) t17 w fun t18 w =>
 Q0 t18 false w (fun w J => J a0 w) fun t20 w =>
 Q0 t18 false w (fieldAddr P T.a v_c_3 1) fun t21 w =>
 Q0 t18 false w (Q2 P T.b t21) fun t22 w =>
 Q0 t18 false w (Q1 P F.d [t20, t22]) fun t23 w =>
 Q0 t18 false w (D1 P T.a t23 5) fun t24 w =>
 pick P t18 (.bool true) t24 w fun t25 w =>
 X1 t25 (
 K (.int .i64 61) w) (
 fieldAddr P T.a v_c_3 2 w fun t26 w =>
 Q2 P T.f t26 w fun t27 w =>
 X4 P .len [T.f] T.d [false] [t27] w fun t28 w =>
 lp (α := Value) (.int .i64 0) w fun again6 x6 d_ w =>
 Q3 P .lss T.d (.tmp 29) (.tmp 28) x6 t28 w fun t30 w =>
 X1 t30 (
 indexAddr P T.f t27 x6 w fun t31 w =>
 Q2 P T.b t31 w fun t32 w =>
 Q1 P F.f [a0, t32] w fun t35 w =>
 U6 P .not t35 w fun t36 w =>
 Q0 t36 false w (fun w J => J a0 w) fun t38 w =>
 Q0 t36 false w (fun w J => J t32 w) fun t39 w =>
 Q0 t36 false w (Q1 P F.d [t38, t39]) fun t40 w =>
 Q0 t36 false w (D1 P T.a t40 3) fun t41 w =>
 Q0 t36 false w (U6 P .not t41) fun t42 w =>
 pick P t36 (.bool true) t42 w fun t43 w =>
 X1 t43 (
 K (.int .i64 62) w) (
 Q3 P .add T.d (.tmp 29) (.const (.int .i64 1)) x6 (.int .i64 1) w fun t44 w =>
 again6 t44 w)) (
 K (.int .i64 0) w))
theorem Rf {a0 a1 : Value} {w : World} {K : Value → World → Prop} (h : Uk a0 a1 w K) : Q1 P F.aU [a0, a1] w K := Q9 Rt Tryz.func41 rfl (by decide) (by kernel_rfl) h
def Qc : W2 := [none, none, none, some ([8], [4, 5, 8, 9, 10, 11, 12, 13, 14, 15, 16, 17, 18]), none, none, none, none, none, none, none]
def H9 (a0 a1 : Value) (w : World) (K : Value → World → Prop) : Prop :=
 X4 P .len [T.g] T.d [false] [a0] w fun t7 w =>
 lp (α := Value) (.int .i64 0) w fun again3 x3 d_ w =>
 Q3 P .lss T.d (.tmp 8) (.tmp 7) x3 t7 w fun t9 w =>
 X1 t9 (
 indexAddr P T.g a0 x3 w fun t14 w =>
 Q2 P T.a t14 w fun t15 w =>
 Z7 P a1 [t15] w fun t16 w =>
 X1 t16 (
 K x3 w) (
 Q3 P .add T.d (.tmp 8) (.const (.int .i64 1)) x3 (.int .i64 1) w fun t18 w =>
 again3 t18 w)) (
 K (.int .i64 (-1)) w)
theorem Qh {a0 a1 : Value} {w : World} {K : Value → World → Prop} (h : H9 a0 a1 w K) : Q1 P F.m [a0, a1] w K := Q9 Qc Tryz.func42 rfl (by decide) (by kernel_rfl) h
def Sg : W2 := [none, none, none, some ([7], [6, 7, 9, 10, 11, 12, 16, 17, 18, 19, 20, 21, 22, 23, 24, 25, 26, 27, 28, 29, 30, 31, 32, 33, 34, 35, 36, 37, 38, 39, 40, 41, 42, 43, 44, 45, 46, 47, 48, 49, 50, 51, 52]), none, none, none, none, none, none, none, none, none, none, none, none, none]
def Wj (a0 a1 a2 : Value) (w : World) (K : Value → World → Prop) : Prop :=
 buildSlice P T.f 1 [(0, a1)] w fun t14 w =>
 Sy P T.r none w fun t15 w =>
 lp (α := Value) t14 w fun again3 x3 d_ w =>
 X4 P .len [T.f] T.d [false] [x3] w fun t17 w =>
 Q3 P .gtr T.d (.tmp 17) (.const (.int .i64 0)) t17 (.int .i64 0) w fun t18 w =>
 X1 t18 (
 indexAddr P T.f x3 (.int .i64 0) w fun t20 w =>
 Q2 P T.b t20 w fun t21 w =>
 R7 P T.f x3 (some (.int .i64 1)) none none w fun t23 w =>
 lookup P T.r t15 t21 true w fun t27 w =>
 ext P t27 0 w fun t28 w =>
 ext P t27 1 w fun t29 w =>
 Q0 t29 false w (fun w J => J a0 w) fun t32 w =>
 Q0 t29 false w (fun w J => J t21 w) fun t33 w =>
 Q0 t29 false w (Q1 P F.f [t32, t33]) fun t34 w =>
 Q0 t29 false w (U6 P .not t34) fun t35 w =>
 pick P t29 (.bool true) t35 w fun t36 w =>
 X1 t36 (
 again3 t23 w) (
 mapUpdate P T.r t15 t21 (.int .i64 1) w fun _u w =>
 Q1 P F.d [a0, t21] w fun t41 w =>
 M0 P T.a w fun v_c_12 w =>
 V5 P T.a v_c_12 t41 w fun _u w =>
 Q2 P T.a v_c_12 w fun t43 w =>
 Z7 P a2 [t43] w fun t44 w =>
 X1 t44 (
 K (.bool true) w) (
 dr w fun Tr Br =>
 Q7 Tr (fun φ46 => ∀ w, Br w → fieldAddr P T.a v_c_12 1 w (dk Tr φ46 w)) fun φ46 =>
 Q7 Tr (fun φ50 => ∀ w, Br w → fieldAddr P T.a v_c_12 2 w (dk Tr φ50 w)) fun φ50 =>
 Q7 Tr (fun φ47 => ∀ t46 w, Br w → φ46 t46 w → Q2 P T.b t46 w (dk Tr φ47 w)) fun φ47 =>
 Q7 Tr (fun φ48 => ∀ t47 w, Br w → φ47 t47 w → buildSlice P T.f 1 [(0, t47)] w (dk Tr φ48 w)) fun φ48 =>
 Q7 Tr (fun φ49 => ∀ t48 w, Br w → φ48 t48 w → X4 P .append [T.f, T.f] T.f [false, false] [t23, t48] w (dk Tr φ49 w)) fun φ49 =>
 Q7 Tr (fun φ51 => ∀ t50 w, Br w → φ50 t50 w → Q2 P T.f t50 w (dk Tr φ51 w)) fun φ51 =>
 ∀ t46 t50 t47 t48 t49 t51 w, Br w → φ46 t46 w → φ50 t50 w → φ47 t47 w → φ48 t48 w → φ49 t49 w → φ51 t51 w → 
 X4 P .append [T.f, T.f] T.f [false, false] [t49, t51] w fun t52 w =>
 again3 t52 w))) (
 K (.bool false) w)
theorem Sq {a0 a1 a2 : Value} {w : World} {K : Value → World → Prop} (h : Wj a0 a1 a2 w K) : Q1 P F.t [a0, a1, a2] w K := Q9 Sg Tryz.func54 rfl (by decide) (by kernel_rfl) h
def Xv (a0 a1 : Value) (w : World) (K : Value → World → Prop) : Prop :=
 box P T.a a0 w fun v_d_2 w =>
 fieldAddr P T.a v_d_2 0 w fun t4 w =>
 Q2 P T.b t4 w fun t5 w =>
 fieldAddr P T.a a1 0 w fun t6 w =>
 Q2 P T.b t6 w fun t7 w =>
 Q3 P .eql T.b (.tmp 5) (.tmp 7) t5 t7 w fun t8 w =>
 K t8 w
theorem Oc {a0 a1 : Value} {w : World} {K : Value → World → Prop} (h : Xv a0 a1 w K) : Q1 P F.bE [a0, a1] w K := Q9 (List.replicate 2 none) Tryz.func79 rfl (by decide) (by kernel_rfl) h
def Ja (a0 a1 a2 : Value) (w : World) (K : Value → World → Prop) : Prop :=
 Q2 P T.p a1 w fun t5 w =>
 D0 P (.func F.bE) [] [a2] w fun t7 w =>
 Q1 P F.t [t5, a0, t7] w fun t8 w =>
 K t8 w
theorem Hl {a0 a1 a2 : Value} {w : World} {K : Value → World → Prop} (h : Ja a0 a1 a2 w K) : Q1 P F.aP [a0, a1, a2] w K := Q9 (List.replicate 2 none) Tryz.func78 rfl (by decide) (by kernel_rfl) h
def Wd (a0 a1 : Value) (w : World) (K : Value → World → Prop) : Prop :=
 box P T.p a0 w fun v_t_2 w =>
 box P T.a a1 w fun v_c_3 w =>
 D0 P (.func F.aP) [] [v_t_2, v_c_3] w fun t6 w =>
 fieldAddr P T.a v_c_3 1 w fun t8 w =>
 Q2 P T.b t8 w fun t9 w =>
 Z7 P t6 [t9] w fun t10 w =>
 Q0 t10 false w (fieldAddr P T.a v_c_3 2) fun t12 w =>
 Q0 t10 false w (Q2 P T.f t12) fun t13 w =>
 Q0 t10 false w (fun w J => J t6 w) fun t14 w =>
 Q0 t10 false w (Q1 P F.c [t13, t14]) fun t15 w =>
 pick P t10 (.bool true) t15 w fun t16 w =>
 K t16 w
theorem Cg {a0 a1 : Value} {w : World} {K : Value → World → Prop} (h : Wd a0 a1 w K) : Q1 P F.b3 [a0, a1] w K := Q9 (List.replicate 3 none) Tryz.func43 rfl (by decide) (by kernel_rfl) h
def Oe : W2 := [none, none, none, some ([8], [4, 5, 8, 9, 10, 11, 12, 13, 14, 15, 16, 17, 18]), none, none, none, none, none, none, none]
def Yu (a0 a1 : Value) (w : World) (K : Value → World → Prop) : Prop :=
 X4 P .len [T.v] T.d [false] [a0] w fun t7 w =>
 lp (α := Value) (.int .i64 0) w fun again3 x3 d_ w =>
 Q3 P .lss T.d (.tmp 8) (.tmp 7) x3 t7 w fun t9 w =>
 X1 t9 (
 indexAddr P T.v a0 x3 w fun t14 w =>
 Q2 P T.d t14 w fun t15 w =>
 Q3 P .eql T.d (.tmp 11) (.tmp 15) a1 t15 w fun t16 w =>
 X1 t16 (
 K x3 w) (
 Q3 P .add T.d (.tmp 8) (.const (.int .i64 1)) x3 (.int .i64 1) w fun t18 w =>
 again3 t18 w)) (
 K (.int .i64 (-1)) w)
theorem Da {a0 a1 : Value} {w : World} {K : Value → World → Prop} (h : Yu a0 a1 w K) : Q1 P F.bF [a0, a1] w K := Q9 Oe Tryz.func125 rfl (by decide) (by kernel_rfl) h
def A7 (a0 a1 : Value) (w : World) (K : Value → World → Prop) : Prop :=
 Q1 P F.bF [a0, a1] w fun t7 w =>
 Q3 P .geq T.d (.tmp 7) (.const (.int .i64 0)) t7 (.int .i64 0) w fun t8 w =>
 K t8 w
theorem Mf {a0 a1 : Value} {w : World} {K : Value → World → Prop} (h : A7 a0 a1 w K) : Q1 P F.av [a0, a1] w K := Q9 (List.replicate 2 none) Tryz.func82 rfl (by decide) (by kernel_rfl) h
def Ho : W2 := [none, none, none, none, some ([35], [7, 35, 36, 37, 38, 39, 40, 41, 42, 43, 44, 45, 46, 47]), none, none, none, none]
def K2 (a0 a1 a2 a3 a4 : Value) (w : World) (K : Value → World → Prop) : Prop :=
 Q2 P T.d a1 w fun t9 w =>
 Q3 P .lss T.d (.tmp 8) (.tmp 9) a0 t9 w fun t10 w =>
 Q0 t10 false w (Q2 P T.v a2) fun t12 w =>
 Q0 t10 false w (fun w J => J a0 w) fun t13 w =>
 Q0 t10 false w (Q1 P F.av [t12, t13]) fun t14 w =>
 pick P t10 (.bool true) t14 w fun t15 w =>
 X1 t15 (
 K (.tuple #[]) w) (
 dr w fun Tr Br =>
 Q7 Tr (fun φ16 => ∀ w, Br w → Q2 P T.p a3 w (dk Tr φ16 w)) fun φ16 =>
 Q7 Tr (fun φ17 => ∀ t16 w, Br w → φ16 t16 w → nilCheck P t16 w (dk Tr φ17 w)) fun φ17 =>
 Q7 Tr (fun φ18 => ∀ t17 w, Br w → φ17 t17 w → fieldAddr P T.q t17 0 w (dk Tr φ18 w)) fun φ18 =>
 Q7 Tr (fun φ19 => ∀ t18 w, Br w → φ18 t18 w → Q2 P T.g t18 w (dk Tr φ19 w)) fun φ19 =>
 Q7 Tr (fun φ21 => ∀ t19 w, Br w → φ19 t19 w → indexAddr P T.g t19 a0 w (dk Tr φ21 w)) fun φ21 =>
 Q7 Tr (fun φ22 => ∀ t21 w, Br w → φ21 t21 w → fieldAddr P T.a t21 1 w (dk Tr φ22 w)) fun φ22 =>
 Q7 Tr (fun φ23 => ∀ t22 w, Br w → φ22 t22 w → Q2 P T.b t22 w (dk Tr φ23 w)) fun φ23 =>
 Q7 Tr (fun φ24 => ∀ t23 w, Br w → φ23 t23 w → buildSlice P T.f 1 [(0, t23)] w (dk Tr φ24 w)) fun φ24 =>
 Q7 Tr (fun φ25 => ∀ w, Br w → Q2 P T.p a3 w (dk Tr φ25 w)) fun φ25 =>
 Q7 Tr (fun φ26 => ∀ t25 w, Br w → φ25 t25 w → nilCheck P t25 w (dk Tr φ26 w)) fun φ26 =>
 Q7 Tr (fun φ27 => ∀ t26 w, Br w → φ26 t26 w → fieldAddr P T.q t26 0 w (dk Tr φ27 w)) fun φ27 =>
 Q7 Tr (fun φ28 => ∀ t27 w, Br w → φ27 t27 w → Q2 P T.g t27 w (dk Tr φ28 w)) fun φ28 =>
 Q7 Tr (fun φ30 => ∀ t28 w, Br w → φ28 t28 w → indexAddr P T.g t28 a0 w (dk Tr φ30 w)) fun φ30 =>
 Q7 Tr (fun φ31 => ∀ t30 w, Br w → φ30 t30 w → fieldAddr P T.a t30 2 w (dk Tr φ31 w)) fun φ31 =>
 Q7 Tr (fun φ32 => ∀ t31 w, Br w → φ31 t31 w → Q2 P T.f t31 w (dk Tr φ32 w)) fun φ32 =>
 ∀ t16 t17 t18 t19 t21 t22 t23 t24 t25 t26 t27 t28 t30 t31 t32 w, Br w → φ16 t16 w → φ17 t17 w → φ18 t18 w → φ19 t19 w → φ21 t21 w → φ22 t22 w → φ23 t23 w → φ24 t24 w → φ25 t25 w → φ26 t26 w → φ27 t27 w → φ28 t28 w → φ30 t30 w → φ31 t31 w → φ32 t32 w → 
 X4 P .append [T.f, T.f] T.f [false, false] [t24, t32] w fun t33 w =>
 X4 P .len [T.f] T.d [false] [t33] w fun t34 w =>
 lp (α := Value) (.int .i64 0) w fun again4 x4 d_ w =>
 Q3 P .lss T.d (.tmp 35) (.tmp 34) x4 t34 w fun t36 w =>
 X1 t36 (
 indexAddr P T.f t33 x4 w fun t37 w =>
 Q2 P T.b t37 w fun t38 w =>
 dr w fun Tr Br =>
 Q7 Tr (fun φ39 => ∀ w, Br w → Q2 P T.ae a4 w (dk Tr φ39 w)) fun φ39 =>
 Q7 Tr (fun φ40 => ∀ w, Br w → Q2 P T.p a3 w (dk Tr φ40 w)) fun φ40 =>
 Q7 Tr (fun φ41 => ∀ t40 w, Br w → φ40 t40 w → nilCheck P t40 w (dk Tr φ41 w)) fun φ41 =>
 Q7 Tr (fun φ42 => ∀ t41 w, Br w → φ41 t41 w → fieldAddr P T.q t41 1 w (dk Tr φ42 w)) fun φ42 =>
 Q7 Tr (fun φ43 => ∀ t42 w, Br w → φ42 t42 w → Q2 P T.r t42 w (dk Tr φ43 w)) fun φ43 =>
 Q7 Tr (fun φ45 => ∀ t43 w, Br w → φ43 t43 w → lookup P T.r t43 t38 false w (dk Tr φ45 w)) fun φ45 =>
 ∀ t39 t40 t41 t42 t43 t45 w, Br w → φ39 t39 w → φ40 t40 w → φ41 t41 w → φ42 t42 w → φ43 t43 w → φ45 t45 w → 
 Z7 P t39 [t45] w fun t46 w =>
 Q3 P .add T.d (.tmp 35) (.const (.int .i64 1)) x4 (.int .i64 1) w fun t47 w =>
 again4 t47 w) (
 Q2 P T.v a2 w fun t48 w =>
 buildSlice P T.v 1 [(0, a0)] w fun t50 w =>
 X4 P .append [T.v, T.v] T.v [false, false] [t48, t50] w fun t51 w =>
 V5 P T.v a2 t51 w fun _u w =>
 K (.tuple #[]) w))
theorem Jg {a0 a1 a2 a3 a4 : Value} {w : World} {K : Value → World → Prop} (h : K2 a0 a1 a2 a3 a4 w K) : Q1 P F.u [a0, a1, a2, a3, a4] w K := Q9 Ho Tryz.func81 rfl (by decide) (by kernel_rfl) h
def Bs : W2 := [none, none, none, none, none, none, some ([7], [7, 10, 11, 12, 13, 14, 15, 16, 17, 18, 19, 20, 21]), none, none, none, none]
def Wh (a0 a1 : Value) (w : World) (K : Value → World → Prop) : Prop :=
 box P T.p a0 w fun v_t_2 w =>
 box P T.d a1 w fun v_from_3 w =>
 M0 P T.v w fun v_out_5 w =>
 M0 P T.ae w fun v_walk_6 w =>
 D0 P (.func F.u) [] [v_from_3, v_out_5, v_t_2, v_walk_6] w fun t8 w =>
 V5 P T.ae v_walk_6 t8 w fun _u w =>
 Q2 P T.d v_from_3 w fun t9 w =>
 lp (α := Value) t9 w fun again6 x6 d_ w =>
 Q2 P T.p v_t_2 w fun t11 w =>
 nilCheck P t11 w fun t12 w =>
 fieldAddr P T.q t12 0 w fun t13 w =>
 Q2 P T.g t13 w fun t14 w =>
 X4 P .len [T.g] T.d [false] [t14] w fun t15 w =>
 Q3 P .lss T.d (.tmp 10) (.tmp 15) x6 t15 w fun t16 w =>
 X1 t16 (
 Q2 P T.ae v_walk_6 w fun t19 w =>
 Z7 P t19 [x6] w fun t21 w =>
 Q3 P .add T.d (.tmp 17) (.const (.int .i64 1)) x6 (.int .i64 1) w fun t18 w =>
 again6 t18 w) (
 Q2 P T.v v_out_5 w fun t22 w =>
 K t22 w)
theorem Bo {a0 a1 : Value} {w : World} {K : Value → World → Prop} (h : Wh a0 a1 w K) : Q1 P F.b4 [a0, a1] w K := Q9 Bs Tryz.func44 rfl (by decide) (by kernel_rfl) h
def Xg : W2 := [none, some ([2, 3], [2, 3, 7, 8, 9, 10, 11, 12, 13, 14, 15, 16, 17, 18, 19, 20, 21, 22, 23, 24, 25, 26, 27]), none, none, none]
def S2 (a0 : Value) (w : World) (K : Value → World → Prop) : Prop :=
 X4 P .len [T.g] T.d [false] [a0] w fun t5 w =>
 Q3 P .sub T.d (.tmp 5) (.const (.int .i64 1)) t5 (.int .i64 1) w fun t6 w =>
 lp (α := Value × Value) ((.int .i64 0), t6) w fun again1 x1 d_ w =>
 Q3 P .lss T.d (.tmp 7) (.tmp 8) x1.1 x1.2 w fun t9 w =>
 X1 t9 (
 dr w fun Tr Br =>
 Q7 Tr (fun φ20 => ∀ w, Br w → indexAddr P T.g a0 x1.2 w (dk Tr φ20 w)) fun φ20 =>
 Q7 Tr (fun φ24 => ∀ w, Br w → indexAddr P T.g a0 x1.1 w (dk Tr φ24 w)) fun φ24 =>
 Q7 Tr (fun φ21 => ∀ t20 w, Br w → φ20 t20 w → Q2 P T.a t20 w (dk Tr φ21 w)) fun φ21 =>
 Q7 Tr (fun φ25 => ∀ t24 w, Br w → φ24 t24 w → Q2 P T.a t24 w (dk Tr φ25 w)) fun φ25 =>
 ∀ t20 t24 t21 t25 w, Br w → φ20 t20 w → φ24 t24 w → φ21 t21 w → φ25 t25 w → 
 indexAddr P T.g a0 x1.1 w fun t26 w =>
 V5 P T.a t26 t21 w fun _u w =>
 indexAddr P T.g a0 x1.2 w fun t27 w =>
 V5 P T.a t27 t25 w fun _u w =>
 Q3 P .add T.d (.tmp 10) (.const (.int .i64 1)) x1.1 (.int .i64 1) w fun t11 w =>
 Q3 P .sub T.d (.tmp 12) (.const (.int .i64 1)) x1.2 (.int .i64 1) w fun t13 w =>
 again1 (t11, t13) w) (
 K (.tuple #[]) w)
theorem Xd {a0 : Value} {w : World} {K : Value → World → Prop} (h : S2 a0 w K) : Q1 P F.n [a0] w K := Q9 Xg Tryz.func65 rfl (by decide) (by kernel_rfl) h
def Fv : W2 := [none, none, none, none, some ([5, 6], [5, 6, 8, 9, 10, 11, 12, 13, 14, 15, 16, 17, 18, 19, 20]), none, none, none, none, none]
def Wx (a0 a1 : Value) (w : World) (K : Value → World → Prop) : Prop :=
 lp (α := Value × Value) ((.slice none 0 0), a1) w fun again4 x4 d_ w =>
 Q1 P F.f [a0, x4.2] w fun t10 w =>
 X1 t10 (
 Q1 P F.d [a0, x4.2] w fun t18 w =>
 buildSlice P T.g 1 [(0, t18)] w fun t19 w =>
 X4 P .append [T.g, T.g] T.g [false, false] [x4.1, t19] w fun t20 w =>
 Q1 P F.d [a0, x4.2] w fun t13 w =>
 D1 P T.a t13 1 w fun t14 w =>
 again4 (t20, t14) w) (
 Q1 P F.n [x4.1] w fun t22 w =>
 K x4.1 w)
theorem Gv {a0 a1 : Value} {w : World} {K : Value → World → Prop} (h : Wx a0 a1 w K) : Q1 P F.aD [a0, a1] w K := Q9 Fv Tryz.func62 rfl (by decide) (by kernel_rfl) h
def Ra : W2 := [none, none, none, none, some ([5, 12], [5, 7, 12, 13, 14, 15, 16, 17, 18, 19, 20]), none, none, none, none, none]
def Ug (a0 a1 : Value) (w : World) (K : Value → World → Prop) : Prop :=
 Q1 P F.aD [a0, a1] w fun t10 w =>
 X4 P .len [T.g] T.d [false] [t10] w fun t11 w =>
 lp (α := Value × Value) ((.slice none 0 0), (.int .i64 0)) w fun again4 x4 d_ w =>
 Q3 P .lss T.d (.tmp 12) (.tmp 11) x4.2 t11 w fun t13 w =>
 X1 t13 (
 indexAddr P T.g t10 x4.2 w fun t14 w =>
 Q2 P T.a t14 w fun t15 w =>
 M0 P T.a w fun v_c_7 w =>
 V5 P T.a v_c_7 t15 w fun _u w =>
 fieldAddr P T.a v_c_7 6 w fun t17 w =>
 Q2 P T.h t17 w fun t18 w =>
 X4 P .append [T.h, T.h] T.h [false, false] [x4.1, t18] w fun t19 w =>
 Q3 P .add T.d (.tmp 12) (.const (.int .i64 1)) x4.2 (.int .i64 1) w fun t20 w =>
 again4 (t19, t20) w) (
 K x4.1 w)
theorem Sd {a0 a1 : Value} {w : World} {K : Value → World → Prop} (h : Ug a0 a1 w K) : Q1 P F.aR [a0, a1] w K := Q9 Ra Tryz.func22 rfl (by decide) (by kernel_rfl) h
def Zw (a0 a1 : Value) (w : World) (K : Value → World → Prop) : Prop :=
 box P T.i a0 w fun v_f_2 w =>
 fieldAddr P T.i v_f_2 0 w fun t4 w =>
 Q2 P T.b t4 w fun t5 w =>
 Q2 P T.b a1 w fun t6 w =>
 Q3 P .eql T.b (.tmp 5) (.tmp 6) t5 t6 w fun t7 w =>
 K t7 w
theorem Hg {a0 a1 : Value} {w : World} {K : Value → World → Prop} (h : Zw a0 a1 w K) : Q1 P F.bN [a0, a1] w K := Q9 (List.replicate 2 none) Tryz.func64 rfl (by decide) (by kernel_rfl) h
def Ut (a0 a1 a2 : Value) (w : World) (K : Value → World → Prop) : Prop :=
 box P T.b a2 w fun v_field_5 w =>
 Q1 P F.aR [a0, a1] w fun t9 w =>
 D0 P (.func F.bN) [] [v_field_5] w fun t10 w =>
 Q1 P F.j [t9, t10] w fun t11 w =>
 K t11 w
theorem Sh {a0 a1 a2 : Value} {w : World} {K : Value → World → Prop} (h : Ut a0 a1 a2 w K) : Q1 P F.ax [a0, a1, a2] w K := Q9 (List.replicate 2 none) Tryz.func24 rfl (by decide) (by kernel_rfl) h
def Ko (a0 a1 : Value) (w : World) (K : Value → World → Prop) : Prop :=
 box P T.c a0 w fun v_m_2 w =>
 fieldAddr P T.c v_m_2 0 w fun t4 w =>
 Q2 P T.b t4 w fun t5 w =>
 Q2 P T.b a1 w fun t6 w =>
 Q3 P .eql T.b (.tmp 5) (.tmp 6) t5 t6 w fun t7 w =>
 K t7 w
theorem Q2Q {a0 a1 : Value} {w : World} {K : Value → World → Prop} (h : Ko a0 a1 w K) : Q1 P F.ck [a0, a1] w K := Q9 (List.replicate 2 none) Tryz.func102 rfl (by decide) (by kernel_rfl) h
def Q08 (a0 a1 : Value) (w : World) (K : Value → World → Prop) : Prop :=
 box P T.a a0 w fun v_c_2 w =>
 box P T.b a1 w fun v_name_3 w =>
 M0 P T.c w fun t4 w =>
 fieldAddr P T.a v_c_2 7 w fun t7 w =>
 Q2 P T.e t7 w fun t8 w =>
 D0 P (.func F.ck) [] [v_name_3] w fun t9 w =>
 Q1 P F.h [t8, t9] w fun t10 w =>
 Q3 P .lss T.d (.tmp 11) (.const (.int .i64 0)) t10 (.int .i64 0) w fun t12 w =>
 X1 t12 (
 Qu P T.c [] w fun t13 w =>
 V5 P T.c t4 t13 w fun _u w =>
 N2 P T.c t4 w fun r0 =>
 K (.tuple #[r0, (.bool false)]) w) (
 fieldAddr P T.a v_c_2 7 w fun t14 w =>
 Q2 P T.e t14 w fun t15 w =>
 indexAddr P T.e t15 t10 w fun t17 w =>
 Q2 P T.c t17 w fun t18 w =>
 Q1 P F.bD [t18] w fun t19 w =>
 V5 P T.c t4 t19 w fun _u w =>
 N2 P T.c t4 w fun r0 =>
 K (.tuple #[r0, (.bool true)]) w)
theorem Q4J {a0 a1 : Value} {w : World} {K : Value → World → Prop} (h : Q08 a0 a1 w K) : Q1 P F.c4 [a0, a1] w K := Q9 (List.replicate 6 none) Tryz.func66 rfl (by decide) (by kernel_rfl) h
def Gf : W2 := [none, none, none, some ([19], [6, 8, 10, 11, 12, 13, 14, 15, 19, 20, 21, 22, 23, 24, 25, 26, 27, 28, 29, 30, 31, 32, 33, 34, 35, 36, 37, 38, 39, 40, 41, 42, 43, 44, 45, 46, 47]), none, none, none, none, none, none, none, none, none, none, none, none]
def Wv (a0 a1 a2 : Value) (w : World) (K : Value → World → Prop) : Prop :=
 box P T.a a1 w fun v_c_4 w =>
 M0 P T.c w fun t7 w =>
 fieldAddr P T.a v_c_4 2 w fun t16 w =>
 Q2 P T.f t16 w fun t17 w =>
 X4 P .len [T.f] T.d [false] [t17] w fun t18 w =>
 lp (α := Value) (.int .i64 0) w fun again3 x3 d_ w =>
 Q3 P .lss T.d (.tmp 19) (.tmp 18) x3 t18 w fun t20 w =>
 X1 t20 (
 indexAddr P T.f t17 x3 w fun t21 w =>
 Q2 P T.b t21 w fun t22 w =>
 Q1 P F.d [a0, t22] w fun t26 w =>
 Q1 P F.c4 [t26, a2] w fun t28 w =>
 ext P t28 0 w fun t29 w =>
 ext P t28 1 w fun t30 w =>
 M0 P T.c w fun v_m_11 w =>
 V5 P T.c v_m_11 t29 w fun _u w =>
 X1 t30 (
 dr w fun Tr Br =>
 Q7 Tr (fun φ33 => ∀ w, Br w → Q2 P T.c v_m_11 w (dk Tr φ33 w)) fun φ33 =>
 ∀ t33 w, Br w → φ33 t33 w → 
 V5 P T.c t7 t33 w fun _u w =>
 N2 P T.c t7 w fun r1 =>
 K (.tuple #[t22, r1, (.bool true)]) w) (
 Q1 P F.d [a0, t22] w fun t38 w =>
 Q1 P F.aE [a0, t38, a2] w fun t40 w =>
 ext P t40 0 w fun t41 w =>
 ext P t40 1 w fun t42 w =>
 ext P t40 2 w fun t43 w =>
 M0 P T.c w fun v_m_14 w =>
 V5 P T.c v_m_14 t42 w fun _u w =>
 X1 t43 (
 dr w fun Tr Br =>
 Q7 Tr (fun φ46 => ∀ w, Br w → Q2 P T.c v_m_14 w (dk Tr φ46 w)) fun φ46 =>
 ∀ t46 w, Br w → φ46 t46 w → 
 V5 P T.c t7 t46 w fun _u w =>
 N2 P T.c t7 w fun r1 =>
 K (.tuple #[t41, r1, (.bool true)]) w) (
 Q3 P .add T.d (.tmp 19) (.const (.int .i64 1)) x3 (.int .i64 1) w fun t47 w =>
 again3 t47 w))) (
 Qu P T.c [] w fun t48 w =>
 V5 P T.c t7 t48 w fun _u w =>
 N2 P T.c t7 w fun r1 =>
 K (.tuple #[(.string ⟨#[]⟩), r1, (.bool false)]) w)
theorem Gh {a0 a1 a2 : Value} {w : World} {K : Value → World → Prop} (h : Wv a0 a1 a2 w K) : Q1 P F.aE [a0, a1, a2] w K := Q9 Gf Tryz.func67 rfl (by decide) (by kernel_rfl) h
end Go.Proofs.YtdnfaboigajkhaaGreatDoor
