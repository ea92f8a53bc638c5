import Derived.Test.YtcailbfhljoppaaE
import Derived.Below
/-! rules of the operations: plain values -/
set_option autoImplicit false
set_option linter.unusedSimpArgs false
namespace Go.Emb
open Go.RowKit (Below)
variable {P : Program} {w w' : World} {K : Value → World → Prop}

theorem op_value {s : Sem Value} {v : Value} (h : s.run P w = .ok v w') : op P (sv s) w K = K v w' := by
  rw [op_eq]; unfold opDef sv; simp [h]
theorem op_unit {s : Sem Unit} (h : s.run P w = .ok () w') : op P (su s) w K = K undef w' := by
  rw [op_eq]; unfold opDef su; simp [h]

abbrev S (l : List UInt8) : Value := .string ⟨l.toArray⟩
abbrev I (n : Int) : Value := .int .i64 n

theorem pick_bool {b : Bool} {x y : Value} : pick P (.bool b) x y w K = K (if b then x else y) w := by
  unfold pick; rw [op_eq]; unfold opDef; cases b <;> simp [asBool]
theorem pick_true {x y : Value} : pick P (.bool true) x y w K = K x w := by rw [pick_bool]; rfl
theorem pick_false {x y : Value} : pick P (.bool false) x y w K = K y w := by rw [pick_bool]; rfl
theorem pick_and {a b : Bool} {u : Value} : pick P (.bool a) (if a = true then .bool b else u) (.bool false) w K = K (.bool (a && b)) w := by
  rw [pick_bool]; cases a <;> rfl
theorem pick_or {a b : Bool} {u : Value} : pick P (.bool a) (.bool true) (if a = false then .bool b else u) w K = K (.bool (a || b)) w := by
  rw [pick_bool]; cases a <;> rfl
theorem gop_true {run : World → (Value → World → Prop) → Prop} : gop (.bool true) true w run K = run w K := by rw [gop_eq]; simp [gopDef]
theorem gop_false {run : World → (Value → World → Prop) → Prop} : gop (.bool false) false w run K = run w K := by rw [gop_eq]; simp [gopDef]
theorem gop_tf {run : World → (Value → World → Prop) → Prop} : gop (.bool true) false w run K = K undef w := by rw [gop_eq]; simp [gopDef]
theorem gop_ft {run : World → (Value → World → Prop) → Prop} : gop (.bool false) true w run K = K undef w := by rw [gop_eq]; simp [gopDef]
theorem gop_undef {b : Bool} {run : World → (Value → World → Prop) → Prop} : gop undef b w run K = K undef w := by rw [gop_eq]; rfl
/-- an operation under its guard that comes to a value and turns nothing -/
theorem gop_pure {a b : Bool} {v : Value} : gop (.bool a) b w (fun w J => J v w) K = K (if a = b then v else undef) w := by
  rw [gop_eq]; unfold gopDef; by_cases h : a = b <;> simp [h]
theorem cnd_bool {b : Bool} {t e : Prop} : cnd (.bool b) t e = if b = true then t else e := by rw [cnd_eq]; cases b <;> rfl
theorem cnd_true {t e : Prop} : cnd (.bool true) t e = t := by rw [cnd_bool]; simp
theorem cnd_false {t e : Prop} : cnd (.bool false) t e = e := by rw [cnd_bool]; simp

section ints
variable {k : IntKind} {t : TypeId} {ox oy : Operand} {a b : Int}
theorem bin_add : bin P .add t ox oy (.int k a) (.int k b) w K = K (.int k (k.wrap (a + b))) w := op_value (by simp [eqGuard, Go.binOp, Op.intArith])
theorem bin_sub : bin P .sub t ox oy (.int k a) (.int k b) w K = K (.int k (k.wrap (a - b))) w := op_value (by simp [eqGuard, Go.binOp, Op.intArith])
theorem bin_mul : bin P .mul t ox oy (.int k a) (.int k b) w K = K (.int k (k.wrap (a * b))) w := op_value (by simp [eqGuard, Go.binOp, Op.intArith])
theorem bin_lss : bin P .lss t ox oy (.int k a) (.int k b) w K = K (.bool (decide (a < b))) w := op_value (by simp [eqGuard, Go.binOp, Op.intCmp])
theorem bin_leq : bin P .leq t ox oy (.int k a) (.int k b) w K = K (.bool (decide (a ≤ b))) w := op_value (by simp [eqGuard, Go.binOp, Op.intCmp])
theorem bin_gtr : bin P .gtr t ox oy (.int k a) (.int k b) w K = K (.bool (decide (b < a))) w := op_value (by simp [eqGuard, Go.binOp, Op.intCmp])
theorem bin_geq : bin P .geq t ox oy (.int k a) (.int k b) w K = K (.bool (decide (b ≤ a))) w := op_value (by simp [eqGuard, Go.binOp, Op.intCmp])
theorem bin_eql : bin P .eql t ox oy (.int k a) (.int k b) w K = K (.bool (decide (a = b))) w := op_value (by
  simp [eqGuard, Go.binOp, Op.intCmp]; rfl)
theorem bin_neq : bin P .neq t ox oy (.int k a) (.int k b) w K = K (.bool (!decide (a = b))) w := op_value (by
  simp [eqGuard, Go.binOp, Op.intCmp]; rfl)
end ints
theorem una_not {b : Bool} : una P .not (.bool b) w K = K (.bool (!b)) w := op_value (by simp [Op.unary])
theorem una_neg {k : IntKind} {n : Int} : una P .neg (.int k n) w K = K (.int k (k.wrap (0 - n))) w := op_value (by simp [Op.unary, Op.intArith])
section bools
variable {t : TypeId} {ox oy : Operand} {a b : Bool}
theorem run_equalIn_bool (d : Nat) (h : P.underlying t = some .bool) : (Op.equalIn (d + 1) t (.bool a) (.bool b)).run P w = .ok (a == b) w := by
  simp [Op.equalIn, run_underlying h]
theorem run_equal_bool (h : P.underlying t = some .bool) : (Op.equal t (.bool a) (.bool b)).run P w = .ok (a == b) w := run_equalIn_bool 9999 h
theorem bin_eql_bool (h : P.underlying t = some .bool) : bin P .eql t ox oy (.bool a) (.bool b) w K = K (.bool (a == b)) w := op_value (by
  simp [eqGuard, Go.binOp, run_equal_bool h])
theorem bin_neq_bool (h : P.underlying t = some .bool) : bin P .neq t ox oy (.bool a) (.bool b) w K = K (.bool (!(a == b))) w := op_value (by
  simp [eqGuard, Go.binOp, run_equal_bool h])
end bools
theorem ext_tuple {vs : List Value} {i : Nat} {v : Value} (h : vs[i]? = some v) : ext P (.tuple vs.toArray) i w K = K v w := op_value (by
  simp [Instr.extract, h])
theorem ext0 {a b : Value} : ext P (.tuple #[a, b]) 0 w K = K a w := ext_tuple (vs := [a, b]) rfl
theorem ext1 {a b : Value} : ext P (.tuple #[a, b]) 1 w K = K b w := ext_tuple (vs := [a, b]) rfl
theorem ext0' {a b c : Value} : ext P (.tuple #[a, b, c]) 0 w K = K a w := ext_tuple (vs := [a, b, c]) rfl
theorem ext1' {a b c : Value} : ext P (.tuple #[a, b, c]) 1 w K = K b w := ext_tuple (vs := [a, b, c]) rfl
theorem ext2' {a b c : Value} : ext P (.tuple #[a, b, c]) 2 w K = K c w := ext_tuple (vs := [a, b, c]) rfl

theorem w64 {n : Int} (h0 : -9223372036854775808 ≤ n) (h1 : n ≤ 9223372036854775807) : IntKind.i64.wrap n = n := by
  have hm : n % 18446744073709551616 = n ∨ n % 18446744073709551616 = n + 18446744073709551616 := by omega
  show (if (true && decide (n % 18446744073709551616 ≥ 9223372036854775808)) = true then n % 18446744073709551616 - 18446744073709551616 else n % 18446744073709551616) = n
  simp only [Bool.true_and, decide_eq_true_eq]
  split <;> omega
theorem w32 {n : Int} (h0 : -2147483648 ≤ n) (h1 : n ≤ 2147483647) : IntKind.i32.wrap n = n := by
  show (if (true && decide (n % 4294967296 ≥ 2147483648)) = true then n % 4294967296 - 4294967296 else n % 4294967296) = n
  simp only [Bool.true_and, decide_eq_true_eq]
  split <;> omega

/-! strings -/
section strs
variable {t : TypeId} {ox oy : Operand} {a b : List UInt8}
theorem beq_dec (a b : List UInt8) : (a == b) = decide (a = b) := by rw [Bool.eq_iff_iff]; simp
theorem bin_eql_str : bin P .eql t ox oy (S a) (S b) w K = K (.bool (decide (a = b))) w := op_value (by
  simp [eqGuard, Go.binOp, Op.stringOp, beq_dec])
theorem bin_neq_str : bin P .neq t ox oy (S a) (S b) w K = K (.bool (!decide (a = b))) w := op_value (by
  simp [eqGuard, Go.binOp, Op.stringOp, beq_dec])
theorem size_mk (l : List UInt8) : (ByteArray.mk l.toArray).size = l.length := by simp [ByteArray.size]
theorem append_mk (a b : List UInt8) : ByteArray.mk a.toArray ++ ByteArray.mk b.toArray = ByteArray.mk (a ++ b).toArray := by
  apply ByteArray.ext; simp
theorem max64 : IntKind.i64.max = 9223372036854775807 := by decide
theorem bin_add_str (h : a.length + b.length ≤ 9223372036854775807) : bin P .add t ox oy (S a) (S b) w K = K (S (a ++ b)) w := op_value (by
  have h1 : ¬ (((a.length + b.length : Nat) : Int) > IntKind.i64.max) := by rw [max64]; omega
  simp only [eqGuard, Go.binOp, Op.stringOp, size_mk, append_mk]
  simp only [if_neg h1]
  simp)
theorem len_str {cs : List Bool} {r : TypeId} (hu : P.underlying t = some .string) : blt P .len [t] r cs [S a] w K = K (I a.length) w := by
  have h : (Builtin.len_ #[t] r #[S a]).run P w = .ok (I a.length) w := by
    simp [Builtin.len_, run_underlying hu, size_mk, goInt]
  exact op_value h
theorem idx_str {i : Int} (hu : P.underlying t = some .string) (h0 : 0 ≤ i) (h : i.toNat < a.length) : idx P t (S a) (I i) w K = K (.int .u8 (a[i.toNat]'h).toNat) w := op_value (by
  simp only [Instr.index, asIntOf, Sem.run_bind, Sem.run_pure, Result.andThen_ok, run_underlying hu, h0, if_true]
  have : (ByteArray.mk a.toArray)[i.toNat]? = some (a[i.toNat]'h) := by
    rw [getElem?_pos _ _ (by rw [size_mk]; exact h)]
    rfl
  rw [this]; simp)
theorem mk_extract (l : List UInt8) (i j : Nat) : (ByteArray.mk l.toArray).extract i j = ByteArray.mk ((l.take j).drop i).toArray := by
  apply ByteArray.ext
  apply Array.ext'
  simp [List.drop_take]
theorem slc_str_lo {i : Int} (hu : P.underlying t = some .string) (h0 : 0 ≤ i) (h : i ≤ a.length) : slc P t (S a) (some (I i)) none none w K = K (S (a.drop i.toNat)) w := op_value (by
  simp [Instr.sliceAt, Instr.slice, Instr.sliceBounds, Instr.sliceBound, asIntOf, run_underlying hu, h0, h, size_mk, mk_extract])
theorem slc_str_hi {i : Int} (hu : P.underlying t = some .string) (h0 : 0 ≤ i) (h : i ≤ a.length) : slc P t (S a) none (some (I i)) none w K = K (S (a.take i.toNat)) w := op_value (by
  simp [Instr.sliceAt, Instr.slice, Instr.sliceBounds, Instr.sliceBound, asIntOf, run_underlying hu, h0, h, size_mk, mk_extract])
end strs
theorem conv_int {s d : TypeId} {k j : IntKind} {n : Int} {ds : TypeDesc} (hs : P.underlying s = some ds) (hd : P.underlying d = some (.int k)) : conv P s d (.int j n) w K = K (.int k (k.wrap n)) w := op_value (by
  simp [Go.convert, run_underlying hs, run_underlying hd, Conv.intToInt])

/-! iterators over strings -/
def put_ (w : World) (r : Nat) (o : Obj) : World := { w with heap := w.heap.setIfInBounds r o }
theorem below_put {B r : Nat} {a w : World} {o : Obj} (h : Below B a w) (hr : B ≤ r) : Below B a (put_ w r o) :=
  h.trans ⟨rfl, rfl, rfl, by simp [put_], fun k hk => by simp only [put_]; rw [Array.getElem?_setIfInBounds_ne (by omega)]⟩
theorem put_get {w : World} {r : Nat} {o : Obj} (h : r < w.heap.size) : (put_ w r o).heap[r]? = some o := by
  simp only [put_]; rw [Array.getElem?_setIfInBounds_self_of_lt h]
theorem put_other {w : World} {r k : Nat} {o : Obj} (h : r ≠ k) : (put_ w r o).heap[k]? = w.heap[k]? := by
  simp only [put_]; rw [Array.getElem?_setIfInBounds_ne h]
theorem put_size {w : World} {r : Nat} {o : Obj} : (put_ w r o).heap.size = w.heap.size := by simp [put_]
theorem rng_str {t : TypeId} {a : List UInt8} (hu : P.underlying t = some .string) : rng P t (S a) w K = K (.pointer (some ⟨w.heap.size, 0, none⟩)) (w.alloc (.stringIter ⟨a.toArray⟩ 0)) := op_value (by
  simp [Instr.range, run_underlying hu])
theorem nxt_str {t : TypeId} {r pos : Nat} {s : ByteArray} (h : w.heap[r]? = some (.stringIter s pos)) (hp : pos < s.size) :
    nxt P (.pointer (some ⟨r, 0, none⟩)) true t w K = K (.tuple #[.bool true, I pos, .int .i32 (Utf8.decode s pos).1]) (put_ w r (.stringIter s (pos + (Utf8.decode s pos).2))) := op_value (by
  have h1 : ∀ (k : Obj → Sem Value), (getObj r >>= k).run P w = (k (.stringIter s pos)).run P w := by
    intro k; rw [Sem.run_bind]; simp [getObj, Sem.run, h]
  have h2 : ∀ o, (setObj r o).run P w = .ok () (put_ w r o) := by intro o; simp [setObj, Sem.run, h, put_]
  unfold Instr.next
  simp only [h1, hp, if_true]
  simp [h2, goInt])
theorem nxt_str_end {t : TypeId} {r pos : Nat} {s : ByteArray} (h : w.heap[r]? = some (.stringIter s pos)) (hp : ¬ pos < s.size) :
    nxt P (.pointer (some ⟨r, 0, none⟩)) true t w K = K (.tuple #[.bool false]) w := op_value (by
  have h1 : ∀ (k : Obj → Sem Value), (getObj r >>= k).run P w = (k (.stringIter s pos)).run P w := by
    intro k; rw [Sem.run_bind]; simp [getObj, Sem.run, h]
  unfold Instr.next
  simp only [h1, hp, if_false]
  simp)
theorem ext00 {a : Value} : ext P (.tuple #[a]) 0 w K = K a w := ext_tuple (vs := [a]) rfl

/-! the letters of a string, as they are ranged over -/
theorem decode_low {s : ByteArray} {i : Nat} (h : (s.get! i).toNat < 128) : Utf8.decode s i = ((s.get! i).toNat, 1) := by
  unfold Utf8.decode
  simp only [Nat.add_zero]
  rw [if_pos h]
theorem decode_high {s : ByteArray} {i : Nat} (h : ¬ (s.get! i).toNat < 128) : 128 ≤ (Utf8.decode s i).1 := by
  unfold Utf8.decode
  simp only [Nat.add_zero]
  rw [if_neg h]
  repeat' split
  all_goals (simp only [Utf8.runeError] at *; try omega)
  all_goals (simp only [Bool.and_eq_true, decide_eq_true_eq, ge_iff_le] at *; omega)
theorem decode_width {s : ByteArray} {i : Nat} : 1 ≤ (Utf8.decode s i).2 := by
  unfold Utf8.decode
  simp only
  repeat' split
  all_goals simp
def allR (p : Int → Bool) (s : ByteArray) : Nat → Nat → Bool
  | 0, _ => true
  | n + 1, i => if i < s.size then p (Utf8.decode s i).1 && allR p s n (i + (Utf8.decode s i).2) else true
theorem get!_mk {a : List UInt8} {i : Nat} (h : i < a.length) : (ByteArray.mk a.toArray).get! i = a[i] := by
  show (ByteArray.mk a.toArray).data[i]! = a[i]
  simp [h]
theorem allR_ascii (p : Int → Bool) (hp : ∀ c : Int, 128 ≤ c → p c = false) (a : List UInt8) : ∀ (n i : Nat), a.length - i ≤ n → allR p ⟨a.toArray⟩ n i = (a.drop i).all (fun b => p b.toNat) := by
  intro n
  induction n with
  | zero => intro i h; rw [List.drop_eq_nil_of_le (by omega)]; rfl
  | succ n ih =>
    intro i h
    simp only [allR, size_mk]
    split
    · rename_i hi
      rw [List.drop_eq_getElem_cons hi, List.all_cons]
      by_cases hl : a[i].toNat < 128
      · rw [decode_low (by rw [get!_mk hi]; exact hl), get!_mk hi]
        simp only
        rw [ih (i + 1) (by omega)]
      · have h1 := decode_high (s := ⟨a.toArray⟩) (i := i) (by rw [get!_mk hi]; exact hl)
        rw [hp _ (by omega), hp _ (by omega)]; rfl
    · rename_i hi; rw [List.drop_eq_nil_of_le (by omega)]; rfl

theorem jn_in {α : Type} {A : (α → World → Prop) → World → Prop} {B : α → (Nat → Value) → World → Prop} (h : A (fun x w => ∀ d, B x d w) w) : jn w A B := jn_mk _ h (fun _ d _ hx => hx d)
theorem dop_val {Tr : World → World → Prop} {A rest : (Value → World → Prop) → Prop} (V : Value) (h : A (fun v _ => v = V)) (hr : rest (fun v _ => v = V)) : dop Tr A rest :=
  dop_mk _ (fun _ _ _ h _ => h) h hr
theorem dr_below {w w0 : World} {A : (World → World → Prop) → (World → Prop) → Prop} (hb : Below w0.heap.size w0 w)
    (h : A (fun w w' => Below w.heap.size w w') (fun w' => Below w0.heap.size w0 w')) : dr w A :=
  dr_mk _ _ hb.drew (fun _ _ h1 h2 => h1.trans (h2.mono h1.size)) h
theorem dk_val {w w' : World} {v V : Value} (hb : Below w.heap.size w w') (h : v = V) : dk (fun w w' => Below w.heap.size w w') (fun v _ => v = V) w v w' := ⟨hb, h⟩
theorem dk_same {w : World} {v V : Value} (h : v = V) : dk (fun w w' => Below w.heap.size w w') (fun v _ => v = V) w v w := ⟨Below.refl _ _, h⟩
theorem extern_call {n : Nat} {fn : Func} {e : Array Value → Sem Value} {xs : List Value} {v : Value} (h1 : P.funcs[n]? = some fn) (h2 : (fn.name == "runtime.NumGoroutine") = false) (h3 : fn.body.isNone = true)
    (h4 : (Extern.findNext fn).isNone = true) (h5 : Extern.find fn = some e) (h6 : (e xs.toArray).run P w = .ok v w) (h : K v w) : callF P n xs w K := by
  have h4' : Extern.findNext fn = none := by simpa using h4
  have h2' : ¬ fn.name = "runtime.NumGoroutine" := by simpa using h2
  have h3' : fn.body = none := by simpa using h3
  unfold callF
  rw [op_eq]
  unfold opDef callFunc
  simp [h1, h2', h3', h4', h5, h6, h]
theorem find_range {α : Type} (p : α → Bool) (p' : Nat → Bool) : ∀ (l : List α), (∀ i (h : i < l.length), p' i = p l[i]) → (List.range l.length).find? p' = l.findIdx? p
  | [], _ => rfl
  | x :: l, h => by
    rw [List.length_cons, List.range_succ_eq_map, List.find?_cons, List.findIdx?_cons]
    have h0 : p' 0 = p x := h 0 (by simp)
    rw [h0]
    cases p x
    · simp only [Bool.false_eq_true, if_false]
      rw [List.find?_map]
      have := find_range p (p' ∘ Nat.succ) l (fun i hi => h (i + 1) (by simpa using hi))
      rw [this]
    · rfl
end Go.Emb
