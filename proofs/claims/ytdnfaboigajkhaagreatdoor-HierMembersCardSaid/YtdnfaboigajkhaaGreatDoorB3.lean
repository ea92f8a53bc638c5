/- Parts of a proof about the given program: its functions as texts of their own, what each computes, plain laws of that. The conditions of each stand in its statement. -/
import Derived.Test.YtdnfaboigajkhaaGreatDoorB2
import Derived.Test.YtdnfaboigajkhaaGreatDoorB1
import Derived.ChangeArms
import Derived.DataReads
import Derived.SizedLaws
import Derived.Deep.AppendSrc
import Derived.Laws.StructEq
set_option linter.unnecessarySimpa false
set_option linter.defProp false
set_option linter.unusedSectionVars false
set_option linter.unusedVariables false
set_option linter.unusedSimpArgs false
namespace Go.Emb
open Go.RowKit
variable {P : Program} {w w0 w1 w' w'' : World} {K : Value → World → Prop}
theorem Y2 {c b : Bool} {run : World → (Value → World → Prop) → Prop} (h1 : c = b → run w K) (h2 : c = (!b) → K undef w) : Q0 (.bool c) b w run K := by
  cases c <;> cases b
  · rw [Ul]; exact h1 rfl
  · rw [Jf]; exact h2 rfl
  · rw [Kv]; exact h2 rfl
  · rw [F8]; exact h1 rfl
theorem Q4 {c : Bool} {t e : Prop} (h1 : c = true → t) (h2 : c = false → e) : X1 (.bool c) t e := by
  cases c
  · rw [Eo]; exact h2 rfl
  · rw [Cy]; exact h1 rfl
theorem Q6 {α : Type} {R : Q5 → α → List Value → Prop} {sz : Nat} {σ : Q5} {v : Value} {xs : List α} {t0 e t : TypeId} {cs : List Bool} [ts : TS P t0 e] (h : Sl sz R σ v xs) (hk : K (I xs.length) w) : X4 P .len [t0] t cs [v] w K := by
  rw [Q8w h]; exact hk
structure Kpt (D : Nat → Prop) (w w' : World) : Prop where
  os : w'.os = w.os
  tape : w'.tape = w.tape
  output : w'.output = w.output
  size : w.heap.size ≤ w'.heap.size
  block : ∀ k, k < w.heap.size → ¬ D k → w'.heap[k]? = w.heap[k]?
theorem Kpt.refl {D : Nat → Prop} : Kpt D w w := ⟨rfl, rfl, rfl, Nat.le_refl _, fun _ _ _ => rfl⟩
theorem Kpt.trans {D : Nat → Prop} (h : Kpt D w w') (k : Kpt D w' w'') : Kpt D w w'' :=
  ⟨k.os.trans h.os, k.tape.trans h.tape, k.output.trans h.output, Nat.le_trans h.size k.size, fun i hi hd => (k.block i (Nat.lt_of_lt_of_le hi h.size) hd).trans (h.block i hi hd)⟩
theorem Kpt.of_below {D : Nat → Prop} (h : Below w.heap.size w w') : Kpt D w w' := ⟨h.os, h.tape, h.output, h.size, fun k hk _ => h.block k hk⟩
theorem Kpt.of_grown {D : Nat → Prop} {row : Option Nat} (h : w.grownBy w' row) (hr : ∀ k, row = some k → D k) : Kpt D w w' := ⟨h.os, h.tape, h.output, h.size, fun k hk hd => h.block k hk (fun e => hd (hr k e.symm))⟩
theorem Kpt.of_upd {D : Nat → Prop} {b : Nat} (h : Upd w b w') (hb : D b) : Kpt D w w' := ⟨h.os, h.tape, h.output, by rw [h.size]; exact Nat.le_refl _, fun k hk hd => h.block k (fun e => hd (e ▸ hb))⟩
theorem Kpt.mono {D D' : Nat → Prop} (h : Kpt D w w') (hd : ∀ k, k < w.heap.size → D k → D' k) : Kpt D' w w' := ⟨h.os, h.tape, h.output, h.size, fun k hk hn => h.block k hk (fun e => hn (hd k hk e))⟩
theorem Kpt.below {D : Nat → Prop} (h : Kpt D w w') (hd : ∀ k, ¬ D k) : Below w.heap.size w w' := ⟨h.os, h.tape, h.output, h.size, fun k hk => h.block k hk (hd k)⟩
theorem Stp.kp {σ0 σ : Q5} {D : Nat → Prop} (hS : Stp w0 σ0 w σ) (hk : Kpt D w w') (hr : ∀ k, D k → w0.heap.size ≤ k ∧ σ k = none) : Stp w0 σ0 w' σ := by
  refine ⟨⟨hk.os.trans hS.bel.os, hk.tape.trans hS.bel.tape, hk.output.trans hS.bel.output, Nat.le_trans hS.bel.size hk.size, fun k hlt => ?_⟩, ?_, hS.le, hS.old⟩
  · refine (hk.block k (Nat.lt_of_lt_of_le hlt hS.bel.size) ?_).trans (hS.bel.block k hlt)
    intro e; have := (hr k e).1; omega
  · intro k o ho
    refine (hk.block k (hS.sat.lt ho) ?_).trans (hS.sat k o ho)
    intro e; rw [(hr k e).2] at ho; cases ho
theorem V3.kp {σ : Q5} {D : Nat → Prop} {k : Nat} {cs : List Value} (h : V3 σ w k cs) (hk : Kpt D w w') (hne : ¬ D k) : V3 σ w' k cs := by
  have hl := h.lt
  obtain ⟨h1, e, h2⟩ := h
  exact ⟨h1, e, (hk.block k hl hne).trans h2⟩
theorem N2.kp {σ : Q5} {D : Nat → Prop} {r : Nat} {m : List (List UInt8 × Value)} (h : N2 σ w r m) (hk : Kpt D w w') (hne : ¬ D r) : N2 σ w' r m :=
  ⟨h.1, (hk.block r h.lt hne).symm ▸ h.2⟩
theorem W7.kp {α : Type} {R : Q5 → α → List Value → Prop} {B sz : Nat} {e : TypeId} {σ : Q5} {v : Value} {xs : List α} {D : Nat → Prop} (h : W7 B e sz R σ w v xs) (hk : Kpt D w w') (hne : ∀ k, v.ownBlock = some k → ¬ D k) : W7 B e sz R σ w' v xs := by
  obtain ⟨cells, h1, h2, h3⟩ := h
  refine ⟨cells, ⟨h1.1, ?_⟩, h2, h3⟩
  rcases h1.2 with hn | ⟨g, cap, cur, rfl, hb, hg, rest⟩
  · exact .inl hn
  · refine .inr ⟨g, cap, cur, rfl, hb, ?_, rest⟩
    rw [hk.block g (Array.getElem?_eq_some_iff.1 hg).1 (hne g rfl)]; exact hg
theorem bt {w w1 w2 : World} (h1 : Below w.heap.size w w1) (h2 : Below w1.heap.size w1 w2) : Below w.heap.size w w2 := h1.trans (h2.mono h1.size)
abbrev W2 : Nat := 140737488351232
def U5 (_ : Q5) (s : List UInt8) (cs : List Value) : Prop := cs = [S s] ∧ s.length ≤ W2
instance : Rep U5 := ⟨fun _ h => h, fun h u hu => by rw [h.1] at hu; simp at hu; subst hu; rfl⟩
def Jq (_ : Q5) (n : Int) (cs : List Value) : Prop := cs = [I n] ∧ -9223372036854775808 ≤ n ∧ n ≤ 9223372036854775807
instance : Rep Jq := ⟨fun _ h => h, fun h u hu => by rw [h.1] at hu; simp at hu; subst hu; rfl⟩
def Q4F (_ : Q5) (b : Bool) (cs : List Value) : Prop := cs = [.bool b]
instance : Rep Q4F := ⟨fun _ h => h, fun h u hu => by rw [h] at hu; simp at hu; subst hu; rfl⟩
def UpI (N : Nat) (Inv : Nat → World → Prop) (x : Value) (w : World) : Prop := ∃ n : Nat, x = I n ∧ n ≤ N ∧ Inv n w
def Tn (N : Nat) (x : Value) : Nat := match x with | .int _ n => N - n.toNat | _ => 0
theorem V0 {A : (Value → World → Prop) → Value → (Nat → Value) → World → Prop} (N : Nat) (Inv : Nat → World → Prop) (h0 : Inv 0 w)
    (hstep : ∀ n w d, n ≤ N → Inv n w → A (fun y w' => UpI N Inv y w' ∧ Tn N y < Tn N (I n)) (I n) d w) : lp (α := Value) (.int .i64 0) w A := by
  refine Jh (UpI N Inv) (fun x _ => Tn N x) ⟨0, rfl, Nat.zero_le _, h0⟩ ?_
  rintro _ d w' ⟨n, rfl, hn, hi⟩
  exact hstep n w' d hn hi
theorem Y4 {N n : Nat} {Inv : Nat → World → Prop} (hN : N ≤ 9223372036854775807) (hn : n < N) (hi : Inv (n + 1) w) : UpI N Inv (.int .i64 (IntKind.i64.wrap (n + 1))) w ∧ Tn N (.int .i64 (IntKind.i64.wrap (n + 1))) < Tn N (I n) := by
  rw [B4 (by omega) (by omega)]
  exact ⟨⟨n + 1, rfl, hn, hi⟩, by simp only [Tn]; omega⟩
def Et {α : Type} (N : Nat) (Inv : Nat → α → World → Prop) (x : α × Value) (w : World) : Prop := ∃ n : Nat, x.2 = I n ∧ n ≤ N ∧ Inv n x.1 w
def Wi {α : Type} (N : Nat) (x : α × Value) : Nat := Tn N x.2
theorem N9 {α : Type} {A : (α × Value → World → Prop) → α × Value → (Nat → Value) → World → Prop} {a : α} (N : Nat) (Inv : Nat → α → World → Prop) (h0 : Inv 0 a w)
    (hstep : ∀ n a w d, n ≤ N → Inv n a w → A (fun y w' => Et N Inv y w' ∧ Wi N y < Wi N (a, I n)) (a, I n) d w) : lp (α := α × Value) (a, .int .i64 0) w A := by
  refine Jh (Et N Inv) (fun x _ => Wi N x) ⟨0, rfl, Nat.zero_le _, h0⟩ ?_
  rintro ⟨a, x⟩ d w' ⟨n, hx, hn, hi⟩
  simp only at hx hi
  subst hx
  exact hstep n a w' d hn hi
theorem J4 {α : Type} {a a' : α} {N n : Nat} {Inv : Nat → α → World → Prop} (hN : N ≤ 9223372036854775807) (hn : n < N) (hi : Inv (n + 1) a' w) : Et N Inv (a', .int .i64 (IntKind.i64.wrap (n + 1))) w ∧ Wi N (a', .int .i64 (IntKind.i64.wrap (n + 1))) < Wi N (a, I n) := by
  rw [B4 (by omega) (by omega)]
  exact ⟨⟨n + 1, rfl, hn, hi⟩, by simp only [Wi, Tn]; omega⟩
theorem L6 {α : Type} {R : Q5 → α → List Value → Prop} {sz : Nat} {σ : Q5} {v : Value} {xs : List α} {t e : TypeId} {by_ : Nat} {z : Value} [TS P t e] [TZ P e sz by_ z] (h : Sl sz R σ v xs) {n : Nat} (hn : n < xs.length)
    (hk : ∀ a cs, U0 σ a cs → cs.length = sz → R σ xs[n] cs → K (.pointer (some a)) w) : indexAddr P t v (I n) w K :=
  Q9k h (by omega) (by simpa using hn) (fun a cs h1 h2 h3 => hk a cs h1 h2 (by simpa using h3))
theorem Y1 {t : TypeId} {sz by_ : Nat} {z : Value} {A : Value → Value → World → Prop} [tz : TZ P t sz by_ z] {σ : Q5} {cs : List Value} (hs : X6 w σ) (hz : z.cells.size = sz) (hl : cs.length = sz) (h1 : ∀ u ∈ cs, u.oneCell' = true)
    (h : ∀ a w' σ', Stp w σ w' σ' → U0 σ' a cs → A (.pointer (some a)) undef w') : M5 P t w (fun p w => V7 P t p (.agg cs.toArray) w (fun u w => A p u w)) := by
  refine Sb hs fun b w1 hb hk hm => ?_
  refine sta hm (by simpa using hz) hl (by rw [List.all_toArray]; exact List.all_eq_true.2 h1) fun w2 hu hm2 => ?_
  have hS : Stp w σ w2 σ := hu.stp hk hb hm.1
  obtain ⟨σ', g1, g2, _⟩ := hm2.keep hS hb
  exact h _ _ _ g1 g2
theorem U1 {t : TypeId} {by_ : Nat} {z : Value} {A : Value → Value → World → Prop} [tz : TZ P t 1 by_ z] {σ : Q5} {v : Value} (hs : X6 w σ) (hz : z.cells.size = 1) (hc : v.cells = #[v]) (h1 : v.oneCell' = true)
    (h : ∀ a w' σ', Stp w σ w' σ' → U0 σ' a [v] → A (.pointer (some a)) undef w') : M5 P t w (fun p w => V7 P t p v w (fun u w => A p u w)) := by
  refine Sb hs fun b w1 hb hk hm => ?_
  have hl : z.cells.toList.length = 1 := by simpa using hz
  refine st0 hm (by omega) hc h1 fun w2 hu hm2 => ?_
  have hS : Stp w σ w2 σ := hu.stp hk hb hm.1
  have e : z.cells.toList.set 0 v = [v] := by
    match hzl : z.cells.toList, hl with
    | [x], _ => rfl
  rw [e] at hm2
  obtain ⟨σ', g1, g2, _⟩ := hm2.keep hS hb
  exact h _ _ _ g1 g2
theorem M8 {α : Type} {xs : List α} {p : α → Bool} {n : Nat} (h : n < xs.length) : (xs.take (n + 1)).any p = ((xs.take n).any p || p xs[n]) := by
  rw [List.take_add_one, List.getElem?_eq_getElem h, List.any_append]; simp
theorem R4 {α : Type} {xs : List α} {p : α → Bool} {n : Nat} (h : n < xs.length) (hp : p xs[n] = true) : xs.any p = true := List.any_eq_true.2 ⟨_, List.getElem_mem h, hp⟩
theorem O9 {α : Type} {xs : List α} {p : α → Bool} {n : Nat} (h : ¬ n < xs.length) : (xs.take n).any p = xs.any p := by rw [List.take_of_length_le (by omega)]
end Go.Emb

namespace Go.Hm
open Go.Kd
structure Fld where
  name : X0
  kind : X0
  tr : Bool
deriving DecidableEq
structure Ins where
  op : X0
  n : Int
  s : X0
deriving DecidableEq
structure Cat where
  frm : Int
  to : Int
  at_ : Int
  cls : X0
deriving DecidableEq
structure Met where
  name : X0
  params : List X0
  result : X0
  abs : Bool
  locals : Int
  code : List Ins
  catches : List Cat
deriving DecidableEq
structure Cla where
  name : X0
  super : X0
  like : List X0
  iface : Bool
  abs : Bool
  fin : Bool
  fields : List Fld
  methods : List Hm.Met
deriving DecidableEq
def Ins.zero : Ins := ⟨[], 0, []⟩
def Fld.zero : Fld := ⟨[], [], false⟩
def Met.zero : Hm.Met := ⟨[], [], [], false, 0, [], []⟩
def Cla.zero : Cla := ⟨[], [], [], false, false, false, [], []⟩
end Go.Hm

namespace Go.Emb
open Go.RowKit Go.Hm
abbrev Gt (n : Int) : Prop := -9223372036854775808 ≤ n ∧ n ≤ 9223372036854775807
def D6 (_ : Q5) (f : Fld) (cs : List Value) : Prop := cs = [S f.name, S f.kind, .bool f.tr] ∧ f.name.length ≤ W2 ∧ f.kind.length ≤ W2
def F3 (_ : Q5) (i : Ins) (cs : List Value) : Prop := cs = [S i.op, I i.n, S i.s] ∧ i.op.length ≤ W2 ∧ Gt i.n ∧ i.s.length ≤ W2
def Qv (_ : Q5) (c : Cat) (cs : List Value) : Prop := cs = [I c.frm, I c.to, I c.at_, S c.cls] ∧ Gt c.frm ∧ Gt c.to ∧ Gt c.at_ ∧ c.cls.length ≤ W2
def M7 (σ : Q5) (m : Hm.Met) (cs : List Value) : Prop := ∃ pv cv hv, cs = [S m.name, pv, S m.result, .bool m.abs, I m.locals, cv, hv] ∧ Sl 1 U5 σ pv m.params ∧ Sl 3 F3 σ cv m.code ∧ Sl 4 Qv σ hv m.catches ∧ m.name.length ≤ W2 ∧ m.result.length ≤ W2 ∧ Gt m.locals
def U7 (σ : Q5) (c : Cla) (cs : List Value) : Prop := ∃ lv fv mv, cs = [S c.name, S c.super, lv, .bool c.iface, .bool c.abs, .bool c.fin, fv, mv] ∧ Sl 1 U5 σ lv c.like ∧ Sl 3 D6 σ fv c.fields ∧ Sl 7 M7 σ mv c.methods ∧ c.name.length ≤ W2 ∧ c.super.length ≤ W2
theorem Ql {α : Type} {sz : Nat} {R : Q5 → α → List Value → Prop} {σ : Q5} {v : Value} {xs : List α} (h : Sl sz R σ v xs) : v.oneCell' = true := by
  obtain ⟨a, cap, rfl, _⟩ := h; rfl
instance : Rep D6 := ⟨fun _ h => h, fun h u hu => by rw [h.1] at hu; simp at hu; rcases hu with rfl | rfl | rfl <;> rfl⟩
instance : Rep F3 := ⟨fun _ h => h, fun h u hu => by rw [h.1] at hu; simp at hu; rcases hu with rfl | rfl | rfl <;> rfl⟩
instance : Rep Qv := ⟨fun _ h => h, fun h u hu => by rw [h.1] at hu; simp at hu; rcases hu with rfl | rfl | rfl | rfl <;> rfl⟩
instance : Rep M7 := ⟨fun hk ⟨pv, cv, hv, h1, h2, h3, h4, h5⟩ => ⟨pv, cv, hv, h1, h2.le hk, h3.le hk, h4.le hk, h5⟩, fun ⟨pv, cv, hv, h1, h2, h3, h4, h5⟩ u hu => by
  rw [h1] at hu; simp at hu; rcases hu with rfl | rfl | rfl | rfl | rfl | rfl | rfl
  · rfl
  · exact Ql h2
  · rfl
  · rfl
  · rfl
  · exact Ql h3
  · exact Ql h4⟩
instance : Rep U7 := ⟨fun hk ⟨pv, cv, hv, h1, h2, h3, h4, h5⟩ => ⟨pv, cv, hv, h1, h2.le hk, h3.le hk, h4.le hk, h5⟩, fun ⟨pv, cv, hv, h1, h2, h3, h4, h5⟩ u hu => by
  rw [h1] at hu; simp at hu; rcases hu with rfl | rfl | rfl | rfl | rfl | rfl | rfl | rfl
  · rfl
  · rfl
  · exact Ql h2
  · rfl
  · rfl
  · rfl
  · exact Ql h3
  · exact Ql h4⟩
end Go.Emb

namespace Go.Proofs.YtdnfaboigajkhaaGreatDoor
open Go.Emb
instance z_x : TZ P T.x 1 0 (.tuple #[]) := ⟨by kernel_rfl⟩
instance g_x : TG P T.x false := ⟨by kernel_rfl⟩
instance z_int64 : TZ P T.af 1 8 (.int .i64 0) := ⟨by kernel_rfl⟩
instance g_int64 : TG P T.af false := ⟨by kernel_rfl⟩
instance z_int : TZ P T.d 1 8 (.int .i64 0) := ⟨by kernel_rfl⟩
instance g_int : TG P T.d false := ⟨by kernel_rfl⟩
instance z_bool : TZ P T.m 1 1 (.bool false) := ⟨by kernel_rfl⟩
instance g_bool : TG P T.m false := ⟨by kernel_rfl⟩
instance z_uint8 : TZ P T.s 1 1 (.int .u8 0) := ⟨by kernel_rfl⟩
instance g_uint8 : TG P T.s false := ⟨by kernel_rfl⟩
instance z_string : TZ P T.c 1 16 (.string ⟨#[]⟩) := ⟨by kernel_rfl⟩
instance g_string : TG P T.c false := ⟨by kernel_rfl⟩
instance z_uintptr : TZ P T.ak 1 8 (.int .u64 0) := ⟨by kernel_rfl⟩
instance g_uintptr : TG P T.ak false := ⟨by kernel_rfl⟩
instance z_int32 : TZ P T.ac 1 4 (.int .i32 0) := ⟨by kernel_rfl⟩
instance g_int32 : TG P T.ac false := ⟨by kernel_rfl⟩
instance z_S_api_Class : TZ P T.g 1 24 (.slice none 0 0) := ⟨by kernel_rfl⟩
instance g_S_api_Class : TG P T.g false := ⟨by kernel_rfl⟩
instance s_S_api_Class : TS P T.g 57 := ⟨by kernel_rfl⟩
instance z_P_hier_Table : TZ P T.p 1 8 (.pointer none) := ⟨by kernel_rfl⟩
instance g_P_hier_Table : TG P T.p false := ⟨by kernel_rfl⟩
instance z_api_Errno : TZ P T.t 1 8 (.int .i64 0) := ⟨by kernel_rfl⟩
instance g_api_Errno : TG P T.t false := ⟨by kernel_rfl⟩
instance z_func_string_bool : TZ P T.u 1 8 .nilFunc := ⟨by kernel_rfl⟩
instance g_func_string_bool : TG P T.u false := ⟨by kernel_rfl⟩
instance z_A3_string : TZ P T.ah 3 48 (.agg #[.string ⟨#[]⟩, .string ⟨#[]⟩, .string ⟨#[]⟩]) := ⟨by kernel_rfl⟩
instance g_A3_string : TG P T.ah true := ⟨by kernel_rfl⟩
instance a_A3_string : TA P T.ah 3 9 := ⟨by kernel_rfl⟩
instance z_S_api_Field : TZ P T.h 1 24 (.slice none 0 0) := ⟨by kernel_rfl⟩
instance g_S_api_Field : TG P T.h false := ⟨by kernel_rfl⟩
instance s_S_api_Field : TS P T.h 45 := ⟨by kernel_rfl⟩
instance z_api_Field : TZ P T.i 3 40 (.agg #[.string ⟨#[]⟩, .string ⟨#[]⟩, .bool false]) := ⟨by kernel_rfl⟩
instance g_api_Field : TG P T.i true := ⟨by kernel_rfl⟩
instance f_api_Field_0 : TF P T.i 0 0 9 := ⟨by kernel_rfl⟩
instance f_api_Field_1 : TF P T.i 1 1 9 := ⟨by kernel_rfl⟩
instance f_api_Field_2 : TF P T.i 2 2 4 := ⟨by kernel_rfl⟩
instance z_S_string : TZ P T.f 1 24 (.slice none 0 0) := ⟨by kernel_rfl⟩
instance g_S_string : TG P T.f false := ⟨by kernel_rfl⟩
instance s_S_string : TS P T.f 9 := ⟨by kernel_rfl⟩
instance z_S_api_Instr : TZ P T.k 1 24 (.slice none 0 0) := ⟨by kernel_rfl⟩
instance g_S_api_Instr : TG P T.k false := ⟨by kernel_rfl⟩
instance s_S_api_Instr : TS P T.k 141 := ⟨by kernel_rfl⟩
instance z_S_api_Catch : TZ P T.j 1 24 (.slice none 0 0) := ⟨by kernel_rfl⟩
instance g_S_api_Catch : TG P T.j false := ⟨by kernel_rfl⟩
instance s_S_api_Catch : TS P T.j 123 := ⟨by kernel_rfl⟩
instance z_api_Method : TZ P T.b 7 120 (.agg #[.string ⟨#[]⟩, .slice none 0 0, .string ⟨#[]⟩, .bool false, .int .i64 0, .slice none 0 0, .slice none 0 0]) := ⟨by kernel_rfl⟩
instance g_api_Method : TG P T.b true := ⟨by kernel_rfl⟩
instance f_api_Method_0 : TF P T.b 0 0 9 := ⟨by kernel_rfl⟩
instance f_api_Method_1 : TF P T.b 1 1 46 := ⟨by kernel_rfl⟩
instance f_api_Method_2 : TF P T.b 2 2 9 := ⟨by kernel_rfl⟩
instance f_api_Method_3 : TF P T.b 3 3 4 := ⟨by kernel_rfl⟩
instance f_api_Method_4 : TF P T.b 4 4 3 := ⟨by kernel_rfl⟩
instance f_api_Method_5 : TF P T.b 5 5 47 := ⟨by kernel_rfl⟩
instance f_api_Method_6 : TF P T.b 6 6 48 := ⟨by kernel_rfl⟩
instance z_S_api_Method : TZ P T.e 1 24 (.slice none 0 0) := ⟨by kernel_rfl⟩
instance g_S_api_Method : TG P T.e false := ⟨by kernel_rfl⟩
instance s_S_api_Method : TS P T.e 50 := ⟨by kernel_rfl⟩
instance z_api_Class : TZ P T.a 8 112 (.agg #[.string ⟨#[]⟩, .string ⟨#[]⟩, .slice none 0 0, .bool false, .bool false, .bool false, .slice none 0 0, .slice none 0 0]) := ⟨by kernel_rfl⟩
instance g_api_Class : TG P T.a true := ⟨by kernel_rfl⟩
instance f_api_Class_0 : TF P T.a 0 0 9 := ⟨by kernel_rfl⟩
instance f_api_Class_1 : TF P T.a 1 1 9 := ⟨by kernel_rfl⟩
instance f_api_Class_2 : TF P T.a 2 2 46 := ⟨by kernel_rfl⟩
instance f_api_Class_3 : TF P T.a 3 3 4 := ⟨by kernel_rfl⟩
instance f_api_Class_4 : TF P T.a 4 4 4 := ⟨by kernel_rfl⟩
instance f_api_Class_5 : TF P T.a 5 5 4 := ⟨by kernel_rfl⟩
instance f_api_Class_6 : TF P T.a 6 6 39 := ⟨by kernel_rfl⟩
instance f_api_Class_7 : TF P T.a 7 7 55 := ⟨by kernel_rfl⟩
instance z_func_string_string : TZ P T.a2 1 8 .nilFunc := ⟨by kernel_rfl⟩
instance g_func_string_string : TG P T.a2 false := ⟨by kernel_rfl⟩
instance z_func_api_Method_string : TZ P T.z 1 8 .nilFunc := ⟨by kernel_rfl⟩
instance g_func_api_Method_string : TG P T.z false := ⟨by kernel_rfl⟩
instance z_M_string_int : TZ P T.r 1 8 (.map none) := ⟨by kernel_rfl⟩
instance g_M_string_int : TG P T.r false := ⟨by kernel_rfl⟩
instance m_M_string_int : TM P T.r 9 3 := ⟨by kernel_rfl⟩
instance z_hier_Table : TZ P T.q 2 32 (.agg #[.slice none 0 0, .map none]) := ⟨by kernel_rfl⟩
instance g_hier_Table : TG P T.q true := ⟨by kernel_rfl⟩
instance f_hier_Table_0 : TF P T.q 0 0 22 := ⟨by kernel_rfl⟩
instance f_hier_Table_1 : TF P T.q 1 1 67 := ⟨by kernel_rfl⟩
instance z_S_int : TZ P T.v 1 24 (.slice none 0 0) := ⟨by kernel_rfl⟩
instance g_S_int : TG P T.v false := ⟨by kernel_rfl⟩
instance s_S_int : TS P T.v 3 := ⟨by kernel_rfl⟩
instance z_S_S_bool : TZ P T.y 1 24 (.slice none 0 0) := ⟨by kernel_rfl⟩
instance g_S_S_bool : TG P T.y false := ⟨by kernel_rfl⟩
instance s_S_S_bool : TS P T.y 80 := ⟨by kernel_rfl⟩
instance z_S_bool : TZ P T.w 1 24 (.slice none 0 0) := ⟨by kernel_rfl⟩
instance g_S_bool : TG P T.w false := ⟨by kernel_rfl⟩
instance s_S_bool : TS P T.w 4 := ⟨by kernel_rfl⟩
instance z_func_api_Field_bool : TZ P T.a6 1 8 .nilFunc := ⟨by kernel_rfl⟩
instance g_func_api_Field_bool : TG P T.a6 false := ⟨by kernel_rfl⟩
instance z_A6_string : TZ P T.ad 6 96 (.agg #[.string ⟨#[]⟩, .string ⟨#[]⟩, .string ⟨#[]⟩, .string ⟨#[]⟩, .string ⟨#[]⟩, .string ⟨#[]⟩]) := ⟨by kernel_rfl⟩
instance g_A6_string : TG P T.ad true := ⟨by kernel_rfl⟩
instance a_A6_string : TA P T.ad 6 9 := ⟨by kernel_rfl⟩
instance z_func_int : TZ P T.ae 1 8 .nilFunc := ⟨by kernel_rfl⟩
instance g_func_int : TG P T.ae false := ⟨by kernel_rfl⟩
instance z_M_string_string : TZ P T.o 1 8 (.map none) := ⟨by kernel_rfl⟩
instance g_M_string_string : TG P T.o false := ⟨by kernel_rfl⟩
instance m_M_string_string : TM P T.o 9 9 := ⟨by kernel_rfl⟩
instance z_func_api_Method_bool : TZ P T.a4 1 8 .nilFunc := ⟨by kernel_rfl⟩
instance g_func_api_Method_bool : TG P T.a4 false := ⟨by kernel_rfl⟩
instance g_strings_asciiSet : TG P T.a1 true := ⟨by kernel_rfl⟩
instance a_strings_asciiSet : TA P T.a1 256 4 := ⟨by kernel_rfl⟩
instance z_api_Catch : TZ P T.l 4 40 (.agg #[.int .i64 0, .int .i64 0, .int .i64 0, .string ⟨#[]⟩]) := ⟨by kernel_rfl⟩
instance g_api_Catch : TG P T.l true := ⟨by kernel_rfl⟩
instance f_api_Catch_0 : TF P T.l 0 0 3 := ⟨by kernel_rfl⟩
instance f_api_Catch_1 : TF P T.l 1 1 3 := ⟨by kernel_rfl⟩
instance f_api_Catch_2 : TF P T.l 2 2 3 := ⟨by kernel_rfl⟩
instance f_api_Catch_3 : TF P T.l 3 3 9 := ⟨by kernel_rfl⟩
instance z_S_uint8 : TZ P T.ai 1 24 (.slice none 0 0) := ⟨by kernel_rfl⟩
instance g_S_uint8 : TG P T.ai false := ⟨by kernel_rfl⟩
instance s_S_uint8 : TS P T.ai 5 := ⟨by kernel_rfl⟩
instance z_strings_Builder : TZ P T.aa 2 32 (.agg #[.pointer none, .slice none 0 0]) := ⟨by kernel_rfl⟩
instance g_strings_Builder : TG P T.aa true := ⟨by kernel_rfl⟩
instance f_strings_Builder_0 : TF P T.aa 0 0 124 := ⟨by kernel_rfl⟩
instance f_strings_Builder_1 : TF P T.aa 1 1 125 := ⟨by kernel_rfl⟩
instance z_func_api_Field_string : TZ P T.a0 1 8 .nilFunc := ⟨by kernel_rfl⟩
instance g_func_api_Field_string : TG P T.a0 false := ⟨by kernel_rfl⟩
instance z_api_Instr : TZ P T.n 3 40 (.agg #[.string ⟨#[]⟩, .int .i64 0, .string ⟨#[]⟩]) := ⟨by kernel_rfl⟩
instance g_api_Instr : TG P T.n true := ⟨by kernel_rfl⟩
instance f_api_Instr_0 : TF P T.n 0 0 9 := ⟨by kernel_rfl⟩
instance f_api_Instr_1 : TF P T.n 1 1 2 := ⟨by kernel_rfl⟩
instance f_api_Instr_2 : TF P T.n 2 2 9 := ⟨by kernel_rfl⟩
instance z_P_uint8 : TZ P T.al 1 8 (.pointer none) := ⟨by kernel_rfl⟩
instance g_P_uint8 : TG P T.al false := ⟨by kernel_rfl⟩
instance z_func_api_Catch_bool : TZ P T.a7 1 8 .nilFunc := ⟨by kernel_rfl⟩
instance g_func_api_Catch_bool : TG P T.a7 false := ⟨by kernel_rfl⟩
instance z_func_api_Instr_bool : TZ P T.a8 1 8 .nilFunc := ⟨by kernel_rfl⟩
instance g_func_api_Instr_bool : TG P T.a8 false := ⟨by kernel_rfl⟩
instance z_code_op : TZ P T.a3 3 24 (.agg #[.string ⟨#[]⟩, .bool false, .bool false]) := ⟨by kernel_rfl⟩
instance g_code_op : TG P T.a3 true := ⟨by kernel_rfl⟩
instance f_code_op_0 : TF P T.a3 0 0 9 := ⟨by kernel_rfl⟩
instance f_code_op_1 : TF P T.a3 1 1 4 := ⟨by kernel_rfl⟩
instance f_code_op_2 : TF P T.a3 2 2 4 := ⟨by kernel_rfl⟩
instance g_A42_code_op : TG P T.a5 true := ⟨by kernel_rfl⟩
instance a_A42_code_op : TA P T.a5 42 170 := ⟨by kernel_rfl⟩
instance g_A256_uint8 : TG P T.aj true := ⟨by kernel_rfl⟩
instance a_A256_uint8 : TA P T.aj 256 5 := ⟨by kernel_rfl⟩
instance z_utf8_acceptRange : TZ P T.a9 2 2 (.agg #[.int .u8 0, .int .u8 0]) := ⟨by kernel_rfl⟩
instance g_utf8_acceptRange : TG P T.a9 true := ⟨by kernel_rfl⟩
instance f_utf8_acceptRange_0 : TF P T.a9 0 0 5 := ⟨by kernel_rfl⟩
instance f_utf8_acceptRange_1 : TF P T.a9 1 1 5 := ⟨by kernel_rfl⟩
instance z_A16_utf8_acceptRange : TZ P T.ab 32 32 (.agg #[.int .u8 0, .int .u8 0, .int .u8 0, .int .u8 0, .int .u8 0, .int .u8 0, .int .u8 0, .int .u8 0, .int .u8 0, .int .u8 0, .int .u8 0, .int .u8 0, .int .u8 0, .int .u8 0, .int .u8 0, .int .u8 0, .int .u8 0, .int .u8 0, .int .u8 0, .int .u8 0, .int .u8 0, .int .u8 0, .int .u8 0, .int .u8 0, .int .u8 0, .int .u8 0, .int .u8 0, .int .u8 0, .int .u8 0, .int .u8 0, .int .u8 0, .int .u8 0]) := ⟨by kernel_rfl⟩
instance g_A16_utf8_acceptRange : TG P T.ab true := ⟨by kernel_rfl⟩
instance a_A16_utf8_acceptRange : TA P T.ab 16 179 := ⟨by kernel_rfl⟩
instance z_S_code_op : TZ P T.ag 1 24 (.slice none 0 0) := ⟨by kernel_rfl⟩
instance g_S_code_op : TG P T.ag false := ⟨by kernel_rfl⟩
instance s_S_code_op : TS P T.ag 170 := ⟨by kernel_rfl⟩
instance z_uint64 : TZ P T.am 1 8 (.int .u64 0) := ⟨by kernel_rfl⟩
instance g_uint64 : TG P T.am false := ⟨by kernel_rfl⟩
instance z_uint32 : TZ P T.an 1 4 (.int .u32 0) := ⟨by kernel_rfl⟩
instance g_uint32 : TG P T.an false := ⟨by kernel_rfl⟩
end Go.Proofs.YtdnfaboigajkhaaGreatDoor

namespace Go.Emb
theorem aS {p : Prop} (h : p := by (first | assumption | exact Stp.sat (by assumption) | exact Hst.sat (by assumption))) : p := h
theorem aL {p : Prop} (h : p := by (first | assumption | exact Sl.lift (by assumption) (by (repeat (first | exact SLe.refl _ | refine SLe.more ?_ (by assumption) | refine SLe.more ?_ (Nxt.le (by assumption)) | refine SLe.step ?_ (by assumption)))) | exact U0.lift (by assumption) (by (repeat (first | exact SLe.refl _ | refine SLe.more ?_ (by assumption) | refine SLe.more ?_ (Nxt.le (by assumption)) | refine SLe.step ?_ (by assumption)))) | exact P2.lift (by assumption) (by (repeat (first | exact SLe.refl _ | refine SLe.more ?_ (by assumption) | refine SLe.more ?_ (Nxt.le (by assumption)) | refine SLe.step ?_ (by assumption)))) | exact H5 (by assumption) (by (repeat (first | exact SLe.refl _ | refine SLe.more ?_ (by assumption) | refine SLe.more ?_ (Nxt.le (by assumption)) | refine SLe.step ?_ (by assumption)))) | exact N8 (by assumption) (by (repeat (first | exact SLe.refl _ | refine SLe.more ?_ (by assumption) | refine SLe.more ?_ (Nxt.le (by assumption)) | refine SLe.step ?_ (by assumption)))) | exact Glb.lift (by assumption) (by (repeat (first | exact SLe.refl _ | refine SLe.more ?_ (by assumption) | refine SLe.more ?_ (Nxt.le (by assumption)) | refine SLe.step ?_ (by assumption)))) | exact Tab.lift (by assumption) (by (repeat (first | exact SLe.refl _ | refine SLe.more ?_ (by assumption) | refine SLe.more ?_ (Nxt.le (by assumption)) | refine SLe.step ?_ (by assumption)))) | exact Q14 (by assumption) | exact Q0R (by assumption) | exact Q0V (by assumption))) : p := h
theorem aR {p : Prop} (h : p := by with_unfolding_all rfl) : p := h
theorem au {p : Prop} (h : p := by (first | assumption | (first | assumption | exact Stp.sat (by assumption) | exact Hst.sat (by assumption)) | (first | assumption | exact Sl.lift (by assumption) (by (repeat (first | exact SLe.refl _ | refine SLe.more ?_ (by assumption) | refine SLe.more ?_ (Nxt.le (by assumption)) | refine SLe.step ?_ (by assumption)))) | exact U0.lift (by assumption) (by (repeat (first | exact SLe.refl _ | refine SLe.more ?_ (by assumption) | refine SLe.more ?_ (Nxt.le (by assumption)) | refine SLe.step ?_ (by assumption)))) | exact P2.lift (by assumption) (by (repeat (first | exact SLe.refl _ | refine SLe.more ?_ (by assumption) | refine SLe.more ?_ (Nxt.le (by assumption)) | refine SLe.step ?_ (by assumption)))) | exact H5 (by assumption) (by (repeat (first | exact SLe.refl _ | refine SLe.more ?_ (by assumption) | refine SLe.more ?_ (Nxt.le (by assumption)) | refine SLe.step ?_ (by assumption)))) | exact N8 (by assumption) (by (repeat (first | exact SLe.refl _ | refine SLe.more ?_ (by assumption) | refine SLe.more ?_ (Nxt.le (by assumption)) | refine SLe.step ?_ (by assumption)))) | exact Glb.lift (by assumption) (by (repeat (first | exact SLe.refl _ | refine SLe.more ?_ (by assumption) | refine SLe.more ?_ (Nxt.le (by assumption)) | refine SLe.step ?_ (by assumption)))) | exact Tab.lift (by assumption) (by (repeat (first | exact SLe.refl _ | refine SLe.more ?_ (by assumption) | refine SLe.more ?_ (Nxt.le (by assumption)) | refine SLe.step ?_ (by assumption)))) | exact Q14 (by assumption) | exact Q0R (by assumption) | exact Q0V (by assumption)) | exact Nat.le_trans (by assumption) (by decide) | omega)) : p := h
end Go.Emb
namespace Go.Proofs.YtdnfaboigajkhaaGreatDoor
open Go.Emb
theorem Q9c {a : List UInt8} {cs : List Bool} {r : TypeId} {w : World} {K : Value → World → Prop} : X4 P .len [T.c] r cs [S a] w K = K (I a.length) w := D2 X7
theorem Q9n {ox oy : Operand} {a b : Bool} {w : World} {K : Value → World → Prop} : Q3 P .eql T.m ox oy (.bool a) (.bool b) w K = K (.bool (a == b)) w := Q2P Zv
theorem Q9a {ox oy : Operand} {a b : Bool} {w : World} {K : Value → World → Prop} : Q3 P .neq T.m ox oy (.bool a) (.bool b) w K = K (.bool (!(a == b))) w := Q2r Zv
def Mm := And.intro @fa <| And.intro @R9 <| And.intro @Qy <| And.intro @Q9c <| And.intro @Q9n @Q9a
end Go.Proofs.YtdnfaboigajkhaaGreatDoor

namespace Go.Proofs.YtdnfaboigajkhaaGreatDoor
open Go.Emb Go.RowKit Go.Kd Go.Hm
variable {w : World} {K : Value → World → Prop} {σ : Q5}
def Ji (m : Hm.Met) : Bool := decide (32 < m.params.length) || decide (32 < m.catches.length) || decide (200 < m.code.length) || decide (64 < m.locals)
def Xc (c : Cla) : Bool := c.methods.any Ji || decide (32 < c.like.length) || decide (32 < c.fields.length) || decide (32 < c.methods.length)
theorem Q8n {c : Cla} {cs : List Value} (hs : X6 w σ) (hc : U7 σ c cs) (h : ∀ w', Below w.heap.size w w' → K (.bool (Xc c)) w') : Q1 P F.c4 [.agg cs.toArray] w K := Q3c (by
  obtain ⟨lv, fv, mv, rfl, hl, hf, hm, hn, hsu⟩ := hc
  unfold Ky
  refine N1 hs fun a w1 σ1 hk ha => ?_
  have hs := hk.sat
  replace hl := hl.up hk
  replace hf := hf.up hk
  replace hm := hm.up hk
  simp only [Value.cells] at ha
  ((try simp only [↓Mm, Mm, ↓Mr, Mr, Mb, reduceIte]); repeat ((first | refine ld (by assumption) (by assumption) rfl ?_ | refine X8 (by assumption) (by assumption) rfl ?_ | refine Q6 (by assumption) ?_); (try simp only [↓Mm, Mm, ↓Mr, Mr, Mb, reduceIte])))
  refine V0 c.methods.length (fun n w' => Below w1.heap.size w1 w' ∧ ((c.methods.take n).any Ji) = false) ⟨Below.refl _ _, by simp⟩ fun n w2 d hn hi => ?_
  obtain ⟨hb, hp⟩ := hi
  have hs2 := hs.below hb
  ((try simp only [↓Mm, Mm, ↓Mr, Mr, Mb, reduceIte]); repeat ((first | refine ld (by assumption) (by assumption) rfl ?_ | refine X8 (by assumption) (by assumption) rfl ?_ | refine Q6 (by assumption) ?_); (try simp only [↓Mm, Mm, ↓Mr, Mr, Mb, reduceIte])))
  refine Q4 (fun hc => ?_) (fun hc => ?_)
  · have hn' : n < c.methods.length := by simpa using hc
    refine L6 hm hn' fun p cs hl1 hlen hr => ?_
    refine Y3 hs2 hl1 hlen ?_
    refine Y1 hs2 (by rfl) hlen (Rep.one hr) fun q w3 σ3 hk3 hq => ?_
    obtain ⟨pv, cv, hv, rfl, g1, g2, g3, g4⟩ := hr
    have hs3 := hk3.sat
    replace g1 := g1.up hk3
    replace g2 := g2.up hk3
    replace g3 := g3.up hk3
    ((try simp only [↓Mm, Mm, ↓Mr, Mr, Mb, reduceIte]); repeat ((first | refine ld (by assumption) (by assumption) rfl ?_ | refine X8 (by assumption) (by assumption) rfl ?_ | refine Q6 (by assumption) ?_); (try simp only [↓Mm, Mm, ↓Mr, Mr, Mb, reduceIte])))
    (repeat' ((first | refine Y2 (fun hh => ?_) (fun hh => ?_) | refine Q4 (fun hh => ?_) (fun hh => ?_)) <;> (try simp only [hh, Bool.not_true, Bool.not_false, ↓Mm, Mm, ↓Mr, Mr, Mb, reduceIte]) <;> ((try simp only [↓Mm, Mm, ↓Mr, Mr, Mb, reduceIte]); repeat ((first | refine ld (by assumption) (by assumption) rfl ?_ | refine X8 (by assumption) (by assumption) rfl ?_ | refine Q6 (by assumption) ?_); (try simp only [↓Mm, Mm, ↓Mr, Mr, Mb, reduceIte])))))
    all_goals first
      | refine Y4 hm.max hn' ⟨bt hb hk3.bel, ?_⟩
        rw [M8 hn', hp]; simp only [Ji]; (first | (simp only [decide_eq_true_eq, decide_eq_false_iff_not, Bool.not_true, Bool.not_false, Bool.not_eq_true', Bool.not_eq_false', Bool.or_eq_true, Bool.and_eq_true, Bool.or_eq_false_iff, Bool.and_eq_false_iff, Bool.false_or, Bool.true_and, Bool.or_false, Bool.and_true] at *; first | omega | (and_intros <;> omega)) | (rw [Bool.eq_iff_iff]; (simp only [decide_eq_true_eq, decide_eq_false_iff_not, Bool.not_true, Bool.not_false, Bool.not_eq_true', Bool.not_eq_false', Bool.or_eq_true, Bool.and_eq_true, Bool.or_eq_false_iff, Bool.and_eq_false_iff, Bool.false_or, Bool.true_and, Bool.or_false, Bool.and_true] at *; first | omega | (and_intros <;> omega))))
      | have e : Xc c = true := by
          have : Ji c.methods[n] = true := by simp only [Ji]; (first | (simp only [decide_eq_true_eq, decide_eq_false_iff_not, Bool.not_true, Bool.not_false, Bool.not_eq_true', Bool.not_eq_false', Bool.or_eq_true, Bool.and_eq_true, Bool.or_eq_false_iff, Bool.and_eq_false_iff, Bool.false_or, Bool.true_and, Bool.or_false, Bool.and_true] at *; first | omega | (and_intros <;> omega)) | (rw [Bool.eq_iff_iff]; (simp only [decide_eq_true_eq, decide_eq_false_iff_not, Bool.not_true, Bool.not_false, Bool.not_eq_true', Bool.not_eq_false', Bool.or_eq_true, Bool.and_eq_true, Bool.or_eq_false_iff, Bool.and_eq_false_iff, Bool.false_or, Bool.true_and, Bool.or_false, Bool.and_true] at *; first | omega | (and_intros <;> omega))))
          simp [Xc, R4 hn' this]
        rw [← e]; exact h _ (bt hk.bel (bt hb hk3.bel))
  · have hn' : ¬ n < c.methods.length := by simpa using hc
    rw [O9 hn'] at hp
    have h := h w2 (bt hk.bel hb)
    ((try simp only [↓Mm, Mm, ↓Mr, Mr, Mb, reduceIte]); repeat ((first | refine ld (by assumption) (by assumption) rfl ?_ | refine X8 (by assumption) (by assumption) rfl ?_ | refine Q6 (by assumption) ?_); (try simp only [↓Mm, Mm, ↓Mr, Mr, Mb, reduceIte])))
    (repeat' ((first | refine Y2 (fun hh => ?_) (fun hh => ?_) | refine Q4 (fun hh => ?_) (fun hh => ?_)) <;> (try simp only [hh, Bool.not_true, Bool.not_false, ↓Mm, Mm, ↓Mr, Mr, Mb, reduceIte]) <;> ((try simp only [↓Mm, Mm, ↓Mr, Mr, Mb, reduceIte]); repeat ((first | refine ld (by assumption) (by assumption) rfl ?_ | refine X8 (by assumption) (by assumption) rfl ?_ | refine Q6 (by assumption) ?_); (try simp only [↓Mm, Mm, ↓Mr, Mr, Mb, reduceIte])))))
    all_goals
      refine Eq.subst (motive := fun b => K (.bool b) w2) ?_ h
      simp only [Xc, hp]
      (first | (simp only [decide_eq_true_eq, decide_eq_false_iff_not, Bool.not_true, Bool.not_false, Bool.not_eq_true', Bool.not_eq_false', Bool.or_eq_true, Bool.and_eq_true, Bool.or_eq_false_iff, Bool.and_eq_false_iff, Bool.false_or, Bool.true_and, Bool.or_false, Bool.and_true] at *; first | omega | (and_intros <;> omega)) | (rw [Bool.eq_iff_iff]; (simp only [decide_eq_true_eq, decide_eq_false_iff_not, Bool.not_true, Bool.not_false, Bool.not_eq_true', Bool.not_eq_false', Bool.or_eq_true, Bool.and_eq_true, Bool.or_eq_false_iff, Bool.and_eq_false_iff, Bool.false_or, Bool.true_and, Bool.or_false, Bool.and_true] at *; first | omega | (and_intros <;> omega)))))
end Go.Proofs.YtdnfaboigajkhaaGreatDoor

namespace Go.Emb
open Go.RowKit Go.Hm
variable {H : Type} {enc : TypeId × Value → H} {P : Program} {W : World} {t : TypeId} {cs : List Value} {fuel : Nat} {x : DataW H × List MemPlace}
def G9 (W : World) : Q5 := fun b => W.heap[b]?
theorem Q6v : X6 W (G9 W) := fun b o h => h
def Wt (P : Program) (t : TypeId) (d : DataW H) : Prop := ∀ n ∈ d.weights P t, n ≤ reachBytes
theorem Q85 {a : Addr} {n : Nat} (h : W.cells? 0 a n = some cs) (hn : 0 < n) : cs.length = n ∧ U0 (G9 W) a cs := by
  obtain ⟨_, h1, h2⟩ := World.cells?_some h
  refine ⟨h1, ?_⟩
  have key : ∀ i v, cs[i]? = some v → ∃ D5 e fr, W.heap[a.block]? = some (.cells D5 e fr) ∧ (a.add i).spot = none ∧ D5[a.off + i]? = some v := by
    intro i v hv
    have hi : i < cs.length := (List.getElem?_eq_some_iff.1 hv).1
    have h3 := h2 i (by omega)
    rw [hv] at h3
    unfold World.cell? at h3
    rw [R3, Xa] at h3
    cases hb : W.heap[a.block]? with
    | none => rw [hb] at h3; cases h3
    | some o =>
      rw [hb] at h3
      cases o with
      | cells D5 e fr =>
        simp only at h3
        split at h3
        · cases h3
        · rename_i hs
          exact ⟨D5, e, fr, rfl, by simpa using hs, h3⟩
      | _ => cases h3
  cases hc : cs with
  | nil => subst hc; simp at h1; omega
  | cons c r =>
    obtain ⟨D5, e, fr, g1, g2, g3⟩ := key 0 c (by rw [hc]; rfl)
    refine ⟨by simpa [Addr.add] using g2, D5, e, fr, g1, fun i v hv => ?_⟩
    obtain ⟨arr', e', fr', k1, k2, k3⟩ := key i v (by rw [hc]; exact hv)
    rw [g1] at k1
    injection k1 with k1
    injection k1 with k1
    subst k1
    exact k3
theorem Ye (hu : P.underlying t = some .string) (h : DataW.trod enc P W 0 (fun _ => true) true fuel t cs = some x) (hw : Wt P t x.1) : ∃ s : Kd.X0, cs = [S s] ∧ s.length ≤ W2 := by
  obtain ⟨⟨⟨s⟩⟩, rfl, rfl, _⟩ := DataW.trod_string hu h
  refine ⟨s, rfl, ?_⟩
  have := hw s.length (by simp [DataW.weights])
  exact this
theorem Rc (hu : P.underlying t = some .bool) (h : DataW.trod enc P W 0 (fun _ => true) true fuel t cs = some x) : ∃ b, cs = [.bool b] := by
  obtain ⟨b, h1, _⟩ := DataW.trod_bool hu h; exact ⟨b, h1⟩
theorem Kx (hu : P.underlying t = some (.int .i64)) (h : DataW.trod enc P W 0 (fun _ => true) true fuel t cs = some x) : ∃ n, cs = [I n] ∧ Gt n := by
  obtain ⟨n, h1, _, h2⟩ := DataW.trod_int hu h
  refine ⟨n, h1, ?_⟩
  simp only [Lit.wf, Bool.and_eq_true, decide_eq_true_eq] at h2
  exact ⟨h2.1, h2.2⟩
theorem Q7D {α : Type} {Q : Nat → α → Prop} : ∀ (n : Nat), (∀ i, i < n → ∃ y, Q i y) → ∃ xs : List α, xs.length = n ∧ ∀ i y, xs[i]? = some y → Q i y := by
  intro n
  induction n with
  | zero => intro _; exact ⟨[], rfl, by simp⟩
  | succ n ih =>
    intro h
    obtain ⟨xs, h1, h2⟩ := ih fun i hi => h i (by omega)
    obtain ⟨y, hy⟩ := h n (by omega)
    refine ⟨xs ++ [y], by simp [h1], fun i z hz => ?_⟩
    by_cases hi : i < xs.length
    · rw [List.getElem?_append_left hi] at hz; exact h2 i z hz
    · rw [List.getElem?_append_right (by omega)] at hz
      have : i - xs.length = 0 := by
        have := (List.getElem?_eq_some_iff.1 hz).1
        simp at this; omega
      rw [this] at hz
      simp at hz
      subst hz
      rw [show i = n by omega]; exact hy
theorem Q8x {e : TypeId} {d : DataW H} : ∀ {l : List (DataW H)}, d ∈ l → ∀ n ∈ d.weights P e, n ∈ DataW.weightsAll P e l := by
  intro l
  induction l with
  | nil => intro h; simp at h
  | cons a r ih =>
    intro h n hn
    simp only [DataW.weightsAll, List.mem_append]
    rcases List.mem_cons.1 h with rfl | h
    · exact .inl hn
    · exact .inr (ih h n hn)
theorem Cv {α : Type} {R : Q5 → α → List Value → Prop} {e : TypeId} {sz : Nat} (hu : P.underlying t = some (.slice e)) (hc : P.cellsOf e = sz) (hz : 0 < sz)
    (hel : ∀ fuel cs (x : DataW H × List MemPlace), DataW.trod enc P W 0 (fun _ => true) true fuel e cs = some x → Wt P e x.1 → ∃ y, R (G9 W) y cs)
    (h : DataW.trod enc P W 0 (fun _ => true) true fuel t cs = some x) (hw : Wt P t x.1) : ∃ v xs, cs = [v] ∧ Sl sz R (G9 W) v xs := by
  rcases DataW.trod_slice hu h with ⟨rfl, rfl⟩ | ⟨a, len, cap, elems, rest, n, _, rfl, rfl, _, hl, hm, hel2, hget, _⟩
  · exact ⟨_, [], rfl, Sl.nil⟩
  subst hc
  have step : ∀ i, i < len → ∃ y, ∃ cs', U0 (G9 W) (a.add (i * P.cellsOf e)) cs' ∧ cs'.length = P.cellsOf e ∧ R (G9 W) y cs' := by
    intro i hi
    have h1 := hget i hi
    have hi2 : i < elems.length := by omega
    rw [List.getElem?_eq_getElem hi2] at h1
    obtain ⟨cs', h2, h3⟩ := Option.bind_eq_some_iff.1 h1
    obtain ⟨h4, h5⟩ := Q85 h2 hz
    obtain ⟨y, hy⟩ := hel n cs' _ h3 (fun m hm => hw m (by
      simp only [DataW.weights, hu, List.mem_cons, List.mem_append]
      exact .inr (.inl (Q8x (List.mem_map.2 ⟨_, List.getElem_mem hi2, rfl⟩) m hm))))
    exact ⟨y, cs', h5, h4, hy⟩
  obtain ⟨xs, hx1, hx2⟩ := Q7D len step
  refine ⟨_, xs, rfl, some a, cap, by rw [hx1], by rw [hx1]; exact hl, hm, by simp, fun b hb => ?_⟩
  cases hb
  refine ⟨fun h0 => ?_, fun i y hy => hx2 i y hy⟩
  obtain ⟨y, hy⟩ : ∃ y, xs[0]? = some y := ⟨xs[0], List.getElem?_eq_getElem h0⟩
  obtain ⟨cs', h5, _, _⟩ := hx2 0 y hy
  have := h5.1
  simpa [Addr.add] using this
theorem Q7Y : ∀ {ts : List TypeId} {l : List (DataW H)} {i : Nat} {u : TypeId} {d : DataW H}, ts[i]? = some u → l[i]? = some d → ∀ n ∈ d.weights P u, n ∈ DataW.weightsEach P ts l :=
  fun h1 h2 n hn => DataW.weights_mem_each h1 h2 n hn
theorem M1 {fs : Array Field} (hu : P.underlying t = some (.struct fs)) (h : DataW.trod enc P W 0 (fun _ => true) true fuel t cs = some x) (hw : Wt P t x.1) (i : Nat) {o : Nat} {ft : TypeId}
    (hf : (fs[i]?).map (fun f => (f.type, f.offset)) = some (ft, o)) (hc : P.cellsOf ft = 1) : ∃ n y, DataW.trod enc P W 0 (fun _ => true) true n ft ((cs.drop o).take 1) = some y ∧ Wt P ft y.1 := by
  obtain ⟨xs, n, _, rfl, h1, h2, h3⟩ := DataW.trod_struct hu h
  obtain ⟨f, hf', he⟩ := Option.map_eq_some_iff.1 hf
  cases he
  have h4 := h3 i f hf'
  have hi : i < xs.length := by rw [h2]; exact (Array.getElem?_eq_some_iff.1 hf').1
  rw [List.getElem?_eq_getElem hi, hc] at h4
  refine ⟨n, _, h4, fun m hm => hw m ?_⟩
  simp only [DataW.weights, hu]
  exact Q7Y (i := i) (u := f.type) (by rw [List.getElem?_map, Array.getElem?_toList, hf']; rfl) (by rw [List.getElem?_map, List.getElem?_eq_getElem hi]; rfl) m hm
theorem Ki {fs : Array Field} {k : Nat} (hu : P.underlying t = some (.struct fs)) (hk : P.cellsOf t = k) (h : DataW.trod enc P W 0 (fun _ => true) true fuel t cs = some x) : cs.length = k := by
  obtain ⟨_, _, _, _, h1, _, _⟩ := DataW.trod_struct hu h
  rw [h1, hk]
theorem Q22 {α : Type} {l : List α} (h : l.length = 3) : ∃ a b c, l = [a, b, c] := by
  match l, h with
  | [a, b, c], _ => exact ⟨a, b, c, rfl⟩
theorem Q9u {α : Type} {l : List α} (h : l.length = 4) : ∃ a b c d, l = [a, b, c, d] := by
  match l, h with
  | [a, b, c, d], _ => exact ⟨a, b, c, d, rfl⟩
theorem Q9p {α : Type} {l : List α} (h : l.length = 7) : ∃ a b c d e f g, l = [a, b, c, d, e, f, g] := by
  match l, h with
  | [a, b, c, d, e, f, g], _ => exact ⟨a, b, c, d, e, f, g, rfl⟩
theorem Q9l {α : Type} {l : List α} (h : l.length = 8) : ∃ a b c d e f g i, l = [a, b, c, d, e, f, g, i] := by
  match l, h with
  | [a, b, c, d, e, f, g, i], _ => exact ⟨a, b, c, d, e, f, g, i, rfl⟩
end Go.Emb
namespace Go.Proofs.YtdnfaboigajkhaaGreatDoor
open Go.Emb Go.RowKit Go.Kd Go.Hm
variable {H : Type} {enc : TypeId × Value → H} {W : World} {cs : List Value} {fuel : Nat} {x : DataW H × List MemPlace}
def Q9r : Array Field := #[⟨"Name", T.c, 0, false, "", "", 0⟩, ⟨"Kind", T.c, 1, false, "", "", 16⟩, ⟨"Transient", T.m, 2, false, "", "", 32⟩]
theorem Q1W : P.underlying T.i = some (.struct Q9r) := by kernel_rfl
theorem S2 : P.cellsOf T.c = 1 := by kernel_rfl
theorem Rm : P.cellsOf T.m = 1 := by kernel_rfl
theorem Q20 : P.cellsOf T.d = 1 := by kernel_rfl
theorem Q8T (h : DataW.trod enc P W 0 (fun _ => true) true fuel T.i cs = some x) (hw : Wt P T.i x.1) : ∃ y, D6 (G9 W) y cs := by
  obtain ⟨c0, c1, c2, rfl⟩ := Q22 (Ki Q1W (by kernel_rfl) h)
  obtain ⟨_, _, k0, w0⟩ := M1 (o := 0) Q1W h hw 0 rfl S2
  obtain ⟨_, _, k1, w1⟩ := M1 (o := 1) Q1W h hw 1 rfl S2
  obtain ⟨_, _, k2, w2⟩ := M1 (o := 2) Q1W h hw 2 rfl Rm
  obtain ⟨s0, q0, r0⟩ := Ye X7 k0 w0
  obtain ⟨s1, q1, r1⟩ := Ye X7 k1 w1
  obtain ⟨s2, q2⟩ := Rc Zv k2
  simp at q0 q1 q2
  subst q0 q1 q2
  exact ⟨⟨s0, s1, s2⟩, rfl, r0, r1⟩
theorem Q64 {t : TypeId} (hu : P.underlying t = some .string) (h : DataW.trod enc P W 0 (fun _ => true) true fuel t cs = some x) (hw : Wt P t x.1) : ∃ y, U5 (G9 W) y cs := by
  obtain ⟨s, q, r⟩ := Ye hu h hw; exact ⟨s, q, r⟩
def Q9w : Array Field := #[⟨"Op", T.c, 0, false, "", "", 0⟩, ⟨"N", T.af, 1, false, "", "", 16⟩, ⟨"S", T.c, 2, false, "", "", 24⟩]
theorem Q24 : P.underlying T.n = some (.struct Q9w) := by kernel_rfl
theorem Q8Y (h : DataW.trod enc P W 0 (fun _ => true) true fuel T.n cs = some x) (hw : Wt P T.n x.1) : ∃ y, F3 (G9 W) y cs := by
  obtain ⟨c0, c1, c2, rfl⟩ := Q22 (Ki Q24 (by kernel_rfl) h)
  obtain ⟨_, _, k0, w0⟩ := M1 (o := 0) Q24 h hw 0 rfl S2
  obtain ⟨_, _, k1, w1⟩ := M1 (o := 1) Q24 h hw 1 rfl (by kernel_rfl)
  obtain ⟨_, _, k2, w2⟩ := M1 (o := 2) Q24 h hw 2 rfl S2
  obtain ⟨s0, q0, r0⟩ := Ye X7 k0 w0
  obtain ⟨s1, q1, r1⟩ := Kx (by kernel_rfl) k1
  obtain ⟨s2, q2, r2⟩ := Ye X7 k2 w2
  simp at q0 q1 q2
  subst q0 q1 q2
  exact ⟨⟨s0, s1, s2⟩, rfl, r0, r1, r2⟩
def Q9z : Array Field := #[⟨"From", T.d, 0, false, "", "", 0⟩, ⟨"To", T.d, 1, false, "", "", 8⟩, ⟨"At", T.d, 2, false, "", "", 16⟩, ⟨"Class", T.c, 3, false, "", "", 24⟩]
theorem Q05 : P.underlying T.l = some (.struct Q9z) := by kernel_rfl
theorem Q8F (h : DataW.trod enc P W 0 (fun _ => true) true fuel T.l cs = some x) (hw : Wt P T.l x.1) : ∃ y, Qv (G9 W) y cs := by
  obtain ⟨c0, c1, c2, c3, rfl⟩ := Q9u (Ki Q05 (by kernel_rfl) h)
  obtain ⟨_, _, k0, w0⟩ := M1 (o := 0) Q05 h hw 0 rfl Q20
  obtain ⟨_, _, k1, w1⟩ := M1 (o := 1) Q05 h hw 1 rfl Q20
  obtain ⟨_, _, k2, w2⟩ := M1 (o := 2) Q05 h hw 2 rfl Q20
  obtain ⟨_, _, k3, w3⟩ := M1 (o := 3) Q05 h hw 3 rfl S2
  obtain ⟨s0, q0, r0⟩ := Kx Q08 k0
  obtain ⟨s1, q1, r1⟩ := Kx Q08 k1
  obtain ⟨s2, q2, r2⟩ := Kx Q08 k2
  obtain ⟨s3, q3, r3⟩ := Ye X7 k3 w3
  simp at q0 q1 q2 q3
  subst q0 q1 q2 q3
  exact ⟨⟨s0, s1, s2, s3⟩, rfl, r0, r1, r2, r3⟩
theorem Q6f : P.underlying T.f = some (.slice T.c) := by kernel_rfl
theorem Q8K : P.underlying T.h = some (.slice T.i) := by kernel_rfl
theorem Q94 : P.underlying T.k = some (.slice T.n) := by kernel_rfl
theorem Q8S : P.underlying T.j = some (.slice T.l) := by kernel_rfl
theorem Q8O : P.underlying T.e = some (.slice T.b) := by kernel_rfl
theorem Q5M : P.underlying T.g = some (.slice T.a) := by kernel_rfl
def Q9j : Array Field := #[⟨"Name", T.c, 0, false, "", "", 0⟩, ⟨"Params", T.f, 1, false, "", "", 16⟩, ⟨"Result", T.c, 2, false, "", "", 40⟩, ⟨"Abstract", T.m, 3, false, "", "", 56⟩, ⟨"Locals", T.d, 4, false, "", "", 64⟩, ⟨"Code", T.k, 5, false, "", "", 72⟩, ⟨"Catches", T.j, 6, false, "", "", 96⟩]
theorem Dx : P.underlying T.b = some (.struct Q9j) := by kernel_rfl
theorem Q8Q (h : DataW.trod enc P W 0 (fun _ => true) true fuel T.b cs = some x) (hw : Wt P T.b x.1) : ∃ y, M7 (G9 W) y cs := by
  obtain ⟨c0, c1, c2, c3, c4, c5, c6, rfl⟩ := Q9p (Ki Dx (by kernel_rfl) h)
  obtain ⟨_, _, k0, w0⟩ := M1 (o := 0) Dx h hw 0 rfl S2
  obtain ⟨_, _, k1, w1⟩ := M1 (o := 1) Dx h hw 1 rfl (by kernel_rfl)
  obtain ⟨_, _, k2, w2⟩ := M1 (o := 2) Dx h hw 2 rfl S2
  obtain ⟨_, _, k3, w3⟩ := M1 (o := 3) Dx h hw 3 rfl Rm
  obtain ⟨_, _, k4, w4⟩ := M1 (o := 4) Dx h hw 4 rfl Q20
  obtain ⟨_, _, k5, w5⟩ := M1 (o := 5) Dx h hw 5 rfl (by kernel_rfl)
  obtain ⟨_, _, k6, w6⟩ := M1 (o := 6) Dx h hw 6 rfl (by kernel_rfl)
  obtain ⟨s0, q0, r0⟩ := Ye X7 k0 w0
  obtain ⟨v1, s1, q1, r1⟩ := Cv (R := U5) Q6f S2 (by decide) (fun _ _ _ h hw => Q64 X7 h hw) k1 w1
  obtain ⟨s2, q2, r2⟩ := Ye X7 k2 w2
  obtain ⟨s3, q3⟩ := Rc Zv k3
  obtain ⟨s4, q4, r4⟩ := Kx Q08 k4
  obtain ⟨v5, s5, q5, r5⟩ := Cv (R := F3) (sz := 3) Q94 (by kernel_rfl) (by decide) (fun _ _ _ h hw => Q8Y h hw) k5 w5
  obtain ⟨v6, s6, q6, r6⟩ := Cv (R := Qv) (sz := 4) Q8S (by kernel_rfl) (by decide) (fun _ _ _ h hw => Q8F h hw) k6 w6
  simp at q0 q1 q2 q3 q4 q5 q6
  subst q0 q1 q2 q3 q4 q5 q6
  exact ⟨⟨s0, s1, s2, s3, s4, s5, s6⟩, _, _, _, rfl, r1, r5, r6, r0, r2, r4⟩
def Q9q : Array Field := #[⟨"Name", T.c, 0, false, "", "", 0⟩, ⟨"Super", T.c, 1, false, "", "", 16⟩, ⟨"Like", T.f, 2, false, "", "", 32⟩, ⟨"Interface", T.m, 3, false, "", "", 56⟩, ⟨"Abstract", T.m, 4, false, "", "", 57⟩, ⟨"Final", T.m, 5, false, "", "", 58⟩, ⟨"Fields", T.h, 6, false, "", "", 64⟩, ⟨"Methods", T.e, 7, false, "", "", 88⟩]
theorem Ni : P.underlying T.a = some (.struct Q9q) := by kernel_rfl
theorem Q8p (h : DataW.trod enc P W 0 (fun _ => true) true fuel T.a cs = some x) (hw : Wt P T.a x.1) : ∃ y, U7 (G9 W) y cs := by
  obtain ⟨c0, c1, c2, c3, c4, c5, c6, c7, rfl⟩ := Q9l (Ki Ni (by kernel_rfl) h)
  obtain ⟨_, _, k0, w0⟩ := M1 (o := 0) Ni h hw 0 rfl S2
  obtain ⟨_, _, k1, w1⟩ := M1 (o := 1) Ni h hw 1 rfl S2
  obtain ⟨_, _, k2, w2⟩ := M1 (o := 2) Ni h hw 2 rfl (by kernel_rfl)
  obtain ⟨_, _, k3, w3⟩ := M1 (o := 3) Ni h hw 3 rfl Rm
  obtain ⟨_, _, k4, w4⟩ := M1 (o := 4) Ni h hw 4 rfl Rm
  obtain ⟨_, _, k5, w5⟩ := M1 (o := 5) Ni h hw 5 rfl Rm
  obtain ⟨_, _, k6, w6⟩ := M1 (o := 6) Ni h hw 6 rfl (by kernel_rfl)
  obtain ⟨_, _, k7, w7⟩ := M1 (o := 7) Ni h hw 7 rfl (by kernel_rfl)
  obtain ⟨s0, q0, r0⟩ := Ye X7 k0 w0
  obtain ⟨s1, q1, r1⟩ := Ye X7 k1 w1
  obtain ⟨v2, s2, q2, r2⟩ := Cv (R := U5) Q6f S2 (by decide) (fun _ _ _ h hw => Q64 X7 h hw) k2 w2
  obtain ⟨s3, q3⟩ := Rc Zv k3
  obtain ⟨s4, q4⟩ := Rc Zv k4
  obtain ⟨s5, q5⟩ := Rc Zv k5
  obtain ⟨v6, s6, q6, r6⟩ := Cv (R := D6) (sz := 3) Q8K (by kernel_rfl) (by decide) (fun _ _ _ h hw => Q8T h hw) k6 w6
  obtain ⟨v7, s7, q7, r7⟩ := Cv (R := M7) (sz := 7) Q8O (by kernel_rfl) (by decide) (fun _ _ _ h hw => Q8Q h hw) k7 w7
  simp at q0 q1 q2 q3 q4 q5 q6 q7
  subst q0 q1 q2 q3 q4 q5 q6 q7
  exact ⟨⟨s0, s1, s2, s3, s4, s5, s6, s7⟩, _, _, _, rfl, r2, r6, r7, r0, r1⟩
theorem Q7G (h : DataW.trod enc P W 0 (fun _ => true) true fuel T.g cs = some x) (hw : Wt P T.g x.1) : ∃ v l, cs = [v] ∧ Sl 8 U7 (G9 W) v l :=
  Cv Q5M (by kernel_rfl) (by decide) (fun _ _ _ h hw => Q8p h hw) h hw
end Go.Proofs.YtdnfaboigajkhaaGreatDoor

namespace Go.Emb
def U6 {α β : Type} (stp : β → α → Bool × β) : β → List α → Nat → Option Nat × β
  | s, [], _ => (none, s)
  | s, x :: xs, i => if (stp s x).1 then (some i, (stp s x).2) else U6 stp (stp s x).2 xs (i + 1)
def L7 (o : Option Nat) : Int := match o with | some i => i | none => -1
theorem I4 {α : Type} (p : α → Bool) : ∀ (xs : List α) (i : Nat), (U6 (fun (_ : Unit) x => (p x, ())) () xs i).1 = (xs.findIdx? p).map (· + i) := by
  intro xs
  induction xs with
  | nil => intro i; rfl
  | cons x r ih =>
    intro i
    rw [List.findIdx?_cons]
    simp only [U6]
    cases p x with
    | true => simp
    | false =>
      simp only [Bool.false_eq_true, if_false]
      rw [ih (i + 1), Option.map_map]
      congr 1; funext n; simp only [Function.comp]; omega
theorem Ca {α β : Type} (stp : β → α → Bool × β) (s : β) (xs : List α) (i : Nat) : decide ((0 : Int) ≤ L7 (U6 stp s xs i).1) = (U6 stp s xs i).1.isSome := by
  cases (U6 stp s xs i).1 <;> simp [L7]
end Go.Emb
namespace Go.Proofs.YtdnfaboigajkhaaGreatDoor
open Go.Emb Go.RowKit Go.Kd Go.Hm
variable {w : World} {K : Value → World → Prop} {σ : Q5}
theorem Jc {β : Type} {xs : List Hm.Met} {v f : Value} (stp : β → Hm.Met → Bool × β) (s0 : β) (Inv : β → World → Prop) (D : Nat → Prop) (hsat : ∀ s w, Inv s w → X6 w σ) (h0 : Inv s0 w) (hv : Sl 7 M7 σ v xs)
    (hf : ∀ s x cs (w1 : World) (K : Value → World → Prop), x ∈ xs → Kpt D w w1 → Inv s w1 → M7 σ x cs → cs.length = 7 → (∀ w', Kpt D w w' → Inv (stp s x).2 w' → K (.bool (stp s x).1) w') → Z6 P f [.agg cs.toArray] w1 K)
    (h : ∀ w', Kpt D w w' → Inv (U6 stp s0 xs 0).2 w' → K (I (L7 (U6 stp s0 xs 0).1)) w') : Q1 P F.h [v, f] w K := T1 (by
  unfold H2
  ((try simp only [↓Mm, Mm, ↓Mr, Mr, Mb, reduceIte]); repeat ((first | refine ld (by assumption) (by assumption) rfl ?_ | refine X8 (by assumption) (by assumption) rfl ?_ | refine Q6 (by assumption) ?_); (try simp only [↓Mm, Mm, ↓Mr, Mr, Mb, reduceIte])))
  refine V0 xs.length (fun n w' => Kpt D w w' ∧ ∃ s, Inv s w' ∧ U6 stp s0 xs 0 = U6 stp s (xs.drop n) n) ⟨Kpt.refl, s0, h0, rfl⟩ fun n w1 d hn hi => ?_
  obtain ⟨hk, s, hi, he⟩ := hi
  have hs1 := hsat s w1 hi
  ((try simp only [↓Mm, Mm, ↓Mr, Mr, Mb, reduceIte]); repeat ((first | refine ld (by assumption) (by assumption) rfl ?_ | refine X8 (by assumption) (by assumption) rfl ?_ | refine Q6 (by assumption) ?_); (try simp only [↓Mm, Mm, ↓Mr, Mr, Mb, reduceIte])))
  refine Q4 (fun hc => ?_) (fun hc => ?_)
  · have hn' : n < xs.length := by simpa using hc
    refine L6 hv hn' fun p cs hl hlen hr => ?_
    refine Y3 hs1 hl hlen ?_
    refine hf s xs[n] cs w1 _ (List.getElem_mem hn') hk hi hr hlen fun w2 hk2 hi2 => ?_
    rw [List.drop_eq_getElem_cons hn'] at he
    simp only [U6] at he
    refine Q4 (fun hb => ?_) (fun hb => ?_)
    · rw [hb] at he
      have := h w2 hk2
      rw [he] at this
      exact this hi2
    · rw [hb] at he
      ((try simp only [↓Mm, Mm, ↓Mr, Mr, Mb, reduceIte]); repeat ((first | refine ld (by assumption) (by assumption) rfl ?_ | refine X8 (by assumption) (by assumption) rfl ?_ | refine Q6 (by assumption) ?_); (try simp only [↓Mm, Mm, ↓Mr, Mr, Mb, reduceIte])))
      exact Y4 hv.max hn' ⟨hk2, _, hi2, by simpa using he⟩
  · have hn' : ¬ n < xs.length := by simpa using hc
    rw [List.drop_eq_nil_of_le (by omega)] at he
    have := h w1 hk
    rw [he] at this
    exact this hi)
theorem Xl {β : Type} {xs : List Hm.Met} {v f : Value} (stp : β → Hm.Met → Bool × β) (s0 : β) (Inv : β → World → Prop) (D : Nat → Prop) (hsat : ∀ s w, Inv s w → X6 w σ) (h0 : Inv s0 w) (hv : Sl 7 M7 σ v xs)
    (hf : ∀ s x cs (w1 : World) (K : Value → World → Prop), x ∈ xs → Kpt D w w1 → Inv s w1 → M7 σ x cs → cs.length = 7 → (∀ w', Kpt D w w' → Inv (stp s x).2 w' → K (.bool (stp s x).1) w') → Z6 P f [.agg cs.toArray] w1 K)
    (h : ∀ w', Kpt D w w' → Inv (U6 stp s0 xs 0).2 w' → K (.bool (U6 stp s0 xs 0).1.isSome) w') : Q1 P F.a [v, f] w K := I2 (by
  unfold D9
  refine Jc stp s0 Inv D hsat h0 hv hf fun w1 hk hi => ?_
  (try simp only [↓Mm, Mm, ↓Mr, Mr, Mb, reduceIte])
  rw [Ca]
  exact h w1 hk hi)
theorem Ex {xs : List Hm.Met} {v f : Value} (p : Hm.Met → Bool) (hs : X6 w σ) (hv : Sl 7 M7 σ v xs)
    (hf : ∀ x cs (w1 : World) (K : Value → World → Prop), x ∈ xs → X6 w1 σ → M7 σ x cs → cs.length = 7 → (∀ w', Below w1.heap.size w1 w' → K (.bool (p x)) w') → Z6 P f [.agg cs.toArray] w1 K)
    (h : ∀ w', Below w.heap.size w w' → K (I (L7 (xs.findIdx? p))) w') : Q1 P F.h [v, f] w K := by
  refine Jc (fun (_ : Unit) x => (p x, ())) () (fun _ w' => Below w.heap.size w w') (fun _ => False) (fun _ w' hb => hs.below hb) (Below.refl _ _) hv (fun s x cs w1 K hx hk hi hr hl hK => hf x cs w1 K hx (hs.below hi) hr hl fun w' hb => hK w' (.of_below (bt hi hb)) (bt hi hb)) fun w' hk hi => ?_
  rw [I4]
  simpa using h w' hi
theorem H3 {xs : List Hm.Met} {v f : Value} (p : Hm.Met → Bool) (hs : X6 w σ) (hv : Sl 7 M7 σ v xs)
    (hf : ∀ x cs (w1 : World) (K : Value → World → Prop), x ∈ xs → X6 w1 σ → M7 σ x cs → cs.length = 7 → (∀ w', Below w1.heap.size w1 w' → K (.bool (p x)) w') → Z6 P f [.agg cs.toArray] w1 K)
    (h : ∀ w', Below w.heap.size w w' → K (.bool (xs.any p)) w') : Q1 P F.a [v, f] w K := by
  refine Xl (fun (_ : Unit) x => (p x, ())) () (fun _ w' => Below w.heap.size w w') (fun _ => False) (fun _ w' hb => hs.below hb) (Below.refl _ _) hv (fun s x cs w1 K hx hk hi hr hl hK => hf x cs w1 K hx (hs.below hi) hr hl fun w' hb => hK w' (.of_below (bt hi hb)) (bt hi hb)) fun w' hk hi => ?_
  rw [I4]
  simpa using h w' hi
theorem Jv {β : Type} {xs : List Fld} {v f : Value} (stp : β → Fld → Bool × β) (s0 : β) (Inv : β → World → Prop) (D : Nat → Prop) (hsat : ∀ s w, Inv s w → X6 w σ) (h0 : Inv s0 w) (hv : Sl 3 D6 σ v xs)
    (hf : ∀ s x cs (w1 : World) (K : Value → World → Prop), x ∈ xs → Kpt D w w1 → Inv s w1 → D6 σ x cs → cs.length = 3 → (∀ w', Kpt D w w' → Inv (stp s x).2 w' → K (.bool (stp s x).1) w') → Z6 P f [.agg cs.toArray] w1 K)
    (h : ∀ w', Kpt D w w' → Inv (U6 stp s0 xs 0).2 w' → K (I (L7 (U6 stp s0 xs 0).1)) w') : Q1 P F.j [v, f] w K := Qh (by
  unfold H6
  ((try simp only [↓Mm, Mm, ↓Mr, Mr, Mb, reduceIte]); repeat ((first | refine ld (by assumption) (by assumption) rfl ?_ | refine X8 (by assumption) (by assumption) rfl ?_ | refine Q6 (by assumption) ?_); (try simp only [↓Mm, Mm, ↓Mr, Mr, Mb, reduceIte])))
  refine V0 xs.length (fun n w' => Kpt D w w' ∧ ∃ s, Inv s w' ∧ U6 stp s0 xs 0 = U6 stp s (xs.drop n) n) ⟨Kpt.refl, s0, h0, rfl⟩ fun n w1 d hn hi => ?_
  obtain ⟨hk, s, hi, he⟩ := hi
  have hs1 := hsat s w1 hi
  ((try simp only [↓Mm, Mm, ↓Mr, Mr, Mb, reduceIte]); repeat ((first | refine ld (by assumption) (by assumption) rfl ?_ | refine X8 (by assumption) (by assumption) rfl ?_ | refine Q6 (by assumption) ?_); (try simp only [↓Mm, Mm, ↓Mr, Mr, Mb, reduceIte])))
  refine Q4 (fun hc => ?_) (fun hc => ?_)
  · have hn' : n < xs.length := by simpa using hc
    refine L6 hv hn' fun p cs hl hlen hr => ?_
    refine Y3 hs1 hl hlen ?_
    refine hf s xs[n] cs w1 _ (List.getElem_mem hn') hk hi hr hlen fun w2 hk2 hi2 => ?_
    rw [List.drop_eq_getElem_cons hn'] at he
    simp only [U6] at he
    refine Q4 (fun hb => ?_) (fun hb => ?_)
    · rw [hb] at he
      have := h w2 hk2
      rw [he] at this
      exact this hi2
    · rw [hb] at he
      ((try simp only [↓Mm, Mm, ↓Mr, Mr, Mb, reduceIte]); repeat ((first | refine ld (by assumption) (by assumption) rfl ?_ | refine X8 (by assumption) (by assumption) rfl ?_ | refine Q6 (by assumption) ?_); (try simp only [↓Mm, Mm, ↓Mr, Mr, Mb, reduceIte])))
      exact Y4 hv.max hn' ⟨hk2, _, hi2, by simpa using he⟩
  · have hn' : ¬ n < xs.length := by simpa using hc
    rw [List.drop_eq_nil_of_le (by omega)] at he
    have := h w1 hk
    rw [he] at this
    exact this hi)
theorem Oa {β : Type} {xs : List Fld} {v f : Value} (stp : β → Fld → Bool × β) (s0 : β) (Inv : β → World → Prop) (D : Nat → Prop) (hsat : ∀ s w, Inv s w → X6 w σ) (h0 : Inv s0 w) (hv : Sl 3 D6 σ v xs)
    (hf : ∀ s x cs (w1 : World) (K : Value → World → Prop), x ∈ xs → Kpt D w w1 → Inv s w1 → D6 σ x cs → cs.length = 3 → (∀ w', Kpt D w w' → Inv (stp s x).2 w' → K (.bool (stp s x).1) w') → Z6 P f [.agg cs.toArray] w1 K)
    (h : ∀ w', Kpt D w w' → Inv (U6 stp s0 xs 0).2 w' → K (.bool (U6 stp s0 xs 0).1.isSome) w') : Q1 P F.g [v, f] w K := P0 (by
  unfold H0
  refine Jv stp s0 Inv D hsat h0 hv hf fun w1 hk hi => ?_
  (try simp only [↓Mm, Mm, ↓Mr, Mr, Mb, reduceIte])
  rw [Ca]
  exact h w1 hk hi)
theorem Rh {xs : List Fld} {v f : Value} (p : Fld → Bool) (hs : X6 w σ) (hv : Sl 3 D6 σ v xs)
    (hf : ∀ x cs (w1 : World) (K : Value → World → Prop), x ∈ xs → X6 w1 σ → D6 σ x cs → cs.length = 3 → (∀ w', Below w1.heap.size w1 w' → K (.bool (p x)) w') → Z6 P f [.agg cs.toArray] w1 K)
    (h : ∀ w', Below w.heap.size w w' → K (I (L7 (xs.findIdx? p))) w') : Q1 P F.j [v, f] w K := by
  refine Jv (fun (_ : Unit) x => (p x, ())) () (fun _ w' => Below w.heap.size w w') (fun _ => False) (fun _ w' hb => hs.below hb) (Below.refl _ _) hv (fun s x cs w1 K hx hk hi hr hl hK => hf x cs w1 K hx (hs.below hi) hr hl fun w' hb => hK w' (.of_below (bt hi hb)) (bt hi hb)) fun w' hk hi => ?_
  rw [I4]
  simpa using h w' hi
theorem Yl {xs : List Fld} {v f : Value} (p : Fld → Bool) (hs : X6 w σ) (hv : Sl 3 D6 σ v xs)
    (hf : ∀ x cs (w1 : World) (K : Value → World → Prop), x ∈ xs → X6 w1 σ → D6 σ x cs → cs.length = 3 → (∀ w', Below w1.heap.size w1 w' → K (.bool (p x)) w') → Z6 P f [.agg cs.toArray] w1 K)
    (h : ∀ w', Below w.heap.size w w' → K (.bool (xs.any p)) w') : Q1 P F.g [v, f] w K := by
  refine Oa (fun (_ : Unit) x => (p x, ())) () (fun _ w' => Below w.heap.size w w') (fun _ => False) (fun _ w' hb => hs.below hb) (Below.refl _ _) hv (fun s x cs w1 K hx hk hi hr hl hK => hf x cs w1 K hx (hs.below hi) hr hl fun w' hb => hK w' (.of_below (bt hi hb)) (bt hi hb)) fun w' hk hi => ?_
  rw [I4]
  simpa using h w' hi
theorem Ri {β : Type} {xs : List Ins} {v f : Value} (stp : β → Ins → Bool × β) (s0 : β) (Inv : β → World → Prop) (D : Nat → Prop) (hsat : ∀ s w, Inv s w → X6 w σ) (h0 : Inv s0 w) (hv : Sl 3 F3 σ v xs)
    (hf : ∀ s x cs (w1 : World) (K : Value → World → Prop), x ∈ xs → Kpt D w w1 → Inv s w1 → F3 σ x cs → cs.length = 3 → (∀ w', Kpt D w w' → Inv (stp s x).2 w' → K (.bool (stp s x).1) w') → Z6 P f [.agg cs.toArray] w1 K)
    (h : ∀ w', Kpt D w w' → Inv (U6 stp s0 xs 0).2 w' → K (I (L7 (U6 stp s0 xs 0).1)) w') : Q1 P F.x [v, f] w K := Qj (by
  unfold H8
  ((try simp only [↓Mm, Mm, ↓Mr, Mr, Mb, reduceIte]); repeat ((first | refine ld (by assumption) (by assumption) rfl ?_ | refine X8 (by assumption) (by assumption) rfl ?_ | refine Q6 (by assumption) ?_); (try simp only [↓Mm, Mm, ↓Mr, Mr, Mb, reduceIte])))
  refine V0 xs.length (fun n w' => Kpt D w w' ∧ ∃ s, Inv s w' ∧ U6 stp s0 xs 0 = U6 stp s (xs.drop n) n) ⟨Kpt.refl, s0, h0, rfl⟩ fun n w1 d hn hi => ?_
  obtain ⟨hk, s, hi, he⟩ := hi
  have hs1 := hsat s w1 hi
  ((try simp only [↓Mm, Mm, ↓Mr, Mr, Mb, reduceIte]); repeat ((first | refine ld (by assumption) (by assumption) rfl ?_ | refine X8 (by assumption) (by assumption) rfl ?_ | refine Q6 (by assumption) ?_); (try simp only [↓Mm, Mm, ↓Mr, Mr, Mb, reduceIte])))
  refine Q4 (fun hc => ?_) (fun hc => ?_)
  · have hn' : n < xs.length := by simpa using hc
    refine L6 hv hn' fun p cs hl hlen hr => ?_
    refine Y3 hs1 hl hlen ?_
    refine hf s xs[n] cs w1 _ (List.getElem_mem hn') hk hi hr hlen fun w2 hk2 hi2 => ?_
    rw [List.drop_eq_getElem_cons hn'] at he
    simp only [U6] at he
    refine Q4 (fun hb => ?_) (fun hb => ?_)
    · rw [hb] at he
      have := h w2 hk2
      rw [he] at this
      exact this hi2
    · rw [hb] at he
      ((try simp only [↓Mm, Mm, ↓Mr, Mr, Mb, reduceIte]); repeat ((first | refine ld (by assumption) (by assumption) rfl ?_ | refine X8 (by assumption) (by assumption) rfl ?_ | refine Q6 (by assumption) ?_); (try simp only [↓Mm, Mm, ↓Mr, Mr, Mb, reduceIte])))
      exact Y4 hv.max hn' ⟨hk2, _, hi2, by simpa using he⟩
  · have hn' : ¬ n < xs.length := by simpa using hc
    rw [List.drop_eq_nil_of_le (by omega)] at he
    have := h w1 hk
    rw [he] at this
    exact this hi)
theorem Od {β : Type} {xs : List Ins} {v f : Value} (stp : β → Ins → Bool × β) (s0 : β) (Inv : β → World → Prop) (D : Nat → Prop) (hsat : ∀ s w, Inv s w → X6 w σ) (h0 : Inv s0 w) (hv : Sl 3 F3 σ v xs)
    (hf : ∀ s x cs (w1 : World) (K : Value → World → Prop), x ∈ xs → Kpt D w w1 → Inv s w1 → F3 σ x cs → cs.length = 3 → (∀ w', Kpt D w w' → Inv (stp s x).2 w' → K (.bool (stp s x).1) w') → Z6 P f [.agg cs.toArray] w1 K)
    (h : ∀ w', Kpt D w w' → Inv (U6 stp s0 xs 0).2 w' → K (.bool (U6 stp s0 xs 0).1.isSome) w') : Q1 P F.k [v, f] w K := K9 (by
  unfold E8
  refine Ri stp s0 Inv D hsat h0 hv hf fun w1 hk hi => ?_
  (try simp only [↓Mm, Mm, ↓Mr, Mr, Mb, reduceIte])
  rw [Ca]
  exact h w1 hk hi)
theorem Nw {xs : List Ins} {v f : Value} (p : Ins → Bool) (hs : X6 w σ) (hv : Sl 3 F3 σ v xs)
    (hf : ∀ x cs (w1 : World) (K : Value → World → Prop), x ∈ xs → X6 w1 σ → F3 σ x cs → cs.length = 3 → (∀ w', Below w1.heap.size w1 w' → K (.bool (p x)) w') → Z6 P f [.agg cs.toArray] w1 K)
    (h : ∀ w', Below w.heap.size w w' → K (.bool (xs.any p)) w') : Q1 P F.k [v, f] w K := by
  refine Od (fun (_ : Unit) x => (p x, ())) () (fun _ w' => Below w.heap.size w w') (fun _ => False) (fun _ w' hb => hs.below hb) (Below.refl _ _) hv (fun s x cs w1 K hx hk hi hr hl hK => hf x cs w1 K hx (hs.below hi) hr hl fun w' hb => hK w' (.of_below (bt hi hb)) (bt hi hb)) fun w' hk hi => ?_
  rw [I4]
  simpa using h w' hi
theorem Rv {β : Type} {xs : List Cat} {v f : Value} (stp : β → Cat → Bool × β) (s0 : β) (Inv : β → World → Prop) (D : Nat → Prop) (hsat : ∀ s w, Inv s w → X6 w σ) (h0 : Inv s0 w) (hv : Sl 4 Qv σ v xs)
    (hf : ∀ s x cs (w1 : World) (K : Value → World → Prop), x ∈ xs → Kpt D w w1 → Inv s w1 → Qv σ x cs → cs.length = 4 → (∀ w', Kpt D w w' → Inv (stp s x).2 w' → K (.bool (stp s x).1) w') → Z6 P f [.agg cs.toArray] w1 K)
    (h : ∀ w', Kpt D w w' → Inv (U6 stp s0 xs 0).2 w' → K (I (L7 (U6 stp s0 xs 0).1)) w') : Q1 P F.y [v, f] w K := A9 (by
  unfold R0
  ((try simp only [↓Mm, Mm, ↓Mr, Mr, Mb, reduceIte]); repeat ((first | refine ld (by assumption) (by assumption) rfl ?_ | refine X8 (by assumption) (by assumption) rfl ?_ | refine Q6 (by assumption) ?_); (try simp only [↓Mm, Mm, ↓Mr, Mr, Mb, reduceIte])))
  refine V0 xs.length (fun n w' => Kpt D w w' ∧ ∃ s, Inv s w' ∧ U6 stp s0 xs 0 = U6 stp s (xs.drop n) n) ⟨Kpt.refl, s0, h0, rfl⟩ fun n w1 d hn hi => ?_
  obtain ⟨hk, s, hi, he⟩ := hi
  have hs1 := hsat s w1 hi
  ((try simp only [↓Mm, Mm, ↓Mr, Mr, Mb, reduceIte]); repeat ((first | refine ld (by assumption) (by assumption) rfl ?_ | refine X8 (by assumption) (by assumption) rfl ?_ | refine Q6 (by assumption) ?_); (try simp only [↓Mm, Mm, ↓Mr, Mr, Mb, reduceIte])))
  refine Q4 (fun hc => ?_) (fun hc => ?_)
  · have hn' : n < xs.length := by simpa using hc
    refine L6 hv hn' fun p cs hl hlen hr => ?_
    refine Y3 hs1 hl hlen ?_
    refine hf s xs[n] cs w1 _ (List.getElem_mem hn') hk hi hr hlen fun w2 hk2 hi2 => ?_
    rw [List.drop_eq_getElem_cons hn'] at he
    simp only [U6] at he
    refine Q4 (fun hb => ?_) (fun hb => ?_)
    · rw [hb] at he
      have := h w2 hk2
      rw [he] at this
      exact this hi2
    · rw [hb] at he
      ((try simp only [↓Mm, Mm, ↓Mr, Mr, Mb, reduceIte]); repeat ((first | refine ld (by assumption) (by assumption) rfl ?_ | refine X8 (by assumption) (by assumption) rfl ?_ | refine Q6 (by assumption) ?_); (try simp only [↓Mm, Mm, ↓Mr, Mr, Mb, reduceIte])))
      exact Y4 hv.max hn' ⟨hk2, _, hi2, by simpa using he⟩
  · have hn' : ¬ n < xs.length := by simpa using hc
    rw [List.drop_eq_nil_of_le (by omega)] at he
    have := h w1 hk
    rw [he] at this
    exact this hi)
theorem Oy {β : Type} {xs : List Cat} {v f : Value} (stp : β → Cat → Bool × β) (s0 : β) (Inv : β → World → Prop) (D : Nat → Prop) (hsat : ∀ s w, Inv s w → X6 w σ) (h0 : Inv s0 w) (hv : Sl 4 Qv σ v xs)
    (hf : ∀ s x cs (w1 : World) (K : Value → World → Prop), x ∈ xs → Kpt D w w1 → Inv s w1 → Qv σ x cs → cs.length = 4 → (∀ w', Kpt D w w' → Inv (stp s x).2 w' → K (.bool (stp s x).1) w') → Z6 P f [.agg cs.toArray] w1 K)
    (h : ∀ w', Kpt D w w' → Inv (U6 stp s0 xs 0).2 w' → K (.bool (U6 stp s0 xs 0).1.isSome) w') : Q1 P F.l [v, f] w K := P1 (by
  unfold E9
  refine Rv stp s0 Inv D hsat h0 hv hf fun w1 hk hi => ?_
  (try simp only [↓Mm, Mm, ↓Mr, Mr, Mb, reduceIte])
  rw [Ca]
  exact h w1 hk hi)
theorem Df {xs : List Cat} {v f : Value} (p : Cat → Bool) (hs : X6 w σ) (hv : Sl 4 Qv σ v xs)
    (hf : ∀ x cs (w1 : World) (K : Value → World → Prop), x ∈ xs → X6 w1 σ → Qv σ x cs → cs.length = 4 → (∀ w', Below w1.heap.size w1 w' → K (.bool (p x)) w') → Z6 P f [.agg cs.toArray] w1 K)
    (h : ∀ w', Below w.heap.size w w' → K (.bool (xs.any p)) w') : Q1 P F.l [v, f] w K := by
  refine Oy (fun (_ : Unit) x => (p x, ())) () (fun _ w' => Below w.heap.size w w') (fun _ => False) (fun _ w' hb => hs.below hb) (Below.refl _ _) hv (fun s x cs w1 K hx hk hi hr hl hK => hf x cs w1 K hx (hs.below hi) hr hl fun w' hb => hK w' (.of_below (bt hi hb)) (bt hi hb)) fun w' hk hi => ?_
  rw [I4]
  simpa using h w' hi
theorem Rn {β : Type} {xs : List Cla} {v f : Value} (stp : β → Cla → Bool × β) (s0 : β) (Inv : β → World → Prop) (D : Nat → Prop) (hsat : ∀ s w, Inv s w → X6 w σ) (h0 : Inv s0 w) (hv : Sl 8 U7 σ v xs)
    (hf : ∀ s x cs (w1 : World) (K : Value → World → Prop), x ∈ xs → Kpt D w w1 → Inv s w1 → U7 σ x cs → cs.length = 8 → (∀ w', Kpt D w w' → Inv (stp s x).2 w' → K (.bool (stp s x).1) w') → Z6 P f [.agg cs.toArray] w1 K)
    (h : ∀ w', Kpt D w w' → Inv (U6 stp s0 xs 0).2 w' → K (I (L7 (U6 stp s0 xs 0).1)) w') : Q1 P F.m [v, f] w K := Qg (by
  unfold R1
  ((try simp only [↓Mm, Mm, ↓Mr, Mr, Mb, reduceIte]); repeat ((first | refine ld (by assumption) (by assumption) rfl ?_ | refine X8 (by assumption) (by assumption) rfl ?_ | refine Q6 (by assumption) ?_); (try simp only [↓Mm, Mm, ↓Mr, Mr, Mb, reduceIte])))
  refine V0 xs.length (fun n w' => Kpt D w w' ∧ ∃ s, Inv s w' ∧ U6 stp s0 xs 0 = U6 stp s (xs.drop n) n) ⟨Kpt.refl, s0, h0, rfl⟩ fun n w1 d hn hi => ?_
  obtain ⟨hk, s, hi, he⟩ := hi
  have hs1 := hsat s w1 hi
  ((try simp only [↓Mm, Mm, ↓Mr, Mr, Mb, reduceIte]); repeat ((first | refine ld (by assumption) (by assumption) rfl ?_ | refine X8 (by assumption) (by assumption) rfl ?_ | refine Q6 (by assumption) ?_); (try simp only [↓Mm, Mm, ↓Mr, Mr, Mb, reduceIte])))
  refine Q4 (fun hc => ?_) (fun hc => ?_)
  · have hn' : n < xs.length := by simpa using hc
    refine L6 hv hn' fun p cs hl hlen hr => ?_
    refine Y3 hs1 hl hlen ?_
    refine hf s xs[n] cs w1 _ (List.getElem_mem hn') hk hi hr hlen fun w2 hk2 hi2 => ?_
    rw [List.drop_eq_getElem_cons hn'] at he
    simp only [U6] at he
    refine Q4 (fun hb => ?_) (fun hb => ?_)
    · rw [hb] at he
      have := h w2 hk2
      rw [he] at this
      exact this hi2
    · rw [hb] at he
      ((try simp only [↓Mm, Mm, ↓Mr, Mr, Mb, reduceIte]); repeat ((first | refine ld (by assumption) (by assumption) rfl ?_ | refine X8 (by assumption) (by assumption) rfl ?_ | refine Q6 (by assumption) ?_); (try simp only [↓Mm, Mm, ↓Mr, Mr, Mb, reduceIte])))
      exact Y4 hv.max hn' ⟨hk2, _, hi2, by simpa using he⟩
  · have hn' : ¬ n < xs.length := by simpa using hc
    rw [List.drop_eq_nil_of_le (by omega)] at he
    have := h w1 hk
    rw [he] at this
    exact this hi)
theorem Rb {xs : List Cla} {v f : Value} (p : Cla → Bool) (hs : X6 w σ) (hv : Sl 8 U7 σ v xs)
    (hf : ∀ x cs (w1 : World) (K : Value → World → Prop), x ∈ xs → X6 w1 σ → U7 σ x cs → cs.length = 8 → (∀ w', Below w1.heap.size w1 w' → K (.bool (p x)) w') → Z6 P f [.agg cs.toArray] w1 K)
    (h : ∀ w', Below w.heap.size w w' → K (I (L7 (xs.findIdx? p))) w') : Q1 P F.m [v, f] w K := by
  refine Rn (fun (_ : Unit) x => (p x, ())) () (fun _ w' => Below w.heap.size w w') (fun _ => False) (fun _ w' hb => hs.below hb) (Below.refl _ _) hv (fun s x cs w1 K hx hk hi hr hl hK => hf x cs w1 K hx (hs.below hi) hr hl fun w' hb => hK w' (.of_below (bt hi hb)) (bt hi hb)) fun w' hk hi => ?_
  rw [I4]
  simpa using h w' hi
theorem Ir {β : Type} {xs : List X0} {v f : Value} (stp : β → X0 → Bool × β) (s0 : β) (Inv : β → World → Prop) (D : Nat → Prop) (hsat : ∀ s w, Inv s w → X6 w σ) (h0 : Inv s0 w) (hv : Sl 1 U5 σ v xs)
    (hf : ∀ s x (w1 : World) (K : Value → World → Prop), x ∈ xs → Kpt D w w1 → Inv s w1 → x.length ≤ W2 → (∀ w', Kpt D w w' → Inv (stp s x).2 w' → K (.bool (stp s x).1) w') → Z6 P f [S x] w1 K)
    (h : ∀ w', Kpt D w w' → Inv (U6 stp s0 xs 0).2 w' → K (I (L7 (U6 stp s0 xs 0).1)) w') : Q1 P F.s [v, f] w K := Zo (by
  unfold C9
  ((try simp only [↓Mm, Mm, ↓Mr, Mr, Mb, reduceIte]); repeat ((first | refine ld (by assumption) (by assumption) rfl ?_ | refine X8 (by assumption) (by assumption) rfl ?_ | refine Q6 (by assumption) ?_); (try simp only [↓Mm, Mm, ↓Mr, Mr, Mb, reduceIte])))
  refine V0 xs.length (fun n w' => Kpt D w w' ∧ ∃ s, Inv s w' ∧ U6 stp s0 xs 0 = U6 stp s (xs.drop n) n) ⟨Kpt.refl, s0, h0, rfl⟩ fun n w1 d hn hi => ?_
  obtain ⟨hk, s, hi, he⟩ := hi
  have hs1 := hsat s w1 hi
  ((try simp only [↓Mm, Mm, ↓Mr, Mr, Mb, reduceIte]); repeat ((first | refine ld (by assumption) (by assumption) rfl ?_ | refine X8 (by assumption) (by assumption) rfl ?_ | refine Q6 (by assumption) ?_); (try simp only [↓Mm, Mm, ↓Mr, Mr, Mb, reduceIte])))
  refine Q4 (fun hc => ?_) (fun hc => ?_)
  · have hn' : n < xs.length := by simpa using hc
    refine L6 hv hn' fun p cs hl hlen hr => ?_
    obtain ⟨rfl, hbig⟩ := hr
    refine X8 hs1 hl rfl ?_
    refine hf s xs[n] w1 _ (List.getElem_mem hn') hk hi hbig fun w2 hk2 hi2 => ?_
    rw [List.drop_eq_getElem_cons hn'] at he
    simp only [U6] at he
    refine Q4 (fun hb => ?_) (fun hb => ?_)
    · rw [hb] at he
      have := h w2 hk2
      rw [he] at this
      exact this hi2
    · rw [hb] at he
      ((try simp only [↓Mm, Mm, ↓Mr, Mr, Mb, reduceIte]); repeat ((first | refine ld (by assumption) (by assumption) rfl ?_ | refine X8 (by assumption) (by assumption) rfl ?_ | refine Q6 (by assumption) ?_); (try simp only [↓Mm, Mm, ↓Mr, Mr, Mb, reduceIte])))
      exact Y4 hv.max hn' ⟨hk2, _, hi2, by simpa using he⟩
  · have hn' : ¬ n < xs.length := by simpa using hc
    rw [List.drop_eq_nil_of_le (by omega)] at he
    have := h w1 hk
    rw [he] at this
    exact this hi)
theorem Ih {xs : List X0} {v f : Value} (p : X0 → Bool) (hs : X6 w σ) (hv : Sl 1 U5 σ v xs)
    (hf : ∀ x (w1 : World) (K : Value → World → Prop), x ∈ xs → X6 w1 σ → x.length ≤ W2 → (∀ w', Below w1.heap.size w1 w' → K (.bool (p x)) w') → Z6 P f [S x] w1 K)
    (h : ∀ w', Below w.heap.size w w' → K (I (L7 (xs.findIdx? p))) w') : Q1 P F.s [v, f] w K := by
  refine Ir (fun (_ : Unit) x => (p x, ())) () (fun _ w' => Below w.heap.size w w') (fun _ => False) (fun _ w' hb => hs.below hb) (Below.refl _ _) hv (fun s x w1 K hx hk hi hr hK => hf x w1 K hx (hs.below hi) hr fun w' hb => hK w' (.of_below (bt hi hb)) (bt hi hb)) fun w' hk hi => ?_
  rw [I4]
  simpa using h w' hi
theorem Q2t {α : Type} (p : α → Bool) (xs : List α) : decide ((0 : Int) ≤ L7 (xs.findIdx? p)) = xs.any p := by
  rw [Bool.eq_iff_iff, List.any_eq_true]
  simp only [decide_eq_true_eq]
  cases h : xs.findIdx? p with
  | none =>
    simp only [L7]
    constructor
    · intro h; omega
    · rintro ⟨x, hx, hp⟩; have := List.findIdx?_eq_none_iff.1 h x hx; rw [hp] at this; cases this
  | some i =>
    simp only [L7]
    obtain ⟨hi, hp, _⟩ := List.findIdx?_eq_some_iff_getElem.1 h
    exact ⟨fun _ => ⟨xs[i], List.getElem_mem hi, hp⟩, fun _ => by omega⟩
theorem C3 {xs : List X0} {v f : Value} (p : X0 → Bool) (hs : X6 w σ) (hv : Sl 1 U5 σ v xs)
    (hf : ∀ x (w1 : World) (K : Value → World → Prop), x ∈ xs → X6 w1 σ → x.length ≤ W2 → (∀ w', Below w1.heap.size w1 w' → K (.bool (p x)) w') → Z6 P f [S x] w1 K)
    (h : ∀ w', Below w.heap.size w w' → K (.bool (xs.any p)) w') : Q1 P F.c [v, f] w K := Xp (by
  unfold S6
  refine Ih p hs hv hf fun w1 hb => ?_
  (try simp only [↓Mm, Mm, ↓Mr, Mr, Mb, reduceIte])
  rw [Q2t]
  exact h w1 hb)
theorem Q0Z {xs : List X0} {v : Value} {x : X0} (hs : X6 w σ) (hv : Sl 1 U5 σ v xs)
    (h : K (I (L7 (xs.findIdx? fun y => decide (x = y)))) w) : Q1 P F.an [v, S x] w K := Wd (by
  unfold I0
  ((try simp only [↓Mm, Mm, ↓Mr, Mr, Mb, reduceIte]); repeat ((first | refine ld (by assumption) (by assumption) rfl ?_ | refine X8 (by assumption) (by assumption) rfl ?_ | refine Q6 (by assumption) ?_); (try simp only [↓Mm, Mm, ↓Mr, Mr, Mb, reduceIte])))
  refine V0 xs.length (fun n w' => w = w' ∧ (xs.take n).any (fun y => decide (x = y)) = false) ⟨rfl, rfl⟩ fun n w1 d hn hi => ?_
  obtain ⟨rfl, hi⟩ := hi
  ((try simp only [↓Mm, Mm, ↓Mr, Mr, Mb, reduceIte]); repeat ((first | refine ld (by assumption) (by assumption) rfl ?_ | refine X8 (by assumption) (by assumption) rfl ?_ | refine Q6 (by assumption) ?_); (try simp only [↓Mm, Mm, ↓Mr, Mr, Mb, reduceIte])))
  refine Q4 (fun hc => ?_) (fun hc => ?_)
  · have hn' : n < xs.length := by simpa using hc
    refine L6 hv hn' fun p cs hl hlen hr => ?_
    obtain ⟨rfl, hbig⟩ := hr
    ((try simp only [↓Mm, Mm, ↓Mr, Mr, Mb, reduceIte]); repeat ((first | refine ld (by assumption) (by assumption) rfl ?_ | refine X8 (by assumption) (by assumption) rfl ?_ | refine Q6 (by assumption) ?_); (try simp only [↓Mm, Mm, ↓Mr, Mr, Mb, reduceIte])))
    refine Q4 (fun hb => ?_) (fun hb => ?_)
    · have : xs.findIdx? (fun y => decide (x = y)) = some n := by
        rw [List.findIdx?_eq_some_iff_getElem]
        refine ⟨hn', hb, fun j hj => ?_⟩
        have := List.any_eq_false.1 hi (xs[j]) (List.mem_take_iff_getElem.2 ⟨j, by omega, rfl⟩)
        exact this
      rw [this] at h; exact h
    · ((try simp only [↓Mm, Mm, ↓Mr, Mr, Mb, reduceIte]); repeat ((first | refine ld (by assumption) (by assumption) rfl ?_ | refine X8 (by assumption) (by assumption) rfl ?_ | refine Q6 (by assumption) ?_); (try simp only [↓Mm, Mm, ↓Mr, Mr, Mb, reduceIte])))
      exact Y4 hv.max hn' ⟨rfl, by rw [M8 hn', hi, hb]; rfl⟩
  · have hn' : ¬ n < xs.length := by simpa using hc
    rw [O9 hn'] at hi
    have : xs.findIdx? (fun y => decide (x = y)) = none := by
      rw [List.findIdx?_eq_none_iff]; intro y hy; simpa using List.any_eq_false.1 hi y hy
    rw [this] at h; exact h)
theorem Pz {xs : List X0} {v : Value} {x : X0} (hs : X6 w σ) (hv : Sl 1 U5 σ v xs)
    (h : K (.bool (xs.any fun y => decide (x = y))) w) : Q1 P F.a7 [v, S x] w K := Zs (by
  unfold B5
  refine Q0Z hs hv ?_
  (try simp only [↓Mm, Mm, ↓Mr, Mr, Mb, reduceIte])
  rw [Q2t]
  exact h)
end Go.Proofs.YtdnfaboigajkhaaGreatDoor

namespace Go.Emb
abbrev Q5.Le (σ σ' : Q5) : Prop := ∀ b o, σ b = some o → σ' b = some o
def E4 {α : Type} (f : α → List UInt8) : List α → List α → Bool
  | _, [] => true
  | seen, x :: r => !(seen.any fun y => decide (f y = f x)) && E4 f (seen ++ [x]) r
theorem Jd {α : Type} (p : α → Bool) (xs : List α) : (!xs.any fun x => !p x) = xs.all p := by
  rw [List.all_eq_not_any_not]
end Go.Emb
namespace Go.Proofs.YtdnfaboigajkhaaGreatDoor
open Go.Emb Go.RowKit Go.Kd Go.Hm
variable {w : World} {K : Value → World → Prop} {σ : Q5}
theorem Iz {xs : List Hm.Met} {v : Value} {fn : Fn} {fs cps : Array Value} (p : Hm.Met → Bool) (hs : X6 w σ) (hv : Sl 7 M7 σ v xs)
    (hf : ∀ (σ1 : Q5) x cs (w1 : World) (K : Value → World → Prop), σ.Le σ1 → x ∈ xs → X6 w1 σ1 → M7 σ1 x cs → cs.length = 7 → (∀ w', Below w1.heap.size w1 w' → K (.bool (p x)) w') → Z6 P (.func fn fs cps) [.agg cs.toArray] w1 K)
    (h : ∀ w', Below w.heap.size w w' → K (.bool (xs.all p)) w') : Q1 P F.ai [v, .func fn fs cps] w K := Dc (by
  unfold Xq
  refine N1 hs fun a w1 σ1 hk ha => ?_
  simp only [Value.cells] at ha
  ((try simp only [↓Mm, Mm, ↓Mr, Mr, Mb, reduceIte]); repeat ((first | refine ld (by assumption) (by assumption) rfl ?_ | refine X8 (by assumption) (by assumption) rfl ?_ | refine Q6 (by assumption) ?_); (try simp only [↓Mm, Mm, ↓Mr, Mr, Mb, reduceIte])))
  refine H3 (fun x => !p x) hk.sat (hv.up hk) (fun x cs w2 K hx hs2 hr hl hK => ?_) fun w2 hb => ?_
  · refine J0 (Ms ?_)
    unfold Qn
    refine N1 hs2 fun b w3 σ3 hk3 hb3 => ?_
    refine X8 hk3.sat (ha.up hk3) rfl ?_
    refine Y3 hk3.sat hb3 hl ?_
    refine hf σ3 x _ w3 _ (fun b o e => hk3.le b o (hk.le b o e)) hx hk3.sat (Rep.up hk3.le hr) hl fun w4 hb4 => ?_
    (try simp only [↓Mm, Mm, ↓Mr, Mr, Mb, reduceIte])
    exact hK w4 (bt hk3.bel hb4)
  · (try simp only [↓Mm, Mm, ↓Mr, Mr, Mb, reduceIte])
    rw [Jd]
    exact h w2 (bt hk.bel hb))
theorem Ps {xs : List Fld} {v : Value} {fn : Fn} {fs cps : Array Value} (p : Fld → Bool) (hs : X6 w σ) (hv : Sl 3 D6 σ v xs)
    (hf : ∀ (σ1 : Q5) x cs (w1 : World) (K : Value → World → Prop), σ.Le σ1 → x ∈ xs → X6 w1 σ1 → D6 σ1 x cs → cs.length = 3 → (∀ w', Below w1.heap.size w1 w' → K (.bool (p x)) w') → Z6 P (.func fn fs cps) [.agg cs.toArray] w1 K)
    (h : ∀ w', Below w.heap.size w w' → K (.bool (xs.all p)) w') : Q1 P F.am [v, .func fn fs cps] w K := Dm (by
  unfold Zk
  refine N1 hs fun a w1 σ1 hk ha => ?_
  simp only [Value.cells] at ha
  ((try simp only [↓Mm, Mm, ↓Mr, Mr, Mb, reduceIte]); repeat ((first | refine ld (by assumption) (by assumption) rfl ?_ | refine X8 (by assumption) (by assumption) rfl ?_ | refine Q6 (by assumption) ?_); (try simp only [↓Mm, Mm, ↓Mr, Mr, Mb, reduceIte])))
  refine Yl (fun x => !p x) hk.sat (hv.up hk) (fun x cs w2 K hx hs2 hr hl hK => ?_) fun w2 hb => ?_
  · refine J0 (Ns ?_)
    unfold Xn
    refine N1 hs2 fun b w3 σ3 hk3 hb3 => ?_
    refine X8 hk3.sat (ha.up hk3) rfl ?_
    refine Y3 hk3.sat hb3 hl ?_
    refine hf σ3 x _ w3 _ (fun b o e => hk3.le b o (hk.le b o e)) hx hk3.sat (Rep.up hk3.le hr) hl fun w4 hb4 => ?_
    (try simp only [↓Mm, Mm, ↓Mr, Mr, Mb, reduceIte])
    exact hK w4 (bt hk3.bel hb4)
  · (try simp only [↓Mm, Mm, ↓Mr, Mr, Mb, reduceIte])
    rw [Jd]
    exact h w2 (bt hk.bel hb))
theorem Pu {xs : List Ins} {v : Value} {fn : Fn} {fs cps : Array Value} (p : Ins → Bool) (hs : X6 w σ) (hv : Sl 3 F3 σ v xs)
    (hf : ∀ (σ1 : Q5) x cs (w1 : World) (K : Value → World → Prop), σ.Le σ1 → x ∈ xs → X6 w1 σ1 → F3 σ1 x cs → cs.length = 3 → (∀ w', Below w1.heap.size w1 w' → K (.bool (p x)) w') → Z6 P (.func fn fs cps) [.agg cs.toArray] w1 K)
    (h : ∀ w', Below w.heap.size w w' → K (.bool (xs.all p)) w') : Q1 P F.ao [v, .func fn fs cps] w K := Dt (by
  unfold Zn
  refine N1 hs fun a w1 σ1 hk ha => ?_
  simp only [Value.cells] at ha
  ((try simp only [↓Mm, Mm, ↓Mr, Mr, Mb, reduceIte]); repeat ((first | refine ld (by assumption) (by assumption) rfl ?_ | refine X8 (by assumption) (by assumption) rfl ?_ | refine Q6 (by assumption) ?_); (try simp only [↓Mm, Mm, ↓Mr, Mr, Mb, reduceIte])))
  refine Nw (fun x => !p x) hk.sat (hv.up hk) (fun x cs w2 K hx hs2 hr hl hK => ?_) fun w2 hb => ?_
  · refine J0 (Ng ?_)
    unfold Xj
    refine N1 hs2 fun b w3 σ3 hk3 hb3 => ?_
    refine X8 hk3.sat (ha.up hk3) rfl ?_
    refine Y3 hk3.sat hb3 hl ?_
    refine hf σ3 x _ w3 _ (fun b o e => hk3.le b o (hk.le b o e)) hx hk3.sat (Rep.up hk3.le hr) hl fun w4 hb4 => ?_
    (try simp only [↓Mm, Mm, ↓Mr, Mr, Mb, reduceIte])
    exact hK w4 (bt hk3.bel hb4)
  · (try simp only [↓Mm, Mm, ↓Mr, Mr, Mb, reduceIte])
    rw [Jd]
    exact h w2 (bt hk.bel hb))
theorem Py {xs : List Cat} {v : Value} {fn : Fn} {fs cps : Array Value} (p : Cat → Bool) (hs : X6 w σ) (hv : Sl 4 Qv σ v xs)
    (hf : ∀ (σ1 : Q5) x cs (w1 : World) (K : Value → World → Prop), σ.Le σ1 → x ∈ xs → X6 w1 σ1 → Qv σ1 x cs → cs.length = 4 → (∀ w', Below w1.heap.size w1 w' → K (.bool (p x)) w') → Z6 P (.func fn fs cps) [.agg cs.toArray] w1 K)
    (h : ∀ w', Below w.heap.size w w' → K (.bool (xs.all p)) w') : Q1 P F.ap [v, .func fn fs cps] w K := Du (by
  unfold Zl
  refine N1 hs fun a w1 σ1 hk ha => ?_
  simp only [Value.cells] at ha
  ((try simp only [↓Mm, Mm, ↓Mr, Mr, Mb, reduceIte]); repeat ((first | refine ld (by assumption) (by assumption) rfl ?_ | refine X8 (by assumption) (by assumption) rfl ?_ | refine Q6 (by assumption) ?_); (try simp only [↓Mm, Mm, ↓Mr, Mr, Mb, reduceIte])))
  refine Df (fun x => !p x) hk.sat (hv.up hk) (fun x cs w2 K hx hs2 hr hl hK => ?_) fun w2 hb => ?_
  · refine J0 (Nn ?_)
    unfold Xi
    refine N1 hs2 fun b w3 σ3 hk3 hb3 => ?_
    refine X8 hk3.sat (ha.up hk3) rfl ?_
    refine Y3 hk3.sat hb3 hl ?_
    refine hf σ3 x _ w3 _ (fun b o e => hk3.le b o (hk.le b o e)) hx hk3.sat (Rep.up hk3.le hr) hl fun w4 hb4 => ?_
    (try simp only [↓Mm, Mm, ↓Mr, Mr, Mb, reduceIte])
    exact hK w4 (bt hk3.bel hb4)
  · (try simp only [↓Mm, Mm, ↓Mr, Mr, Mb, reduceIte])
    rw [Jd]
    exact h w2 (bt hk.bel hb))
theorem Hv {xs : List X0} {v : Value} {fn : Fn} {fs cps : Array Value} (p : X0 → Bool) (hs : X6 w σ) (hv : Sl 1 U5 σ v xs)
    (hf : ∀ (σ1 : Q5) x (w1 : World) (K : Value → World → Prop), σ.Le σ1 → x ∈ xs → X6 w1 σ1 → x.length ≤ W2 → (∀ w', Below w1.heap.size w1 w' → K (.bool (p x)) w') → Z6 P (.func fn fs cps) [S x] w1 K)
    (h : ∀ w', Below w.heap.size w w' → K (.bool (xs.all p)) w') : Q1 P F.a1 [v, .func fn fs cps] w K := Bj (by
  unfold Wb
  refine N1 hs fun a w1 σ1 hk ha => ?_
  simp only [Value.cells] at ha
  ((try simp only [↓Mm, Mm, ↓Mr, Mr, Mb, reduceIte]); repeat ((first | refine ld (by assumption) (by assumption) rfl ?_ | refine X8 (by assumption) (by assumption) rfl ?_ | refine Q6 (by assumption) ?_); (try simp only [↓Mm, Mm, ↓Mr, Mr, Mb, reduceIte])))
  refine C3 (fun x => !p x) hk.sat (hv.up hk) (fun x w2 K hx hs2 hr hK => ?_) fun w2 hb => ?_
  · refine J0 (Hi ?_)
    unfold Zx
    refine X8 hs2 ha rfl ?_
    refine hf σ1 x w2 _ hk.le hx hs2 hr fun w4 hb4 => ?_
    (try simp only [↓Mm, Mm, ↓Mr, Mr, Mb, reduceIte])
    exact hK w4 hb4
  · (try simp only [↓Mm, Mm, ↓Mr, Mr, Mb, reduceIte])
    rw [Jd]
    exact h w2 (bt hk.bel hb))
theorem Pt {xs : List Hm.Met} {v : Value} {fn : Fn} {fs cps : Array Value} (f : Hm.Met → X0) (hs : X6 w σ) (hv : Sl 7 M7 σ v xs)
    (hf : ∀ (σ1 : Q5) x cs (w1 : World) (K : Value → World → Prop), σ.Le σ1 → X6 w1 σ1 → M7 σ1 x cs → cs.length = 7 → (∀ w', Below w1.heap.size w1 w' → K (S (f x)) w') → Z6 P (.func fn fs cps) [.agg cs.toArray] w1 K)
    (h : ∀ w', Below w.heap.size w w' → K (.bool (E4 f [] xs)) w') : Q1 P F.al [v, .func fn fs cps] w K := Dq (by
  unfold Zi
  refine N1 hs fun a w1 σ1 hk ha => ?_
  simp only [Value.cells] at ha
  have hs1 := hk.sat
  replace hv := hv.up hk
  ((try simp only [↓Mm, Mm, ↓Mr, Mr, Mb, reduceIte]); repeat ((first | refine ld (by assumption) (by assumption) rfl ?_ | refine X8 (by assumption) (by assumption) rfl ?_ | refine Q6 (by assumption) ?_); (try simp only [↓Mm, Mm, ↓Mr, Mr, Mb, reduceIte])))
  refine V0 xs.length (fun n w' => Below w1.heap.size w1 w' ∧ E4 f [] xs = E4 f (xs.take n) (xs.drop n)) ⟨Below.refl _ _, rfl⟩ fun n w2 d hn hi => ?_
  obtain ⟨hb, he⟩ := hi
  have hs2 := hs1.below hb
  ((try simp only [↓Mm, Mm, ↓Mr, Mr, Mb, reduceIte]); repeat ((first | refine ld (by assumption) (by assumption) rfl ?_ | refine X8 (by assumption) (by assumption) rfl ?_ | refine Q6 (by assumption) ?_); (try simp only [↓Mm, Mm, ↓Mr, Mr, Mb, reduceIte])))
  refine Q4 (fun hc => ?_) (fun hc => ?_)
  · have hn' : n < xs.length := by simpa using hc
    rw [List.drop_eq_getElem_cons hn'] at he
    simp only [E4] at he
    refine L6 hv hn' fun p cs hl hlen hr => ?_
    refine Y3 hs2 hl hlen ?_
    refine Y1 hs2 (by rfl) hlen (Rep.one hr) fun q w3 σ3 hk3 hq => ?_
    refine Ro (hv.up hk3) none (some (I n)) 0 n (.inl ⟨rfl, rfl⟩) (.inr rfl) (by omega) (by omega) fun v' hv' => ?_
    ((try simp only [↓Mm, Mm, ↓Mr, Mr, Mb, reduceIte]); repeat ((first | refine ld (by assumption) (by assumption) rfl ?_ | refine X8 (by assumption) (by assumption) rfl ?_ | refine Q6 (by assumption) ?_); (try simp only [↓Mm, Mm, ↓Mr, Mr, Mb, reduceIte])))
    refine H3 (fun y => decide (f y = f xs[n])) hk3.sat hv' (fun y ys w4 K hy hs4 hry hyl hK => ?_) fun w4 hb4 => ?_
    · refine J0 (Nr ?_)
      unfold Xh
      refine N1 hs4 fun b w5 σ5 hk5 hb5 => ?_
      have ha5 := (ha.up hk3).up hk5
      have hq5 := hq.up hk5
      have hle5 : σ.Le σ5 := fun b o e => hk5.le b o (hk3.le b o (hk.le b o e))
      refine Ll (Below.refl _ _) ?_
      refine X2 (.func fn fs cps) (fun w hb => X8 (hk5.sat.below hb) ha5 rfl (X5 rfl)) ?_
      refine X2 (.agg ys.toArray) (fun w hb => Y3 (hk5.sat.below hb) hb5 hyl (X5 rfl)) ?_
      refine X2 (S (f y)) (fun t t' w hb e e' => by rw [e, e']; exact hf σ5 y ys w _ hle5 (hk5.sat.below hb) (Rep.up hk5.le hry) hyl fun w' hb' => Q0n hb' rfl) ?_
      refine X2 (.func fn fs cps) (fun w hb => X8 (hk5.sat.below hb) ha5 rfl (X5 rfl)) ?_
      refine X2 (.agg cs.toArray) (fun w hb => Y3 (hk5.sat.below hb) hq5 hlen (X5 rfl)) ?_
      rintro _ _ _ _ _ w6 hb6 rfl rfl rfl rfl rfl
      refine hf σ5 xs[n] cs w6 _ hle5 (hk5.sat.below hb6) (Rep.up (fun b o e => hk5.le b o (hk3.le b o e)) hr) hlen fun w7 hb7 => ?_
      (try simp only [↓Mm, Mm, ↓Mr, Mr, Mb, reduceIte])
      exact hK w7 (bt (bt hk5.bel hb6) hb7)
    · have hb4' := bt hb (bt hk3.bel hb4)
      simp only [List.drop_zero, Nat.sub_zero] at *
      refine Q4 (fun hh => ?_) (fun hh => ?_)
      · rw [hh] at he
        have := h w4 (bt hk.bel hb4')
        rw [he] at this; exact this
      · rw [hh] at he
        ((try simp only [↓Mm, Mm, ↓Mr, Mr, Mb, reduceIte]); repeat ((first | refine ld (by assumption) (by assumption) rfl ?_ | refine X8 (by assumption) (by assumption) rfl ?_ | refine Q6 (by assumption) ?_); (try simp only [↓Mm, Mm, ↓Mr, Mr, Mb, reduceIte])))
        refine Y4 hv.max hn' ⟨hb4', ?_⟩
        rw [he, List.take_add_one, List.getElem?_eq_getElem hn']; rfl
  · have hn' : ¬ n < xs.length := by simpa using hc
    rw [List.drop_eq_nil_of_le (by omega)] at he
    have := h w2 (bt hk.bel hb)
    rw [he] at this; exact this)
theorem Ad {xs : List Fld} {v : Value} {fn : Fn} {fs cps : Array Value} (f : Fld → X0) (hs : X6 w σ) (hv : Sl 3 D6 σ v xs)
    (hf : ∀ (σ1 : Q5) x cs (w1 : World) (K : Value → World → Prop), σ.Le σ1 → X6 w1 σ1 → D6 σ1 x cs → cs.length = 3 → (∀ w', Below w1.heap.size w1 w' → K (S (f x)) w') → Z6 P (.func fn fs cps) [.agg cs.toArray] w1 K)
    (h : ∀ w', Below w.heap.size w w' → K (.bool (E4 f [] xs)) w') : Q1 P F.au [v, .func fn fs cps] w K := Ez (by
  unfold Jg
  refine N1 hs fun a w1 σ1 hk ha => ?_
  simp only [Value.cells] at ha
  have hs1 := hk.sat
  replace hv := hv.up hk
  ((try simp only [↓Mm, Mm, ↓Mr, Mr, Mb, reduceIte]); repeat ((first | refine ld (by assumption) (by assumption) rfl ?_ | refine X8 (by assumption) (by assumption) rfl ?_ | refine Q6 (by assumption) ?_); (try simp only [↓Mm, Mm, ↓Mr, Mr, Mb, reduceIte])))
  refine V0 xs.length (fun n w' => Below w1.heap.size w1 w' ∧ E4 f [] xs = E4 f (xs.take n) (xs.drop n)) ⟨Below.refl _ _, rfl⟩ fun n w2 d hn hi => ?_
  obtain ⟨hb, he⟩ := hi
  have hs2 := hs1.below hb
  ((try simp only [↓Mm, Mm, ↓Mr, Mr, Mb, reduceIte]); repeat ((first | refine ld (by assumption) (by assumption) rfl ?_ | refine X8 (by assumption) (by assumption) rfl ?_ | refine Q6 (by assumption) ?_); (try simp only [↓Mm, Mm, ↓Mr, Mr, Mb, reduceIte])))
  refine Q4 (fun hc => ?_) (fun hc => ?_)
  · have hn' : n < xs.length := by simpa using hc
    rw [List.drop_eq_getElem_cons hn'] at he
    simp only [E4] at he
    refine L6 hv hn' fun p cs hl hlen hr => ?_
    refine Y3 hs2 hl hlen ?_
    refine Y1 hs2 (by rfl) hlen (Rep.one hr) fun q w3 σ3 hk3 hq => ?_
    refine Ro (hv.up hk3) none (some (I n)) 0 n (.inl ⟨rfl, rfl⟩) (.inr rfl) (by omega) (by omega) fun v' hv' => ?_
    ((try simp only [↓Mm, Mm, ↓Mr, Mr, Mb, reduceIte]); repeat ((first | refine ld (by assumption) (by assumption) rfl ?_ | refine X8 (by assumption) (by assumption) rfl ?_ | refine Q6 (by assumption) ?_); (try simp only [↓Mm, Mm, ↓Mr, Mr, Mb, reduceIte])))
    refine Yl (fun y => decide (f y = f xs[n])) hk3.sat hv' (fun y ys w4 K hy hs4 hry hyl hK => ?_) fun w4 hb4 => ?_
    · refine J0 (Ob ?_)
      unfold Yi
      refine N1 hs4 fun b w5 σ5 hk5 hb5 => ?_
      have ha5 := (ha.up hk3).up hk5
      have hq5 := hq.up hk5
      have hle5 : σ.Le σ5 := fun b o e => hk5.le b o (hk3.le b o (hk.le b o e))
      refine Ll (Below.refl _ _) ?_
      refine X2 (.func fn fs cps) (fun w hb => X8 (hk5.sat.below hb) ha5 rfl (X5 rfl)) ?_
      refine X2 (.agg ys.toArray) (fun w hb => Y3 (hk5.sat.below hb) hb5 hyl (X5 rfl)) ?_
      refine X2 (S (f y)) (fun t t' w hb e e' => by rw [e, e']; exact hf σ5 y ys w _ hle5 (hk5.sat.below hb) (Rep.up hk5.le hry) hyl fun w' hb' => Q0n hb' rfl) ?_
      refine X2 (.func fn fs cps) (fun w hb => X8 (hk5.sat.below hb) ha5 rfl (X5 rfl)) ?_
      refine X2 (.agg cs.toArray) (fun w hb => Y3 (hk5.sat.below hb) hq5 hlen (X5 rfl)) ?_
      rintro _ _ _ _ _ w6 hb6 rfl rfl rfl rfl rfl
      refine hf σ5 xs[n] cs w6 _ hle5 (hk5.sat.below hb6) (Rep.up (fun b o e => hk5.le b o (hk3.le b o e)) hr) hlen fun w7 hb7 => ?_
      (try simp only [↓Mm, Mm, ↓Mr, Mr, Mb, reduceIte])
      exact hK w7 (bt (bt hk5.bel hb6) hb7)
    · have hb4' := bt hb (bt hk3.bel hb4)
      simp only [List.drop_zero, Nat.sub_zero] at *
      refine Q4 (fun hh => ?_) (fun hh => ?_)
      · rw [hh] at he
        have := h w4 (bt hk.bel hb4')
        rw [he] at this; exact this
      · rw [hh] at he
        ((try simp only [↓Mm, Mm, ↓Mr, Mr, Mb, reduceIte]); repeat ((first | refine ld (by assumption) (by assumption) rfl ?_ | refine X8 (by assumption) (by assumption) rfl ?_ | refine Q6 (by assumption) ?_); (try simp only [↓Mm, Mm, ↓Mr, Mr, Mb, reduceIte])))
        refine Y4 hv.max hn' ⟨hb4', ?_⟩
        rw [he, List.take_add_one, List.getElem?_eq_getElem hn']; rfl
  · have hn' : ¬ n < xs.length := by simpa using hc
    rw [List.drop_eq_nil_of_le (by omega)] at he
    have := h w2 (bt hk.bel hb)
    rw [he] at this; exact this)
theorem Q1L {xs : List X0} {v : Value} {fn : Fn} {fs cps : Array Value} (f : X0 → X0) (hs : X6 w σ) (hv : Sl 1 U5 σ v xs)
    (hf : ∀ (σ1 : Q5) x (w1 : World) (K : Value → World → Prop), σ.Le σ1 → X6 w1 σ1 → x.length ≤ W2 → (∀ w', Below w1.heap.size w1 w' → K (S (f x)) w') → Z6 P (.func fn fs cps) [S x] w1 K)
    (h : ∀ w', Below w.heap.size w w' → K (.bool (E4 f [] xs)) w') : Q1 P F.aI [v, .func fn fs cps] w K := Fo (by
  unfold Lh
  refine N1 hs fun a w1 σ1 hk ha => ?_
  simp only [Value.cells] at ha
  have hs1 := hk.sat
  replace hv := hv.up hk
  ((try simp only [↓Mm, Mm, ↓Mr, Mr, Mb, reduceIte]); repeat ((first | refine ld (by assumption) (by assumption) rfl ?_ | refine X8 (by assumption) (by assumption) rfl ?_ | refine Q6 (by assumption) ?_); (try simp only [↓Mm, Mm, ↓Mr, Mr, Mb, reduceIte])))
  refine V0 xs.length (fun n w' => Below w1.heap.size w1 w' ∧ E4 f [] xs = E4 f (xs.take n) (xs.drop n)) ⟨Below.refl _ _, rfl⟩ fun n w2 d hn hi => ?_
  obtain ⟨hb, he⟩ := hi
  have hs2 := hs1.below hb
  ((try simp only [↓Mm, Mm, ↓Mr, Mr, Mb, reduceIte]); repeat ((first | refine ld (by assumption) (by assumption) rfl ?_ | refine X8 (by assumption) (by assumption) rfl ?_ | refine Q6 (by assumption) ?_); (try simp only [↓Mm, Mm, ↓Mr, Mr, Mb, reduceIte])))
  refine Q4 (fun hc => ?_) (fun hc => ?_)
  · have hn' : n < xs.length := by simpa using hc
    rw [List.drop_eq_getElem_cons hn'] at he
    simp only [E4] at he
    refine L6 hv hn' fun p cs hl hlen hr => ?_
    obtain ⟨rfl, hbig⟩ := hr
    refine X8 hs2 hl rfl ?_
    refine U1 hs2 (by rfl) rfl rfl fun q w3 σ3 hk3 hq => ?_
    refine Ro (hv.up hk3) none (some (I n)) 0 n (.inl ⟨rfl, rfl⟩) (.inr rfl) (by omega) (by omega) fun v' hv' => ?_
    ((try simp only [↓Mm, Mm, ↓Mr, Mr, Mb, reduceIte]); repeat ((first | refine ld (by assumption) (by assumption) rfl ?_ | refine X8 (by assumption) (by assumption) rfl ?_ | refine Q6 (by assumption) ?_); (try simp only [↓Mm, Mm, ↓Mr, Mr, Mb, reduceIte])))
    refine C3 (fun y => decide (f y = f xs[n])) hk3.sat hv' (fun y w4 K hy hs4 hry hK => ?_) fun w4 hb4 => ?_
    · refine J0 (Hq ?_)
      unfold Ue
      have ha5 := ha.up hk3
      have hle5 : σ.Le σ3 := fun b o e => hk3.le b o (hk.le b o e)
      refine Ll (Below.refl _ _) ?_
      refine X2 (.func fn fs cps) (fun w hb => X8 (hs4.below hb) ha5 rfl (X5 rfl)) ?_
      refine X2 (S (f y)) (fun t w hb e => by rw [e]; exact hf σ3 y w _ hle5 (hs4.below hb) hry fun w' hb' => Q0n hb' rfl) ?_
      refine X2 (.func fn fs cps) (fun w hb => X8 (hs4.below hb) ha5 rfl (X5 rfl)) ?_
      refine X2 (S xs[n]) (fun w hb => X8 (hs4.below hb) hq rfl (X5 rfl)) ?_
      rintro _ _ _ _ w6 hb6 rfl rfl rfl rfl
      refine hf σ3 xs[n] w6 _ hle5 (hs4.below hb6) hbig fun w7 hb7 => ?_
      (try simp only [↓Mm, Mm, ↓Mr, Mr, Mb, reduceIte])
      exact hK w7 (bt hb6 hb7)
    · have hb4' := bt hb (bt hk3.bel hb4)
      simp only [List.drop_zero, Nat.sub_zero] at *
      refine Q4 (fun hh => ?_) (fun hh => ?_)
      · rw [hh] at he
        have := h w4 (bt hk.bel hb4')
        rw [he] at this; exact this
      · rw [hh] at he
        ((try simp only [↓Mm, Mm, ↓Mr, Mr, Mb, reduceIte]); repeat ((first | refine ld (by assumption) (by assumption) rfl ?_ | refine X8 (by assumption) (by assumption) rfl ?_ | refine Q6 (by assumption) ?_); (try simp only [↓Mm, Mm, ↓Mr, Mr, Mb, reduceIte])))
        refine Y4 hv.max hn' ⟨hb4', ?_⟩
        rw [he, List.take_add_one, List.getElem?_eq_getElem hn']; rfl
  · have hn' : ¬ n < xs.length := by simpa using hc
    rw [List.drop_eq_nil_of_le (by omega)] at he
    have := h w2 (bt hk.bel hb)
    rw [he] at this; exact this)
theorem Q42 {P : Program} {w : World} (d : Nat) (t e : TypeId) (a : Option Addr) (n c : Nat) (h : P.underlying t = some (.slice e)) :
    (Op.equalIn (d + 1) t (.slice a n c) (.slice none 0 0)).run P w = .ok a.isNone w := by
  cases a <;> simp [Op.equalIn, run_underlying h]
theorem Ph {t e : TypeId} {ox oy : Operand} [ts : TS P t e] {a : Option Addr} {n cap : Nat} {b : Bool} (hb : a.isNone = b) (hk : K (.bool b) w) : Q3 P .eql t ox oy (.slice a n cap) (.slice none 0 0) w K := by
  have h1 : (Op.equal t (.slice a n cap) (.slice none 0 0)).run P w = .ok b w := by
    have := Q42 (P := P) (w := w) 9999 t e a n cap ts.h
    rw [hb] at this
    exact this
  unfold Q3
  rw [X9 (v := .bool b) (w' := w) (by simp [eqGuard, Go.binOp, h1])]
  exact hk
theorem Js {xs : List X0} {v : Value} (hs : X6 w σ) (hv : Sl 1 U5 σ v xs) (hl : xs.length ≤ 1000000)
    (h : ∀ v' w' σ', Stp w σ w' σ' → Sl 1 U5 σ' v' xs → K v' w') : Q1 P F.z [v] w K := Vr (by
  unfold I3
  have hv0 := hv
  obtain ⟨a, cap, rfl, h2, h3, h4, h5⟩ := hv
  refine Ph rfl ?_
  refine Q4 (fun hc => ?_) (fun hc => ?_)
  · have : a = none := by simpa using hc
    have h0 := h4 this
    have hx : xs = [] := List.eq_nil_of_length_eq_zero (by omega)
    subst hx
    exact h _ w σ (Stp.refl hs) Sl.nil
  · refine Qs (R := U5) (sz := 1) (Stp.refl hs) [] [] rfl rfl (by simp) (by rfl) trivial fun v1 w1 hk ha _ => ?_
    refine app hk ha hv0 (by rfl) (by simp only [List.length_nil]; omega) (by simp only [List.length_nil]; omega) fun v2 w2 hg hS ha2 _ => ?_
    obtain ⟨σ', q1, q2, _⟩ := ha2.keep hS
    exact h _ w2 σ' q1 q2)
theorem Ls {xs : List Fld} {v : Value} (hs : X6 w σ) (hv : Sl 3 D6 σ v xs) (hl : xs.length ≤ 1000000)
    (h : ∀ v' w' σ', Stp w σ w' σ' → Sl 3 D6 σ' v' xs → K v' w') : Q1 P F.a3 [v] w K := Yc (by
  unfold S9
  have hv0 := hv
  obtain ⟨a, cap, rfl, h2, h3, h4, h5⟩ := hv
  refine Ph rfl ?_
  refine Q4 (fun hc => ?_) (fun hc => ?_)
  · have : a = none := by simpa using hc
    have h0 := h4 this
    have hx : xs = [] := List.eq_nil_of_length_eq_zero (by omega)
    subst hx
    exact h _ w σ (Stp.refl hs) Sl.nil
  · refine Qs (R := D6) (sz := 3) (Stp.refl hs) [] [] rfl rfl (by simp) (by rfl) trivial fun v1 w1 hk ha _ => ?_
    refine app hk ha hv0 (by rfl) (by simp only [List.length_nil]; omega) (by simp only [List.length_nil]; omega) fun v2 w2 hg hS ha2 _ => ?_
    obtain ⟨σ', q1, q2, _⟩ := ha2.keep hS
    exact h _ w2 σ' q1 q2)
theorem Ly {xs : List Ins} {v : Value} (hs : X6 w σ) (hv : Sl 3 F3 σ v xs) (hl : xs.length ≤ 1000000)
    (h : ∀ v' w' σ', Stp w σ w' σ' → Sl 3 F3 σ' v' xs → K v' w') : Q1 P F.a4 [v] w K := Ym (by
  unfold S7
  have hv0 := hv
  obtain ⟨a, cap, rfl, h2, h3, h4, h5⟩ := hv
  refine Ph rfl ?_
  refine Q4 (fun hc => ?_) (fun hc => ?_)
  · have : a = none := by simpa using hc
    have h0 := h4 this
    have hx : xs = [] := List.eq_nil_of_length_eq_zero (by omega)
    subst hx
    exact h _ w σ (Stp.refl hs) Sl.nil
  · refine Qs (R := F3) (sz := 3) (Stp.refl hs) [] [] rfl rfl (by simp) (by rfl) trivial fun v1 w1 hk ha _ => ?_
    refine app hk ha hv0 (by rfl) (by simp only [List.length_nil]; omega) (by simp only [List.length_nil]; omega) fun v2 w2 hg hS ha2 _ => ?_
    obtain ⟨σ', q1, q2, _⟩ := ha2.keep hS
    exact h _ w2 σ' q1 q2)
theorem Mc {xs : List Cat} {v : Value} (hs : X6 w σ) (hv : Sl 4 Qv σ v xs) (hl : xs.length ≤ 1000000)
    (h : ∀ v' w' σ', Stp w σ w' σ' → Sl 4 Qv σ' v' xs → K v' w') : Q1 P F.a5 [v] w K := Xs (by
  unfold C1
  have hv0 := hv
  obtain ⟨a, cap, rfl, h2, h3, h4, h5⟩ := hv
  refine Ph rfl ?_
  refine Q4 (fun hc => ?_) (fun hc => ?_)
  · have : a = none := by simpa using hc
    have h0 := h4 this
    have hx : xs = [] := List.eq_nil_of_length_eq_zero (by omega)
    subst hx
    exact h _ w σ (Stp.refl hs) Sl.nil
  · refine Qs (R := Qv) (sz := 4) (Stp.refl hs) [] [] rfl rfl (by simp) (by rfl) trivial fun v1 w1 hk ha _ => ?_
    refine app hk ha hv0 (by rfl) (by simp only [List.length_nil]; omega) (by simp only [List.length_nil]; omega) fun v2 w2 hg hS ha2 _ => ?_
    obtain ⟨σ', q1, q2, _⟩ := ha2.keep hS
    exact h _ w2 σ' q1 q2)
end Go.Proofs.YtdnfaboigajkhaaGreatDoor

namespace Go.Hm
open Go.Kd
structure Opr where
  name : X0
  number : Bool
  text : Bool
deriving DecidableEq
def Xt : List Opr := [
  ⟨[105, 110, 116], true, false⟩,
  ⟨[116, 114, 117, 101], false, false⟩,
  ⟨[102, 97, 108, 115, 101], false, false⟩,
  ⟨[119, 111, 114, 100], false, true⟩,
  ⟨[110, 117, 108, 108], false, false⟩,
  ⟨[108, 111, 97, 100], true, false⟩,
  ⟨[115, 116, 111, 114, 101], true, false⟩,
  ⟨[112, 111, 112], false, false⟩,
  ⟨[100, 117, 112], false, false⟩,
  ⟨[115, 119, 97, 112], false, false⟩,
  ⟨[97, 100, 100], false, false⟩,
  ⟨[115, 117, 98], false, false⟩,
  ⟨[109, 117, 108], false, false⟩,
  ⟨[100, 105, 118], false, false⟩,
  ⟨[114, 101, 109], false, false⟩,
  ⟨[110, 101, 103], false, false⟩,
  ⟨[108, 101, 115, 115], false, false⟩,
  ⟨[115, 97, 109, 101], false, false⟩,
  ⟨[110, 111, 116], false, false⟩,
  ⟨[98, 111, 116, 104], false, false⟩,
  ⟨[106, 111, 105, 110], false, false⟩,
  ⟨[115, 105, 122, 101], false, false⟩,
  ⟨[106, 117, 109, 112], true, false⟩,
  ⟨[98, 114, 97, 110, 99, 104], true, false⟩,
  ⟨[110, 101, 119], false, true⟩,
  ⟨[103, 101, 116], false, true⟩,
  ⟨[112, 117, 116], false, true⟩,
  ⟨[99, 97, 108, 108], false, true⟩,
  ⟨[97, 114, 114, 97, 121], false, true⟩,
  ⟨[97, 116], false, false⟩,
  ⟨[115, 101, 116], false, false⟩,
  ⟨[105, 115], false, true⟩,
  ⟨[99, 97, 115, 116], false, true⟩,
  ⟨[114, 101, 116, 117, 114, 110], false, false⟩,
  ⟨[116, 104, 114, 111, 119], false, false⟩,
  ⟨[111, 117, 116], false, false⟩,
  ⟨[101, 113, 117, 97, 108], false, false⟩,
  ⟨[97, 110, 100], false, false⟩,
  ⟨[111, 114], false, false⟩,
  ⟨[120, 111, 114], false, false⟩,
  ⟨[115, 104, 108], false, false⟩,
  ⟨[115, 104, 114], false, false⟩]
end Go.Hm
namespace Go.Emb
open Go.Hm
def ROp (_ : Q5) (o : Opr) (cs : List Value) : Prop := cs = [S o.name, .bool o.number, .bool o.text]
def Tt (o : Opr) : List Value := [S o.name, .bool o.number, .bool o.text]
instance : Rep ROp := ⟨fun _ h => h, fun h u hu => by rw [h] at hu; simp at hu; rcases hu with rfl | rfl | rfl <;> rfl⟩
end Go.Emb
namespace Go.Proofs.YtdnfaboigajkhaaGreatDoor
open Go.Emb Go.RowKit Go.Kd Go.Hm
variable {w : World} {K : Value → World → Prop} {σ : Q5}
theorem Q2U {a : X0} (ha : a.length ≤ W2) (h : ∀ w', Below w.heap.size w w' → K (.bool (M6 a)) w') : Q1 P F.bo [S a] w K := Q0L (by
  unfold Hp
  have ha' : a.length ≤ 140737488355328 := by simp only [W2] at ha; omega
  refine Q2d a ha' fun w1 h1 => ?_
  cases hn : name a
  · (try simp only [↓Mm, Mm, ↓Mr, Mr, Mb, reduceIte])
    have := h w1 h1
    rwa [show M6 a = false by cases a with | nil => rfl | cons c r => simp [M6, hn]] at this
  · (try simp only [↓Mm, Mm, ↓Mr, Mr, Mb, reduceIte])
    refine Nt a ha' fun w2 h2 => ?_
    (try simp only [↓Mm, Mm, ↓Mr, Mr, Mb, reduceIte])
    have := h w2 (bt h1 h2)
    rwa [show M6 a = !L3 a by
      cases a with
      | nil => simp [name] at hn
      | cons c r =>
        obtain ⟨q1, q2⟩ := Sy hn
        simp only [L3, M6, hn, Bool.true_and]
        simp only [D8, q2, Bool.or_false] at q1
        cases hg : P3 c.toNat <;> cases hs : G1 c.toNat
        · simp [hg, hs] at q1
        · rfl
        · rfl
        · exfalso
          simp only [P3, G1, Bool.and_eq_true, decide_eq_true_eq] at hg hs
          omega] at this)
theorem Q83 {t e : TypeId} {n sz by_ : Nat} {z : Value} [ta : TA P t n e] [tz : TZ P e sz by_ z] {a : Addr} (hk : K (.slice (some a) n n) w) : R5 P t (.pointer (some a)) none none none w K := by
  unfold R5
  have : (Instr.sliceAt t (.pointer (some a)) none none none).run P w = .ok (.slice (some (if n = 0 then a else a.add (0 * sz))) (n - 0) (n - 0)) w := by
    simp [Instr.sliceAt, run_underlying ta.h, Instr.sureAddr, Instr.sliceBounds, M0 tz]
  rw [X9 this]
  have e1 : (if n = 0 then a else a.add (0 * sz)) = a := by
    by_cases h : n = 0
    · rw [if_pos h]
    · rw [if_neg h, Nat.zero_mul, add_zero]
  rw [e1]; exact hk
def Tz (σ : Q5) : Prop := U0 σ ⟨G.a, 0, none⟩ (Xt.flatMap Tt)
theorem Q4s (i : Nat) (o : Opr) (h : Xt[i]? = some o) : ((Xt.flatMap Tt).drop (i * 3)).take 3 = Tt o := by
  have hi : i < 42 := (List.getElem?_eq_some_iff.1 h).1
  have key : ∀ l : List Opr, ∀ i o, l[i]? = some o → ((l.flatMap Tt).drop (i * 3)).take 3 = Tt o := by
    intro l
    induction l with
    | nil => intro i o h; simp at h
    | cons a r ih =>
      intro i o h
      cases i with
      | zero => simp at h; subst h; rfl
      | succ i =>
        have := ih i o (by simpa using h)
        rw [List.flatMap_cons, show (i + 1) * 3 = (Tt a).length + i * 3 by simp [Tt]; omega, List.drop_append]
        simpa [List.drop_eq_nil_of_le] using this
  exact key _ i o h
theorem Q0t {σ : Q5} {a : Addr} {cs : List Value} (h : U0 σ a cs) (i n : Nat) : U0 σ (a.add i) ((cs.drop i).take n) := by
  obtain ⟨h1, D5, e, fr, h2, h3⟩ := h
  refine ⟨F5 h1 _, D5, e, fr, by rw [R3]; exact h2, fun j v hv => ?_⟩
  rw [List.getElem?_take] at hv
  split at hv
  · rw [List.getElem?_drop] at hv
    rw [Xa, Nat.add_assoc]; exact h3 _ _ hv
  · cases hv
theorem Q8G (h : Tz σ) : Sl 3 ROp σ (.slice (some ⟨G.a, 0, none⟩) 42 42) Xt := by
  refine ⟨_, 42, rfl, by decide, by decide, by simp, ?_⟩
  rintro _ ⟨⟩
  refine ⟨fun _ => rfl, fun i x hx => ⟨Tt x, ?_, rfl, rfl⟩⟩
  rw [← Q4s i x hx]
  exact Q0t h (i * 3) 3
theorem Fd {β : Type} {xs : List Opr} {v f : Value} (stp : β → Opr → Bool × β) (s0 : β) (Inv : β → World → Prop) (D : Nat → Prop) (hsat : ∀ s w, Inv s w → X6 w σ) (h0 : Inv s0 w) (hv : Sl 3 ROp σ v xs)
    (hf : ∀ s x cs (w1 : World) (K : Value → World → Prop), x ∈ xs → Kpt D w w1 → Inv s w1 → ROp σ x cs → cs.length = 3 → (∀ w', Kpt D w w' → Inv (stp s x).2 w' → K (.bool (stp s x).1) w') → Z6 P f [.agg cs.toArray] w1 K)
    (h : ∀ w', Kpt D w w' → Inv (U6 stp s0 xs 0).2 w' → K (I (L7 (U6 stp s0 xs 0).1)) w') : Q1 P F.p [v, f] w K := Yd (by
  unfold S8
  ((try simp only [↓Mm, Mm, ↓Mr, Mr, Mb, reduceIte]); repeat ((first | refine ld (by assumption) (by assumption) rfl ?_ | refine X8 (by assumption) (by assumption) rfl ?_ | refine Q6 (by assumption) ?_); (try simp only [↓Mm, Mm, ↓Mr, Mr, Mb, reduceIte])))
  refine V0 xs.length (fun n w' => Kpt D w w' ∧ ∃ s, Inv s w' ∧ U6 stp s0 xs 0 = U6 stp s (xs.drop n) n) ⟨Kpt.refl, s0, h0, rfl⟩ fun n w1 d hn hi => ?_
  obtain ⟨hk, s, hi, he⟩ := hi
  have hs1 := hsat s w1 hi
  ((try simp only [↓Mm, Mm, ↓Mr, Mr, Mb, reduceIte]); repeat ((first | refine ld (by assumption) (by assumption) rfl ?_ | refine X8 (by assumption) (by assumption) rfl ?_ | refine Q6 (by assumption) ?_); (try simp only [↓Mm, Mm, ↓Mr, Mr, Mb, reduceIte])))
  refine Q4 (fun hc => ?_) (fun hc => ?_)
  · have hn' : n < xs.length := by simpa using hc
    refine L6 hv hn' fun p cs hl hlen hr => ?_
    refine Y3 hs1 hl hlen ?_
    refine hf s xs[n] cs w1 _ (List.getElem_mem hn') hk hi hr hlen fun w2 hk2 hi2 => ?_
    rw [List.drop_eq_getElem_cons hn'] at he
    simp only [U6] at he
    refine Q4 (fun hb => ?_) (fun hb => ?_)
    · rw [hb] at he
      have := h w2 hk2
      rw [he] at this
      exact this hi2
    · rw [hb] at he
      ((try simp only [↓Mm, Mm, ↓Mr, Mr, Mb, reduceIte]); repeat ((first | refine ld (by assumption) (by assumption) rfl ?_ | refine X8 (by assumption) (by assumption) rfl ?_ | refine Q6 (by assumption) ?_); (try simp only [↓Mm, Mm, ↓Mr, Mr, Mb, reduceIte])))
      exact Y4 hv.max hn' ⟨hk2, _, hi2, by simpa using he⟩
  · have hn' : ¬ n < xs.length := by simpa using hc
    rw [List.drop_eq_nil_of_le (by omega)] at he
    have := h w1 hk
    rw [he] at this
    exact this hi)
theorem Fc {xs : List Opr} {v f : Value} (p : Opr → Bool) (hs : X6 w σ) (hv : Sl 3 ROp σ v xs)
    (hf : ∀ x cs (w1 : World) (K : Value → World → Prop), x ∈ xs → X6 w1 σ → ROp σ x cs → cs.length = 3 → (∀ w', Below w1.heap.size w1 w' → K (.bool (p x)) w') → Z6 P f [.agg cs.toArray] w1 K)
    (h : ∀ w', Below w.heap.size w w' → K (I (L7 (xs.findIdx? p))) w') : Q1 P F.p [v, f] w K := by
  refine Fd (fun (_ : Unit) x => (p x, ())) () (fun _ w' => Below w.heap.size w w') (fun _ => False) (fun _ w' hb => hs.below hb) (Below.refl _ _) hv (fun s x cs w1 K hx hk hi hr hl hK => hf x cs w1 K hx (hs.below hi) hr hl fun w' hb => hK w' (.of_below (bt hi hb)) (bt hi hb)) fun w' hk hi => ?_
  rw [I4]
  simpa using h w' hi
theorem Tz.le {σ σ' : Q5} (h : Tz σ) (hk : ∀ b o, σ b = some o → σ' b = some o) : Tz σ' := U0.le h hk
def I5 (n : X0) : Option Nat := Xt.findIdx? fun o => decide (o.name = n)
theorem Q95 {a : X0} (hs : X6 w σ) (hg : Tz σ) (h : ∀ w', Below w.heap.size w w' → K (I (L7 (I5 a))) w') : Q1 P F.cb [S a] w K := Q3s (by
  unfold Ty
  refine N1 hs fun p w1 σ1 hk hp => ?_
  simp only [Value.cells] at hp
  refine Q83 ?_
  ((try simp only [↓Mm, Mm, ↓Mr, Mr, Mb, reduceIte]); repeat ((first | refine ld (by assumption) (by assumption) rfl ?_ | refine X8 (by assumption) (by assumption) rfl ?_ | refine Q6 (by assumption) ?_); (try simp only [↓Mm, Mm, ↓Mr, Mr, Mb, reduceIte])))
  refine Fc (fun o => decide (o.name = a)) hk.sat (Q8G (hg.le hk.le)) (fun x cs w2 K hx hs2 hr hl hK => ?_) fun w2 hb => ?_
  · refine J0 (Q1P ?_)
    unfold Bn
    refine N1 hs2 fun q w3 σ3 hk3 hq => ?_
    have hr' : cs = [S x.name, .bool x.number, .bool x.text] := hr
    subst hr'
    have hs3 := hk3.sat
    have hp3 := hp.up hk3
    simp only [Value.cells] at hq
    ((try simp only [↓Mm, Mm, ↓Mr, Mr, Mb, reduceIte]); repeat ((first | refine ld (by assumption) (by assumption) rfl ?_ | refine X8 (by assumption) (by assumption) rfl ?_ | refine Q6 (by assumption) ?_); (try simp only [↓Mm, Mm, ↓Mr, Mr, Mb, reduceIte])))
    exact hK w3 hk3.bel
  · (try simp only [↓Mm, Mm, ↓Mr, Mr, Mb, reduceIte])
    exact h w2 (bt hk.bel hb))
def D3 (n : X0) : Bool × Bool × Bool := match I5 n with
  | none => (false, false, false)
  | some i => ((Xt.getD i ⟨[], false, false⟩).number, (Xt.getD i ⟨[], false, false⟩).text, true)
theorem Q7U {a : X0} (hs : X6 w σ) (hg : Tz σ) (h : ∀ w', Below w.heap.size w w' → K (.tuple #[.bool (D3 a).1, .bool (D3 a).2.1, .bool (D3 a).2.2]) w') : Q1 P F.bO [S a] w K := Q3l (by
  unfold Gn
  refine Q95 hs hg fun w1 hb => ?_
  have hs1 := hs.below hb
  unfold D3 at h
  cases hf : I5 a with
  | none =>
    rw [hf] at h
    simp only [L7]
    (try simp only [↓Mm, Mm, ↓Mr, Mr, Mb, reduceIte])
    simp only [show decide ((-1 : Int) < 0) = true from rfl, ↓Mm, Mm, ↓Mr, Mr, Mb, reduceIte]
    exact h w1 hb
  | some i =>
    rw [hf] at h
    simp only at h
    have hi : i < 42 := (List.findIdx?_eq_some_iff_getElem.1 hf).1
    have ho : Xt[i]? = some (Xt.getD i ⟨[], false, false⟩) := by
      rw [List.getD, List.getElem?_eq_getElem (by exact hi)]; rfl
    generalize Xt.getD i ⟨[], false, false⟩ = o at h ho
    have hl := Q0t hg (i * 3) 3
    rw [Q4s i o ho] at hl
    simp only [L7]
    have e1 : decide ((i : Int) < 0) = false := by simp
    simp only [e1, ↓Mm, Mm, ↓Mr, Mr, Mb, reduceIte]
    have A : ∀ {w : World} {K : Value → World → Prop}, K (.pointer (some ((⟨G.a, 0, none⟩ : Addr).add (i * 3)))) w → indexAddr P T.a5 (.pointer (some ⟨G.a, 0, none⟩)) (I i) w K := by
      intro w K h
      rw [Q69 (by omega) (by omega)]
      simpa using h
    refine Ll (Below.refl _ _) ?_
    refine X2 (.pointer (some ((⟨G.a, 0, none⟩ : Addr).add (i * 3)))) (fun w hb => A (X5 rfl)) ?_
    refine X2 (.pointer (some (((⟨G.a, 0, none⟩ : Addr).add (i * 3)).add 1))) (fun t w hb e => by rw [e, fa]; exact X5 rfl) ?_
    refine X2 (.pointer (some ((⟨G.a, 0, none⟩ : Addr).add (i * 3)))) (fun w hb => A (X5 rfl)) ?_
    refine X2 (.pointer (some (((⟨G.a, 0, none⟩ : Addr).add (i * 3)).add 2))) (fun t w hb e => by rw [e, fa]; exact X5 rfl) ?_
    refine X2 (.bool o.number) (fun t w hb e => by rw [e]; exact ld (hs1.below hb) hl rfl (X5 rfl)) ?_
    refine X2 (.bool o.text) (fun t w hb e => by rw [e]; exact ld (hs1.below hb) hl rfl (X5 rfl)) ?_
    rintro _ _ _ _ _ _ w2 hb2 rfl rfl rfl rfl rfl rfl
    exact h w2 (bt hb hb2))
end Go.Proofs.YtdnfaboigajkhaaGreatDoor

namespace Go.Emb
open Go.RowKit Go.Hm
variable {P : Program} {w w0 w1 w' w'' : World} {K : Value → World → Prop} {σ σ0 σ1 σ' : Q5}
structure SLe (σ σ' : Q5) : Prop where
  le : ∀ b o, σ b = some o → σ' b = some o
theorem SLe.refl (σ : Q5) : SLe σ σ := ⟨fun _ _ h => h⟩
theorem SLe.step {w w' : World} (h : SLe σ0 σ) (k : Stp w σ w' σ') : SLe σ0 σ' := ⟨fun b o e => k.le b o (h.le b o e)⟩
theorem SLe.of (k : ∀ b o, σ b = some o → σ' b = some o) : SLe σ σ' := ⟨k⟩
theorem SLe.more (h : SLe σ0 σ) (k : SLe σ σ') : SLe σ0 σ' := ⟨fun b o e => k.le b o (h.le b o e)⟩
structure Hst (w : World) (σ : Q5) (w' : World) (σ' : Q5) : Prop where
  stp : Stp w σ w' σ'
theorem Hst.sat (h : Hst w σ w' σ') : X6 w' σ' := h.stp.sat
section lifts
variable {α : Type} {R : Q5 → α → List Value → Prop} {sz : Nat} {v : Value} {xs : List α} {a : Addr} {cs : List Value}
theorem Sl.lift [Rep R] (h : Sl sz R σ0 v xs) (k : SLe σ0 σ) : Sl sz R σ v xs := h.le k.le
theorem U0.lift (h : U0 σ0 a cs) (k : SLe σ0 σ) : U0 σ a cs := h.le k.le
theorem P2.lift {r : Nat} {m : List (List UInt8 × Value)} (h : P2 σ0 r m) (k : SLe σ0 σ) : P2 σ r m := h.le k.le
theorem N8 {x : Hm.Met} (h : M7 σ0 x cs) (k : SLe σ0 σ) : M7 σ x cs := Rep.up k.le h
theorem H5 {x : Cla} (h : U7 σ0 x cs) (k : SLe σ0 σ) : U7 σ x cs := Rep.up k.le h
theorem Q0R {x : Fld} (h : D6 σ0 x cs) : D6 σ x cs := h
theorem Q14 {x : Ins} (h : F3 σ0 x cs) : F3 σ x cs := h
theorem Q0V {x : Cat} (h : Qv σ0 x cs) : Qv σ x cs := h
theorem V3.step {b : Nat} (h : V3 σ w b cs) (k : Stp w σ w' σ') : V3 σ' w' b cs := h.up k
theorem N2.step {r : Nat} {m : List (List UInt8 × Value)} (h : N2 σ w r m) (k : Stp w σ w' σ') : N2 σ' w' r m := h.up k
theorem W7.step [Rep R] {B : Nat} {e : TypeId} (h : W7 B e sz R σ w v xs) (k : Stp w σ w' σ') : W7 B e sz R σ' w' v xs := h.up k
end lifts
theorem W6 {Q : World → Prop} (hs : X6 w σ) (h : ∀ w' σ', Stp w σ w' σ' → Q w') : ∀ w', Below w.heap.size w w' → Q w' := fun w' hb => h w' σ (Stp.of_below hs hb)
section plain
variable {k : IntKind} {t : TypeId} {ox oy : Operand} {a b : Int} {x y : Bool} {s u : List UInt8}
theorem O8 (h : K (.int k (k.wrap (a + b))) w) : Q3 P .add t ox oy (.int k a) (.int k b) w K := by rw [Rt]; exact h
theorem Ra (h0 : -9223372036854775808 ≤ a + b ∧ a + b ≤ 9223372036854775807) (h : K (I (a + b)) w) : Q3 P .add t ox oy (I a) (I b) w K := by rw [Rt, B4 h0.1 h0.2]; exact h
theorem Nv (h0 : -9223372036854775808 ≤ a - b ∧ a - b ≤ 9223372036854775807) (h : K (I (a - b)) w) : Q3 P .sub t ox oy (I a) (I b) w K := by rw [Q0Q, B4 h0.1 h0.2]; exact h
theorem Z5 (h : K (.bool (decide (a < b))) w) : Q3 P .lss t ox oy (.int k a) (.int k b) w K := by rw [Q12]; exact h
theorem Q7p (h : K (.bool (decide (b < a))) w) : Q3 P .gtr t ox oy (.int k a) (.int k b) w K := by rw [Q0C]; exact h
theorem Uw (h : K (.bool (decide (b ≤ a))) w) : Q3 P .geq t ox oy (.int k a) (.int k b) w K := by rw [Pd]; exact h
theorem Q23 (h : K (.bool (decide (a = b))) w) : Q3 P .eql t ox oy (.int k a) (.int k b) w K := by rw [Po]; exact h
theorem Lr (h : K (.bool (!decide (a = b))) w) : Q3 P .neq t ox oy (.int k a) (.int k b) w K := by rw [Q15]; exact h
theorem U3 (h : K (.bool (!x)) w) : V1 P .not (.bool x) w K := by rw [Q0F]; exact h
theorem Lq (h : K (.bool (decide (s = u))) w) : Q3 P .eql t ox oy (S s) (S u) w K := by rw [Ha]; exact h
theorem Eb (h : K (.bool (!decide (s = u))) w) : Q3 P .neq t ox oy (S s) (S u) w K := by rw [Hf]; exact h
theorem P4 (h0 : s.length + u.length ≤ 9223372036854775807) (h : K (S (s ++ u)) w) : Q3 P .add t ox oy (S s) (S u) w K := by rw [Q3v h0]; exact h
theorem Q5N {cs : List Bool} {r : TypeId} (hu : P.underlying t = some .string) (h : K (I s.length) w) : X4 P .len [t] r cs [S s] w K := by rw [D2 hu]; exact h
theorem Y8 {v u : Value} (h : K v w) : pick P (.bool true) v u w K := by rw [Ec]; exact h
theorem Z0 {v u : Value} (h : K u w) : pick P (.bool false) v u w K := by rw [Na]; exact h
theorem W9 {v u : Value} (h : K (if x = true then v else u) w) : pick P (.bool x) v u w K := by rw [Mn]; exact h
theorem L4 {vs : List Value} {i : Nat} {v : Value} (hv : vs[i]? = some v) (h : K v w) : ext P (.tuple vs.toArray) i w K := by rw [Yk hv]; exact h
theorem F7 {t e : Prop} (h : t) : X1 (.bool true) t e := by rw [Cy]; exact h
theorem B8 {t e : Prop} (h : e) : X1 (.bool false) t e := by rw [Eo]; exact h
theorem Z7 {run : World → (Value → World → Prop) → Prop} (h : run w K) : Q0 (.bool true) true w run K := by rw [F8]; exact h
theorem Z9 {run : World → (Value → World → Prop) → Prop} (h : run w K) : Q0 (.bool false) false w run K := by rw [Ul]; exact h
theorem Y6 {run : World → (Value → World → Prop) → Prop} (h : K undef w) : Q0 (.bool true) false w run K := by rw [Kv]; exact h
theorem Y7 {run : World → (Value → World → Prop) → Prop} (h : K undef w) : Q0 (.bool false) true w run K := by rw [Jf]; exact h
end plain
section mem
variable {α : Type} {R : Q5 → α → List Value → Prop} {sz : Nat} {v : Value} {xs : List α} {a : Addr} {cs : List Value}
theorem Z4 {t : TypeId} (hs : X6 w σ) (h : ∀ a w' σ', Stp w σ w' σ' → U0 σ' a cs → K (.pointer (some a)) w') : box P t (.agg cs.toArray) w K :=
  N1 hs fun a w' σ' hk hl => h a w' σ' hk (by simpa [Value.cells] using hl)
theorem U2 {t : TypeId} (hs : X6 w σ) (hc : v.cells = #[v]) (h : ∀ a w' σ', Stp w σ w' σ' → U0 σ' a [v] → K (.pointer (some a)) w') : box P t v w K :=
  N1 hs fun a w' σ' hk hl => h a w' σ' hk (by rw [hc] at hl; exact hl)
theorem Jo (h : Sl sz R σ v xs) : v.cells = #[v] := by
  obtain ⟨a, cap, rfl, _⟩ := h; rfl
theorem W4 {t : TypeId} {k off : Nat} {ft : TypeId} {sz by_ : Nat} {z : Value} [tf : TF P t k off ft] [tz : TZ P ft sz by_ z] [nz : NZ sz] (h : K (.pointer (some (a.add off))) w) : fieldAddr P t (.pointer (some a)) k w K := by
  rw [fa]; exact h
theorem Z2 {t : TypeId} {k off : Nat} {ft : TypeId} [tf : TF P t k off ft] [tg : TG P ft false] {cs : List Value} {v : Value} (hv : cs[off]? = some v) (h : K v w) : D7 P t (.agg cs.toArray) k w K := by
  rw [Q8f (v := v) (by simpa using hv)]; exact h
end mem
theorem W0 {A : (World → World → Prop) → (World → Prop) → Prop} (hs : X6 w σ) (h : A (fun w w' => Below w.heap.size w w') (fun w' => Hst w σ w' σ)) : dr w A :=
  Q07 _ _ ⟨Stp.of_below hs (Below.refl _ _).drew⟩ (fun _ _ h1 h2 => ⟨h1.stp.trans (Stp.of_below h1.sat h2)⟩) h
theorem W8 {α : Type} {R : Q5 → α → List Value → Prop} {sz : Nat} {v : Value} {xs : List α} {t : TypeId} (hs : X6 w σ) (hv : Sl sz R σ v xs) (h : ∀ a w' σ', Stp w σ w' σ' → U0 σ' a [v] → K (.pointer (some a)) w') : box P t v w K :=
  U2 hs (Jo hv) h
section elems
variable {v : Value} {t e : TypeId} {by_ : Nat} {z : Value} {n : Nat}
theorem Q3m {xs : List Kd.X0} [TS P t e] [TZ P e 1 by_ z] (h : Sl 1 U5 σ v xs) (hn : n < xs.length) (hk : ∀ a, U0 σ a [S xs[n]] → xs[n].length ≤ W2 → K (.pointer (some a)) w) : indexAddr P t v (I n) w K :=
  L6 h hn fun a cs h1 h2 h3 => by obtain ⟨rfl, h4⟩ := h3; exact hk a h1 h4
theorem Q2J {xs : List Fld} [TS P t e] [TZ P e 3 by_ z] (h : Sl 3 D6 σ v xs) (hn : n < xs.length) (hk : ∀ a, U0 σ a [S xs[n].name, S xs[n].kind, .bool xs[n].tr] → D6 σ xs[n] [S xs[n].name, S xs[n].kind, .bool xs[n].tr] → K (.pointer (some a)) w) : indexAddr P t v (I n) w K :=
  L6 h hn fun a cs h1 h2 h3 => by obtain ⟨rfl, h4⟩ := h3; exact hk a h1 ⟨rfl, h4⟩
end elems
end Go.Emb

namespace Go.Hm
open Go.Kd
abbrev Xf := X0 → Option Cla
def Y5 (l : List Cla) (n : X0) : Option Nat := l.findIdx? fun c => decide (c.name = n)
def lk (l : List Cla) : Xf := fun n => (Y5 l n).bind (l[·]?)
def U8 (c : Cla) : List X0 := c.super :: c.like
def U4 : X0 := [79, 98, 106, 101, 99, 116]
def L1 : X0 := [70, 97, 117, 108, 116]
def Yt : X0 := [110, 117, 108, 108]
def C4 : X0 := [116, 101, 120, 116]
def I7 : X0 := [119, 104, 97, 116]
def U9 : List X0 := [[78, 117, 108, 108, 70, 97, 117, 108, 116], [73, 110, 100, 101, 120, 70, 97, 117, 108, 116], [67, 97, 115, 116, 70, 97, 117, 108, 116], [90, 101, 114, 111, 70, 97, 117, 108, 116], [82, 111, 111, 109, 70, 97, 117, 108, 116], [67, 97, 108, 108, 70, 97, 117, 108, 116]]
def H7 : List Cla := [⟨U4, [], [], false, false, false, [], []⟩, ⟨L1, U4, [], false, false, false, [⟨I7, C4, false⟩], []⟩] ++ U9.map fun n => ⟨n, L1, [], false, false, true, [], []⟩
def Zf (L : Xf) : Nat → List X0 → List X0 → List X0
  | 0, _, seen => seen
  | _, [], seen => seen
  | f + 1, n :: todo, seen => match L n with
    | none => Zf L f todo seen
    | some c => if n ∈ seen then Zf L f todo seen else Zf L f (todo ++ U8 c) (seen ++ [n])
def weigh (l : List Cla) (seen : List X0) : Nat := (l.map fun c => if c.name ∈ seen then 0 else (U8 c).length).sum
def visits (l : List Cla) (n : X0) : List X0 := Zf (lk l) (1 + weigh l []) [n] []
def hasM (l : List Cla) (n : X0) : Bool := (Y5 l n).isSome
def kindM (l : List Cla) (s : X0) : Bool := decide (s = Yt) || (right s && (plain (V5 s).1 || hasM l (V5 s).1))
def subM (l : List Cla) (a b : X0) : Bool :=
  if !kindM l a || !kindM l b then false else if a = b then true else if plain a || plain b then false else if a = Yt then true
  else if Hc a ≠ [] then decide (b = U4) else (visits l a).contains b
def S1 (L : Xf) : Nat → X0 → List Cla
  | 0, _ => []
  | f + 1, n => match L n with
    | none => []
    | some c => c :: S1 L f c.super
def chain (l : List Cla) (n : X0) : List Cla := S1 (lk l) (l.length + 1) n
def Q0s (l : List Cla) (a b : X0) : X0 :=
  if subM l a b then b else if subM l b a then a else if !kindM l a || !kindM l b || plain a || plain b then []
  else match (chain l a).find? fun c => subM l b c.name with
    | some c => c.name
    | none => U4
def fieldsM (l : List Cla) (n : X0) : List Fld := (chain l n).reverse.flatMap (·.fields)
def placeM (l : List Cla) (n f : X0) : Option Nat := (fieldsM l n).findIdx? fun x => decide (x.name = f)
def H4 (c : Cla) (n : X0) : Option Hm.Met := c.methods.find? fun m => decide (m.name = n)
def Nz (L : Xf) : Nat → Cla → X0 → Option (X0 × Hm.Met)
  | 0, _, _ => none
  | f + 1, c, n => c.like.findSome? fun u => match L u with
    | none => none
    | some d => match H4 d n with
      | some m => some (u, m)
      | none => Nz L f d n
def methodM (l : List Cla) (k n : X0) : Option (X0 × Hm.Met) :=
  match (chain l k).findSome? fun c => (H4 c n).map (c.name, ·) with
  | some r => some r
  | none => (chain l k).findSome? fun c => Nz (lk l) (l.length + 1) c n
def Ae (l : List Cla) (n : X0) : Bool := match lk l n with
  | some c => !c.abs
  | none => false
def B6 (f : Fld) : X0 := if f.tr then [] else [32] ++ f.name ++ [58] ++ f.kind
def B0 (L : Xf) : Nat → X0 → X0
  | 0, _ => []
  | f + 1, n => match L n with
    | none => []
    | some c => if n = U4 then [] else n ++ [40] ++ B0 L f c.super ++ [41] ++ c.fields.flatMap B6 ++ [46]
def printM (l : List Cla) (n : X0) : X0 := B0 (lk l) (l.length + 1) n
def O4 : List X0 → X0
  | [] => []
  | [a] => a
  | a :: b :: r => a ++ [44] ++ O4 (b :: r)
def K1 (m : Hm.Met) : X0 := [40] ++ O4 m.params ++ [41] ++ m.result
def thereM (l : List Cla) (s : X0) : Bool := !decide (s = Yt) && kindM l s
def C6 (l : List Cla) (c : Cla) : Bool := c.fields.any fun f => (placeM l c.super f.name).isSome
def E1 (l : List Cla) (c : Cla) : Bool := c.fields.any (fun f => !thereM l f.kind) || c.methods.any fun m => (!thereM l m.result && !decide (m.result = [])) || m.params.any fun s => !thereM l s
def allMets (l : List Cla) (n : X0) : List Hm.Met := (visits l n).flatMap fun u => ((lk l u).map (·.methods)).getD []
def Vl (ms : List Hm.Met) : Bool := ms.any fun x => ms.any fun y => decide (x.name = y.name) && !decide (K1 x = K1 y)
def B7 (l : List Cla) (c : Cla) : Bool := Vl (allMets l c.name)
def F2 (l : List Cla) (k n : X0) : Bool := match methodM l k n with
  | none => true
  | some r => r.2.abs
def Qd (l : List Cla) (c : Cla) : Bool := !c.abs && (allMets l c.name).any fun m => F2 l c.name m.name
def membersM (l : List Cla) (c : Cla) : Nat := if C6 l c then 64 else if E1 l c then 65 else if B7 l c then 66 else if Qd l c then 67 else 0
def F9 (l : List Cla) (n : X0) : Bool := match lk l n with
  | none => true
  | some d => d.iface || d.fin
def M9 (l : List Cla) (n : X0) : Bool := match lk l n with
  | none => true
  | some d => !d.iface
def uppersM (l : List Cla) (c : Cla) : Nat := if F9 l c.super then 61 else if c.like.any (M9 l) then 62 else 0
def loopsM (l : List Cla) (c : Cla) : Bool := (U8 c).any fun n => (visits l n).contains c.name
def F6 (l : List Cla) (frm : Nat) : Nat → List Nat → Nat → List Nat
  | 0, out, _ => out
  | f + 1, out, i => if i < frm then out else if i ∈ out then out else ((U8 (l.getD i Cla.zero)).foldl (fun out n => F6 l frm f out ((Y5 l n).getD 0)) out) ++ [i]
def V9 (l : List Cla) (frm : Nat) : List Nat := ((List.range l.length).drop frm).foldl (fun out i => F6 l frm (l.length + 1) out i) []
end Go.Hm

namespace Go.Emb
open Go.RowKit Go.Hm
variable {P : Program} {w w0 w1 w' w'' : World} {K : Value → World → Prop} {σ σ0 σ1 σ' : Q5}
def L8 {α : Type} (B : Nat) (e : TypeId) (sz : Nat) (R : Q5 → α → List Value → Prop) (σ : Q5) (w : World) (v : Value) (xs : List α) : Prop :=
  ∃ a cap, v = .slice a xs.length cap ∧ xs.length ≤ cap ∧ cap ≤ maxLen ∧ (∀ b, a = some b → b.spot = none ∧ B ≤ b.block ∧ b.block < w.heap.size ∧ σ b.block = none) ∧ (0 < cap → ∃ g off cur, a = some ⟨g, off, none⟩ ∧ B ≤ g ∧ σ g = none ∧ w.heap[g]? = some (.cells cur e (0, 0)) ∧ off + cap * sz ≤ cur.size ∧ ∀ i x, xs[i]? = some x → R σ x ((cur.toList.drop (off + i * sz)).take sz))
section
variable {α : Type} {R : Q5 → α → List Value → Prop} {B sz : Nat} {e : TypeId} {v u : Value} {xs ys : List α}
theorem L8.of_acc (h : W7 B e sz R σ w v xs) : L8 B e sz R σ w v xs := by
  obtain ⟨cells, h1, h2, h3⟩ := h
  rcases h1.2 with ⟨rfl, h0⟩ | ⟨g, cap, cur, rfl, hb, hg, hle, hmax, hsz, htk⟩
  · exact ⟨none, 0, by rw [h0], by omega, by simp, by simp, fun h => by omega⟩
  · refine ⟨_, cap, rfl, hle, hmax, by rintro _ ⟨⟩; exact ⟨rfl, hb, (Array.getElem?_eq_some_iff.1 hg).1, h2 g rfl⟩, fun _ => ⟨g, 0, cur, rfl, hb, h2 g rfl, hg, by omega, fun i x hx => ?_⟩⟩
    have hi : i < xs.length := (List.getElem?_eq_some_iff.1 hx).1
    have hh : i * sz + sz ≤ xs.length * sz := by rw [← Nat.succ_mul]; exact Nat.mul_le_mul_right _ hi
    have := h3 i x hx
    rw [← htk, List.drop_take, List.take_take] at this
    rw [Nat.zero_add]
    rwa [show min sz (xs.length * sz - i * sz) = sz by omega] at this
theorem L8.mem (h : L8 B e sz R σ w v xs) {k : Nat} (hv : v.ownBlock = some k) : B ≤ k ∧ k < w.heap.size ∧ σ k = none := by
  obtain ⟨a, cap, rfl, h1, h2, hsp, h3⟩ := h
  cases a with
  | none => cases hv
  | some a => cases hv; exact (hsp a rfl).2
theorem L8.lt (h : L8 B e sz R σ w v xs) {k : Nat} (hv : v.ownBlock = some k) (hx : 0 < xs.length) : B ≤ k ∧ k < w.heap.size ∧ σ k = none := h.mem hv
theorem L8.up [hr : Rep R] (h : L8 B e sz R σ w v xs) (hk : Stp w σ w' σ') : L8 B e sz R σ' w' v xs := by
  obtain ⟨a, cap, rfl, h1, h2, hsp, h3⟩ := h
  refine ⟨a, cap, rfl, h1, h2, fun b hb => ⟨(hsp b hb).1, (hsp b hb).2.1, Nat.lt_of_lt_of_le (hsp b hb).2.2.1 hk.bel.size, (hk.old _ (hsp b hb).2.2.1).trans (hsp b hb).2.2.2⟩, fun hc => ?_⟩
  obtain ⟨g, off, cur, rfl, q1, q2, q3, q4, q5⟩ := h3 hc
  have hl := (Array.getElem?_eq_some_iff.1 q3).1
  exact ⟨g, off, cur, rfl, q1, (hk.old g hl).trans q2, (hk.bel.block g hl).trans q3, q4, fun i x hx => hr.up hk.le (q5 i x hx)⟩
theorem L8.step [hr : Rep R] (h : L8 B e sz R σ w v xs) (hk : Stp w σ w' σ') : L8 B e sz R σ' w' v xs := h.up hk
theorem L8.kp {D : Nat → Prop} (h : L8 B e sz R σ w v xs) (hk : Kpt D w w') (hne : ∀ k, v.ownBlock = some k → ¬ D k) : L8 B e sz R σ w' v xs := by
  obtain ⟨a, cap, rfl, h1, h2, hsp, h3⟩ := h
  refine ⟨a, cap, rfl, h1, h2, fun b hb => ⟨(hsp b hb).1, (hsp b hb).2.1, Nat.lt_of_lt_of_le (hsp b hb).2.2.1 hk.size, (hsp b hb).2.2.2⟩, fun hc => ?_⟩
  obtain ⟨g, off, cur, rfl, q1, q2, q3, q4, q5⟩ := h3 hc
  have hl := (Array.getElem?_eq_some_iff.1 q3).1
  exact ⟨g, off, cur, rfl, q1, q2, (hk.block g hl (hne g rfl)).trans q3, q4, q5⟩
theorem Q1Z {t0 t : TypeId} {cs : List Bool} [ts : TS P t0 e] (h : L8 B e sz R σ w v xs) (hk : K (I xs.length) w) : X4 P .len [t0] t cs [v] w K := by
  obtain ⟨a, cap, rfl, _⟩ := h
  rw [Q4b]; exact hk
theorem Q2Y {t : TypeId} {by_ : Nat} {z : Value} [TS P t e] [TZ P e sz by_ z] (h : L8 B e sz R σ w v xs) {n : Nat} (hn : n < xs.length)
    (hk : ∀ a cs, (∀ j u, cs[j]? = some u → w.cell? (a.add j) = some u) → cs.length = sz → R σ xs[n] cs → K (.pointer (some a)) w) : indexAddr P t v (I n) w K := by
  obtain ⟨a, cap, rfl, h1, h2, hsp, h3⟩ := h
  obtain ⟨g, off, cur, rfl, q1, q2, q3, q4, q5⟩ := h3 (by omega)
  rw [Rk (by omega) (by omega)]
  have hh : n * sz + sz ≤ cap * sz := by rw [← Nat.succ_mul]; exact Nat.mul_le_mul_right _ (by omega)
  refine hk _ ((cur.toList.drop (off + n * sz)).take sz) ?_ ?_ (q5 n _ (by simp [hn]))
  · intro j u hu
    rw [List.getElem?_take] at hu
    split at hu
    · rw [List.getElem?_drop] at hu
      unfold World.cell?
      rw [R3, R3, Xa, Xa, F5 (F5 rfl _)]
      simp only [q3]
      simpa using hu
    · cases hu
  · rw [List.length_take, List.length_drop, Array.length_toList]; omega
theorem Q9t {t : TypeId} {by_ : Nat} {z : Value} [ts : TS P t e] [tz : TZ P e sz by_ z] (h : L8 B e sz R σ w v xs) (l : Nat) (hl : l ≤ xs.length)
    (hk : ∀ v', L8 B e sz R σ w v' (xs.drop l) → (v'.ownBlock = v.ownBlock ∨ v'.ownBlock = none) → K v' w) : R5 P t v (some (I l)) none none w K := by
  obtain ⟨a, cap, rfl, h1, h2, hsp, h3⟩ := h
  have hh : ∀ w : World, (Instr.sliceBounds true xs.length cap (some (I l)) none none).run P w = .ok (l, xs.length, cap) w := by
    intro w
    have c1 : (l : Int) ≤ xs.length := by omega
    simp [Instr.sliceBounds, Instr.sliceBound, asIntOf, h1, c1]
    intros; omega
  unfold R5
  have : (Instr.sliceAt t (.slice a xs.length cap) (some (I l)) none none).run P w = .ok (.slice (if cap = l then a else a.map (·.add (l * sz))) (xs.length - l) (cap - l)) w := by
    simp [Instr.sliceAt, run_underlying ts.h, Instr.slice, hh, M0 tz]
  rw [X9 this]
  refine hk _ ⟨_, cap - l, by rw [List.length_drop], by rw [List.length_drop]; omega, by omega, ?_, fun hc => ?_⟩ ?_
  · intro b hb
    split at hb
    · exact hsp b hb
    · cases a with
      | none => cases hb
      | some a => cases hb; exact ⟨F5 (hsp a rfl).1 _, by rw [R3]; exact (hsp a rfl).2⟩
  · have h4 := h3 (by omega)
    clear h3
    obtain ⟨g, off, cur, rfl, q1, q2, q3, q4, q5⟩ := h4
    refine ⟨g, off + l * sz, cur, ?_, q1, q2, q3, ?_, fun i x hx => ?_⟩
    · rw [if_neg (by omega)]; simp only [Option.map_some]; congr 1; unfold Addr.add; split <;> simp_all
    · have : l * sz + (cap - l) * sz = cap * sz := by rw [← Nat.add_mul]; congr 1; omega
      omega
    · rw [List.getElem?_drop] at hx
      have := q5 _ _ hx
      rwa [Nat.add_mul, ← Nat.add_assoc] at this
  · left
    by_cases hcl : cap = l
    · rw [if_pos hcl]; cases a <;> rfl
    · rw [if_neg hcl]
      cases a with
      | none => rfl
      | some a => simp only [Option.map_some, Value.ownBlock, R3]
theorem Q7n {t ty : TypeId} {by_ : Nat} {z : Value} {cs : List Bool} [ts : TS P t e] [tz : TZ P e sz by_ z] [hr : Rep R] (hs : X6 w σ) (hB : B ≤ w.heap.size) (ha : L8 B e sz R σ w v xs) (hu : Sl sz R σ u ys) (hz : (z.cells.size == sz && decide (0 < sz)) = true)
    (hb : (xs.length + ys.length) * by_ ≤ 140737488355328) (hm : xs.length + ys.length ≤ 1000000000000)
    (h : ∀ v' w', Kpt (fun k => v.ownBlock = some k ∧ B ≤ k ∧ σ k = none) w w' → X6 w' σ → L8 B e sz R σ w' v' (xs ++ ys) → ((∃ a cap, v = .slice a xs.length cap ∧ v' = .slice a (xs.length + ys.length) cap) ∨ (Below w.heap.size w w' ∧ ∀ k, v'.ownBlock = some k → w.heap.size ≤ k)) → K v' w') : X4 P .append [t, t] ty cs [v, u] w K := by
  obtain ⟨ac, acap, rfl, c1, c2, csp, c3⟩ := ha
  obtain ⟨a, cap, news, rfl, n1, n2, n3, n4, n5⟩ := hu.cells hs
  obtain ⟨i, hi, hsz, hby, hzero⟩ := tz.info
  simp only [Bool.and_eq_true, beq_iff_eq, decide_eq_true_eq] at hz
  obtain ⟨hz1, hz2⟩ := hz
  have fin : ∀ v' w', (Builtin.append_ #[t, t] ty #[.slice ac xs.length acap, .slice a ys.length cap]).run P w = .ok v' w' → Kpt (fun k => (Value.slice ac xs.length acap).ownBlock = some k ∧ B ≤ k ∧ σ k = none) w w' → L8 B e sz R σ w' v' (xs ++ ys) → ((∃ a cap, (Value.slice ac xs.length acap) = .slice a xs.length cap ∧ v' = .slice a (xs.length + ys.length) cap) ∨ (Below w.heap.size w w' ∧ ∀ k, v'.ownBlock = some k → w.heap.size ≤ k)) → X4 P .append [t, t] ty cs [.slice ac xs.length acap, .slice a ys.length cap] w K := by
    intro v' w' hrun hk hq hat
    have hrun' : (builtin .append #[t, t] ty cs.toArray #[.slice ac xs.length acap, .slice a ys.length cap]).run P w = .ok (.value v') w' := by
      simp [builtin, hrun]
    unfold X4
    rw [Yw]; unfold Xo
    rw [hrun']
    exact h v' w' hk (fun k o ho => by rw [hk.block k (hs.lt ho) fun e => by rw [e.2.2] at ho; cases ho]; exact hs k o ho) hq hat
  have hsrc : Src P i.size t (.slice a ys.length cap) ys.length news w := by
    cases a with
    | some b => exact Src.ofSlice w ts.h b ys.length cap news (by rw [hsz]; exact n2) (n3 b rfl) n4
    | none =>
      have hy : ys.length = 0 := by
        obtain ⟨a', cap', e', q1, _, q3, _⟩ := hu; injection e' with e1 e2 e3; have := n1 rfl; omega
      have hn : news = [] := List.eq_nil_of_length_eq_zero (by rw [n2, hy]; simp)
      subst hn
      rw [hy]; exact Src.ofNil w ts.h cap
  by_cases hroom : xs.length + ys.length ≤ acap
  · by_cases hc0 : acap = 0
    · -- nothing at all
      subst hc0
      have hx : xs = [] := List.eq_nil_of_length_eq_zero (by omega)
      have hy : ys = [] := List.eq_nil_of_length_eq_zero (by omega)
      subst hx hy
      have hn : news = [] := List.eq_nil_of_length_eq_zero (by simpa using n2)
      subst hn
      refine fin (.slice ac 0 0) w ?_ Kpt.refl ⟨ac, 0, rfl, by simp, by simp, csp, fun h => by omega⟩ (.inl ⟨_, _, rfl, rfl⟩)
      have hl := hsrc.len w
      have hcs := hsrc.cells
      simp only [List.length_nil] at hl hcs ⊢
      cases ac <;> simp [Builtin.append_, run_underlying ts.h, sizeOf, typeInfo, hi, hl, hcs, storeCells]
    · obtain ⟨g, off, cur, rfl, q1, q2, q3, q4, q5⟩ := c3 (by omega)
      have e1 : (xs.length + ys.length) * sz ≤ acap * sz := Nat.mul_le_mul_right _ hroom
      rw [Nat.add_mul] at e1
      have hst := run_storeCells_at P g (off + xs.length * sz) e news 0 cur w q3 (by omega) n4
      simp only [Nat.add_zero] at hst
      obtain ⟨hu1, hu2⟩ := Nj (cs := (cur.toList.take (off + xs.length * sz) ++ news ++ cur.toList.drop (off + xs.length * sz + news.length)).toArray) q3
      refine fin (.slice (some ⟨g, off, none⟩) (xs.length + ys.length) acap) _ ?_ (Kpt.of_upd hu1 ⟨rfl, q1, q2⟩) ?_ (.inl ⟨_, _, rfl, rfl⟩)
      · have hl := hsrc.len w
        have hcs := hsrc.cells
        rw [hsz] at hcs
        simp [Builtin.append_, run_underlying ts.h, sizeOf, typeInfo, hi, hl, hcs, hsz, hroom, Addr.add_lit, hst]
      · refine ⟨_, acap, by rw [List.length_append], by rw [List.length_append]; exact hroom, c2, fun b hb => ⟨(csp b hb).1, (csp b hb).2.1, by rw [hu1.size]; exact (csp b hb).2.2.1, (csp b hb).2.2.2⟩, fun _ => ⟨g, off, _, rfl, q1, q2, hu2, ?_, fun j x hx => ?_⟩⟩
        · simp; omega
        · by_cases hj : j < xs.length
          · rw [List.getElem?_append_left hj] at hx
            have := q5 j x hx
            have hh : j * sz + sz ≤ xs.length * sz := by rw [← Nat.succ_mul]; exact Nat.mul_le_mul_right _ hj
            have e2 : ((cur.toList.take (off + xs.length * sz) ++ news ++ cur.toList.drop (off + xs.length * sz + news.length)).toArray.toList.drop (off + j * sz)).take sz = (cur.toList.drop (off + j * sz)).take sz := by
              rw [List.toList_toArray, List.append_assoc]
              rw [List.drop_append_of_le_length (by rw [List.length_take, Array.length_toList (xs := cur)]; omega), List.take_append_of_le_length (by rw [List.length_drop, List.length_take, Array.length_toList (xs := cur)]; omega), List.drop_take, List.take_take]
              congr 1; omega
            rw [e2]; exact this
          · rw [List.getElem?_append_right (by omega)] at hx
            have := n5 _ _ hx
            have hjl : j - xs.length < ys.length := (List.getElem?_eq_some_iff.1 hx).1
            have hh : (j - xs.length) * sz + sz ≤ ys.length * sz := by rw [← Nat.succ_mul]; exact Nat.mul_le_mul_right _ hjl
            have hjs : j * sz = xs.length * sz + (j - xs.length) * sz := by rw [← Nat.add_mul]; congr 1; omega
            have e2 : ((cur.toList.take (off + xs.length * sz) ++ news ++ cur.toList.drop (off + xs.length * sz + news.length)).toArray.toList.drop (off + j * sz)).take sz = (news.drop ((j - xs.length) * sz)).take sz := by
              rw [List.toList_toArray, List.append_assoc]
              rw [List.drop_append, List.drop_eq_nil_of_le (by rw [List.length_take, Array.length_toList (xs := cur)]; omega), List.nil_append, List.length_take, Array.length_toList (xs := cur),
                show off + j * sz - min (off + xs.length * sz) cur.size = (j - xs.length) * sz by omega,
                List.drop_append_of_le_length (by omega), List.take_append_of_le_length (by rw [List.length_drop]; omega)]
            rw [e2]; exact this
  · -- a new row
    have holds : ∃ olds : List Value, olds.length = xs.length * sz ∧ (Builtin.firstCells i.size xs.length (.slice ac xs.length acap)).run P w.drew = .ok olds.toArray w.drew ∧ ∀ j x, xs[j]? = some x → R σ x ((olds.drop (j * sz)).take sz) := by
      by_cases hc0 : acap = 0
      · subst hc0
        have hx : xs = [] := List.eq_nil_of_length_eq_zero (by omega)
        subst hx
        refine ⟨[], by simp, ?_, by simp⟩
        cases ac with
        | none => exact run_firstCells_none w.drew i.size 0 0 0
        | some a' => exact run_firstCells_some w.drew i.size 0 a' 0 0 [] (by simp) (by intro _ _ h'; simp at h')
      · obtain ⟨g, off, cur, rfl, q1, q2, q3, q4, q5⟩ := c3 (by omega)
        have e1 : xs.length * sz ≤ acap * sz := Nat.mul_le_mul_right _ c1
        refine ⟨(cur.toList.drop off).take (xs.length * sz), by rw [List.length_take, List.length_drop, Array.length_toList (xs := cur)]; omega, ?_, fun j x hx => ?_⟩
        · refine run_firstCells_some w.drew i.size xs.length ⟨g, off, none⟩ xs.length acap _ (by rw [List.length_take, List.length_drop, Array.length_toList (xs := cur), hsz]; omega) (fun j u hu => ?_)
          rw [List.getElem?_take] at hu
          split at hu
          · rw [List.getElem?_drop] at hu
            have q3' : w.drew.heap[g]? = some (.cells cur e (0, 0)) := q3
            unfold World.cell?
            rw [R3, Xa, F5 rfl]
            simp only [q3']
            simpa using hu
          · cases hu
        · have hj : j < xs.length := (List.getElem?_eq_some_iff.1 hx).1
          have hh : j * sz + sz ≤ xs.length * sz := by rw [← Nat.succ_mul]; exact Nat.mul_le_mul_right _ hj
          have := q5 j x hx
          rw [List.drop_take, List.take_take, List.drop_drop, show min sz (xs.length * sz - j * sz) = sz by omega]
          exact this
    obtain ⟨olds, o1, o2, o3⟩ := holds
    have hg : acap < xs.length + ys.length := by omega
    have hrun := run_append_grow_src (P := P) w t t ty e i z ts.h hi hzero ac xs.length acap olds o2 (.slice a ys.length cap) ys.length news hsrc hg (by omega) (growslice_fits hg (by rw [hby]; exact hb))
    have hcm := grownCap_le_maxLen w (xs.length + ys.length) acap e (by simp only [maxLen]; omega)
    have hge := grownCap_ge w (xs.length + ys.length) acap e
    have hL : (olds ++ news).length = (xs.length + ys.length) * sz := by rw [List.length_append, o1, n2, Nat.add_mul]
    refine fin _ _ hrun ?_ ?_ (.inr ⟨(Below.refl _ _).drew.alloc (Nat.le_refl _) _, by intro k hk; cases hk; exact Nat.le_refl _⟩)
    · exact Kpt.of_below ((Below.refl _ _).drew.alloc (Nat.le_refl _) _)
    · refine ⟨_, _, by rw [List.length_append], by rw [List.length_append]; exact hge, hcm, by rintro _ ⟨⟩; exact ⟨rfl, hB, (Array.getElem?_eq_some_iff.1 (heap_alloc_new w.drew _)).1, hs.none (Nat.le_refl _)⟩, fun _ => ⟨w.heap.size, 0, _, rfl, hB, hs.none (Nat.le_refl _), heap_alloc_new w.drew _, ?_, fun j x hx => ?_⟩⟩
      · rw [Array.size_append, List.size_toArray, hL, size_zeroCells, hz1, ← Nat.add_mul]
        rw [Nat.zero_add]; exact Nat.mul_le_mul_right _ (by omega)
      · rw [Nat.zero_add, Array.toList_append]
        have hj : j < xs.length + ys.length := by have := (List.getElem?_eq_some_iff.1 hx).1; rwa [List.length_append] at this
        have hh : j * sz + sz ≤ (xs.length + ys.length) * sz := by rw [← Nat.succ_mul]; exact Nat.mul_le_mul_right _ hj
        rw [List.drop_append_of_le_length (by simp only [List.toList_toArray]; omega), List.take_append_of_le_length (by rw [List.length_drop]; simp only [List.toList_toArray]; omega)]
        simp only [List.toList_toArray]
        by_cases hjx : j < xs.length
        · rw [List.getElem?_append_left hjx] at hx
          rw [Oq olds news xs.length j o1 hjx]
          exact o3 j x hx
        · rw [List.getElem?_append_right (by omega)] at hx
          have := n5 _ _ hx
          rw [show j * sz = olds.length + (j - xs.length) * sz by rw [o1, ← Nat.add_mul]; congr 1; omega, List.drop_append]
          simpa [List.drop_eq_nil_of_le] using this
end
theorem Xu {b : Nat} (h : w1.heap.size ≤ b) (k : Stp w σ w1 σ1) : w.heap.size ≤ b := Nat.le_trans k.bel.size h
theorem Qw {t : TypeId} {sz by_ : Nat} {z : Value} [tz : TZ P t sz by_ z] (hs : X6 w σ) (h : ∀ b w' σ', w.heap.size ≤ b → Stp w σ w' σ' → V3 σ' w' b z.cells.toList → K (.pointer (some ⟨b, 0, none⟩)) w') : M5 P t w K :=
  Sb hs fun b w' hb hk hm => h b w' σ hb hk hm
theorem Q2p {t : TypeId} {cs : List Value} (hs : X6 w σ) (h : ∀ b w' σ', w.heap.size ≤ b → Stp w σ w' σ' → V3 σ' w' b cs → K (.pointer (some ⟨b, 0, none⟩)) w') : box P t (.agg cs.toArray) w K :=
  Q6w hs fun b w' hb hk hm => h b w' σ hb hk (by simpa [Value.cells] using hm)
theorem Qa {t : TypeId} {sz by_ : Nat} {z : Value} [tz : TZ P t sz by_ z] {b : Nat} {cs ds : List Value} (hm : V3 σ w b cs) (hS : Stp w0 σ0 w σ) (hb : w0.heap.size ≤ b) (hl : cs.length = sz) (hd : ds.length = sz) (h1 : ∀ u ∈ ds, u.oneCell' = true)
    (h : ∀ w', Hst w0 σ0 w' σ → V3 σ w' b ds → K undef w') : V7 P t (.pointer (some ⟨b, 0, none⟩)) (.agg ds.toArray) w K :=
  sta hm hl hd (by rw [List.all_toArray]; exact List.all_eq_true.2 h1) fun w' hu hm' => h w' ⟨hu.stp hS hb hm.1⟩ hm'
structure Nxt (D : Nat → Prop) (w : World) (σ : Q5) (w' : World) (σ' : Q5) : Prop where
  kp : Kpt D w w'
  le : SLe σ σ'
  old : ∀ k, k < w.heap.size → σ' k = σ k
  sat : X6 w' σ'
theorem Nxt.of_stp {D : Nat → Prop} (h : Stp w σ w' σ') : Nxt D w σ w' σ' := ⟨Kpt.of_below h.bel, ⟨h.le⟩, h.old, h.sat⟩
theorem Nxt.mono {D D' : Nat → Prop} (h : Nxt D w σ w' σ') (hd : ∀ k, k < w.heap.size → D k → D' k) : Nxt D' w σ w' σ' := ⟨h.kp.mono hd, h.le, h.old, h.sat⟩
theorem Nxt.trans {D : Nat → Prop} (h : Nxt D w σ w' σ') (k : Nxt D w' σ' w'' σ1) : Nxt D w σ w'' σ1 :=
  ⟨h.kp.trans k.kp, h.le.more k.le, fun i hi => (k.old i (Nat.lt_of_lt_of_le hi h.kp.size)).trans (h.old i hi), k.sat⟩
theorem V3.nx {D : Nat → Prop} {b : Nat} {cs : List Value} (h : V3 σ w b cs) (k : Nxt D w σ w' σ') (hd : ¬ D b) : V3 σ' w' b cs := by
  have hl := h.lt
  obtain ⟨h1, e, h2⟩ := h
  exact ⟨(k.old b hl).trans h1, e, (k.kp.block b hl hd).trans h2⟩
theorem N2.nx {D : Nat → Prop} {r : Nat} {m : List (List UInt8 × Value)} (h : N2 σ w r m) (k : Nxt D w σ w' σ') (hd : ¬ D r) : N2 σ' w' r m :=
  ⟨(k.old r h.lt).trans h.1, (k.kp.block r h.lt hd).symm ▸ h.2⟩
section
variable {α : Type} {R : Q5 → α → List Value → Prop} {B sz : Nat} {e : TypeId} {v u : Value} {xs : List α} {x : α}
theorem W7.nx [hr : Rep R] {D : Nat → Prop} (h : W7 B e sz R σ w v xs) (k : Nxt D w σ w' σ') (hd : ∀ k, v.ownBlock = some k → ¬ D k) : W7 B e sz R σ' w' v xs := by
  have h' := h.kp k.kp hd
  obtain ⟨cells, h1, h2, h3⟩ := h'
  refine ⟨cells, h1, fun i hi => (k.old i (h.mem i hi).2.1).trans (h2 i hi), fun i x hx => hr.up k.le.le (h3 i x hx)⟩
theorem L8.nx [hr : Rep R] {D : Nat → Prop} (h : L8 B e sz R σ w v xs) (k : Nxt D w σ w' σ') (hd : ∀ k, v.ownBlock = some k → ¬ D k) : L8 B e sz R σ' w' v xs := by
  obtain ⟨a, cap, rfl, h1, h2, hsp, h3⟩ := h
  refine ⟨a, cap, rfl, h1, h2, fun b hb => ⟨(hsp b hb).1, (hsp b hb).2.1, Nat.lt_of_lt_of_le (hsp b hb).2.2.1 k.kp.size, (k.old _ (hsp b hb).2.2.1).trans (hsp b hb).2.2.2⟩, fun hc => ?_⟩
  obtain ⟨g, off, cur, rfl, q1, q2, q3, q4, q5⟩ := h3 hc
  have hl := (Array.getElem?_eq_some_iff.1 q3).1
  exact ⟨g, off, cur, rfl, q1, (k.old g hl).trans q2, (k.kp.block g hl (hd g rfl)).trans q3, q4, fun i x hx => hr.up k.le.le (q5 i x hx)⟩
theorem Zy {t ty : TypeId} {by_ : Nat} {z : Value} {cs : List Bool} {A : Value → Value → World → Prop} [ts : TS P t e] [tz : TZ P e sz by_ z] [hr : Rep R] (hS : Stp w0 σ0 w σ) (ha : W7 w0.heap.size e sz R σ w v xs) (hu : R σ x u.cells.toList) (hc : u.cells.size = sz) (hz : (z.cells.size == sz && decide (0 < sz)) = true) (hz2 : (decide (0 < sz) && decide ([u].length * sz ≤ 16777216)) = true)
    (hb : (xs.length + 1) * by_ ≤ 140737488355328) (hm : xs.length + 1 ≤ 9223372036854775807)
    (h : ∀ s v' w' σ', Nxt (fun k => v.ownBlock = some k) w σ w' σ' → Stp w0 σ0 w' σ' → W7 w0.heap.size e sz R σ' w' v' (xs ++ [x]) → (v'.ownBlock = v.ownBlock ∨ ∀ k, v'.ownBlock = some k → w.heap.size ≤ k) → A s v' w') :
    buildSlice P t 1 [(0, u)] w (fun s w => X4 P .append [t, t] ty cs [v, s] w (fun v' w => A s v' w)) := by
  refine Vb hS.sat [u] [x] rfl rfl (by simpa using hc) hz2 ⟨hu, trivial⟩ fun s w1 σ1 hk hsl => ?_
  refine app (hS.trans hk) (ha.up hk) hsl hz (by simpa using hb) (by simpa using hm) fun v' w2 hg hS2 ha2 hat => ?_
  have hkp : Kpt (fun k => v.ownBlock = some k) w w2 := (Kpt.of_below hk.bel).trans (Kpt.of_grown hg fun k hk => hk)
  refine h s v' w2 σ1 ⟨hkp, ⟨hk.le⟩, hk.old, hS2.sat⟩ hS2 ha2 ?_
  rcases hat with hat | hat
  · exact .inl hat
  · exact .inr fun k hk' => Nat.le_trans hk.bel.size (hat k hk')
theorem Nk {t ty : TypeId} {by_ : Nat} {z : Value} {cs : List Bool} {ys : List α} [ts : TS P t e] [tz : TZ P e sz by_ z] [hr : Rep R] (hS : Stp w0 σ0 w σ) (ha : W7 w0.heap.size e sz R σ w v xs) (hu : Sl sz R σ u ys) (hz : (z.cells.size == sz && decide (0 < sz)) = true)
    (hb : (xs.length + ys.length) * by_ ≤ 140737488355328) (hm : xs.length + ys.length ≤ 9223372036854775807)
    (h : ∀ v' w', Nxt (fun k => v.ownBlock = some k) w σ w' σ → Stp w0 σ0 w' σ → W7 w0.heap.size e sz R σ w' v' (xs ++ ys) → (v'.ownBlock = v.ownBlock ∨ ∀ k, v'.ownBlock = some k → w.heap.size ≤ k) → K v' w') : X4 P .append [t, t] ty cs [v, u] w K :=
  app hS ha hu hz hb hm fun v' w2 hg hS2 ha2 hat => h v' w2 ⟨Kpt.of_grown hg fun k hk => hk, SLe.refl _, fun _ _ => rfl, hS2.sat⟩ hS2 ha2 hat
end
section
variable {α : Type} {R : Q5 → α → List Value → Prop} {B sz : Nat} {e : TypeId} {v u : Value} {xs : List α} {x : α}
theorem L8.mono {B' : Nat} (h : L8 B e sz R σ w v xs) (hb : B' ≤ B) : L8 B' e sz R σ w v xs := by
  obtain ⟨a, cap, rfl, h1, h2, hsp, h3⟩ := h
  refine ⟨a, cap, rfl, h1, h2, fun b hb' => ⟨(hsp b hb').1, Nat.le_trans hb (hsp b hb').2.1, (hsp b hb').2.2⟩, fun hc => ?_⟩
  obtain ⟨g, off, cur, rfl, q1, q⟩ := h3 hc
  exact ⟨g, off, cur, rfl, Nat.le_trans hb q1, q⟩
theorem L8.own (h : L8 B e sz R σ w v xs) {k : Nat} (hv : v.ownBlock = some k) : B ≤ k := (h.mem hv).1
theorem L8.keep [hr : Rep R] (h : L8 w0.heap.size e sz R σ w v xs) (hS : Stp w0 σ0 w σ) : ∃ σ', Stp w0 σ0 w σ' ∧ Sl sz R σ' v xs ∧ SLe σ σ' ∧ (∀ k, some k ≠ v.ownBlock → σ' k = σ k) := by
  obtain ⟨a, cap, rfl, h1, h2, hsp, h3⟩ := h
  by_cases hc : cap = 0
  · have hx : xs = [] := List.eq_nil_of_length_eq_zero (by omega)
    subst hc hx
    exact ⟨σ, hS, ⟨a, 0, rfl, by simp, by simp, fun _ => rfl, fun b hb => ⟨fun _ => (hsp b hb).1, by simp⟩⟩, SLe.refl _, fun _ _ => rfl⟩
  · obtain ⟨g, off, cur, rfl, q1, q2, q3, q4, q5⟩ := h3 (by omega)
    have hle' := Q5.put_le hS.sat q2 (.cells cur e (0, 0))
    refine ⟨σ.put g (.cells cur e (0, 0)), hS.put q2 q1 q3, ⟨_, cap, rfl, h1, h2, by simp, ?_⟩, ⟨hle'⟩, ?_⟩
    · rintro _ ⟨⟩
      refine ⟨fun _ => rfl, fun i x hx => ⟨(cur.toList.drop (off + i * sz)).take sz, ⟨F5 rfl _, cur, e, (0, 0), by rw [R3]; simp [Q5.put], ?_⟩, ?_, hr.up hle' (q5 i x hx)⟩⟩
      · intro j u hu
        rw [Xa]
        rw [List.getElem?_take] at hu
        split at hu
        · rw [List.getElem?_drop] at hu; simpa using hu
        · cases hu
      · have hi : i < xs.length := (List.getElem?_eq_some_iff.1 hx).1
        have h : i * sz + sz ≤ cap * sz := by rw [← Nat.succ_mul]; exact Nat.mul_le_mul_right _ (by omega)
        rw [List.length_take, List.length_drop, Array.length_toList (xs := cur)]; omega
    · intro k hk
      have : k ≠ g := by intro e; subst e; exact hk rfl
      simp only [Q5.put, if_neg this]
theorem Q7j {t t' : TypeId} {by_ : Nat} {z : Value} {A : Value → Value → World → Prop} {ds : List Value} [ts : TS P t e] [tz : TZ P e sz by_ z] {by' : Nat} {z' : Value} [tz' : TZ P t' sz by' z'] (hS : Stp w0 σ0 w σ) (ha : L8 w0.heap.size e sz R σ w v xs) {n : Nat} (hn : n < xs.length) (hd : ds.length = sz) (hx : R σ x ds) (h1 : ∀ u ∈ ds, u.oneCell' = true)
    (h : ∀ p u w', Kpt (fun k => v.ownBlock = some k) w w' → Hst w0 σ0 w' σ → L8 w0.heap.size e sz R σ w' v (xs.set n x) → A p u w') :
    indexAddr P t v (I n) w (fun p w => V7 P t' p (.agg ds.toArray) w (fun u w => A p u w)) := by
  obtain ⟨a, cap, rfl, c1, c2, hsp, c3⟩ := ha
  obtain ⟨g, off, cur, rfl, q1, q2, q3, q4, q5⟩ := c3 (by omega)
  rw [Rk (by omega) (by omega)]
  have hh : n * sz + sz ≤ cap * sz := by rw [← Nat.succ_mul]; exact Nat.mul_le_mul_right _ (by omega)
  have hadd : (⟨g, off, none⟩ : Addr).add ((n : Int).toNat * sz) = ⟨g, off + n * sz, none⟩ := by unfold Addr.add; split <;> simp_all
  rw [hadd]
  have hst := run_storeCells_at P g (off + n * sz) e ds 0 cur w q3 (by omega) h1
  simp only [Nat.add_zero] at hst
  obtain ⟨hu1, hu2⟩ := Nj (cs := (cur.toList.take (off + n * sz) ++ ds ++ cur.toList.drop (off + n * sz + ds.length)).toArray) q3
  unfold V7
  rw [Lp (w' := w.setRow g (cur.toList.take (off + n * sz) ++ ds ++ cur.toList.drop (off + n * sz + ds.length)).toArray) (by
    simp [Instr.storeAt, Instr.sureAddr, storeVar, M0 tz', Value.cells, hd]
    simpa [hd] using hst)]
  have hk : Kpt (fun k => (Value.slice (some ⟨g, off, none⟩) xs.length cap).ownBlock = some k) w (w.setRow g (cur.toList.take (off + n * sz) ++ ds ++ cur.toList.drop (off + n * sz + ds.length)).toArray) := Kpt.of_upd hu1 rfl
  refine h _ _ _ hk ⟨hu1.stp hS q1 q2⟩ ⟨_, cap, by rw [List.length_set], by rw [List.length_set]; exact c1, c2, fun b hb => ⟨(hsp b hb).1, (hsp b hb).2.1, by rw [hu1.size]; exact (hsp b hb).2.2.1, (hsp b hb).2.2.2⟩, fun _ => ⟨g, off, _, rfl, q1, q2, hu2, ?_, fun j y hy => ?_⟩⟩
  · simp; omega
  · rw [List.toList_toArray]
    have hcl := Array.length_toList (xs := cur)
    have hjl : j < xs.length := by have := (List.getElem?_eq_some_iff.1 hy).1; simpa using this
    have hj2 : j * sz + sz ≤ cap * sz := by rw [← Nat.succ_mul]; exact Nat.mul_le_mul_right _ (by omega)
    by_cases hj : j = n
    · subst hj
      rw [List.getElem?_set_self hjl] at hy
      cases hy
      rw [List.append_assoc, List.drop_append, List.drop_eq_nil_of_le (by rw [List.length_take]; omega), List.nil_append, List.length_take, show off + j * sz - min (off + j * sz) cur.toList.length = 0 by omega, List.drop_zero, List.take_append_of_le_length (by omega), List.take_of_length_le (by omega)]
      exact hx
    · rw [List.getElem?_set_ne (by omega)] at hy
      have := q5 j y hy
      rcases Nat.lt_or_gt_of_ne hj with hlt | hgt
      · have hh3 : j * sz + sz ≤ n * sz := by rw [← Nat.succ_mul]; exact Nat.mul_le_mul_right _ hlt
        rw [List.append_assoc, List.drop_append_of_le_length (by rw [List.length_take]; omega), List.take_append_of_le_length (by rw [List.length_drop, List.length_take]; omega), List.drop_take, List.take_take]
        rwa [show min sz (off + n * sz - (off + j * sz)) = sz by omega]
      · have hh3 : n * sz + sz ≤ j * sz := by rw [← Nat.succ_mul]; exact Nat.mul_le_mul_right _ hgt
        rw [List.drop_append, List.drop_eq_nil_of_le (by rw [List.length_append, List.length_take]; omega), List.nil_append, List.length_append, List.length_take, List.drop_drop, hd]
        rwa [show off + n * sz + sz + (off + j * sz - (min (off + n * sz) cur.toList.length + sz)) = off + j * sz by omega]
end
theorem Q2o (p : Nat → Prop) : ∀ n, p n → ∃ m, p m ∧ ∀ k, p k → m ≤ k := by
  intro n
  induction n using Nat.strongRecOn with
  | _ n ih =>
    intro h
    by_cases hk : ∃ k, k < n ∧ p k
    · obtain ⟨k, h1, h2⟩ := hk; exact ih k h1 h2
    · exact ⟨n, h, fun k hp => Nat.le_of_not_lt fun hlt => hk ⟨k, hlt, hp⟩⟩
noncomputable def Pk (p : Nat → Prop) : Nat := open Classical in if h : ∃ m, p m ∧ ∀ k, p k → m ≤ k then Classical.choose h else 0
theorem Il {p : Nat → Prop} {n : Nat} (h : p n) : p (Pk p) ∧ Pk p ≤ n := by
  have he := Q2o p n h
  unfold Pk
  rw [dif_pos he]
  exact ⟨(Classical.choose_spec he).1, (Classical.choose_spec he).2 n h⟩
theorem Cq {α : Type} {x0 : α} {A : (α → World → Prop) → α → (Nat → Value) → World → Prop} (I : Nat → α → World → Prop) (n : Nat) (h0 : I n x0 w)
    (hr : ∀ again n x d w, I n x w → (∀ n' x' w', n' < n → I n' x' w' → again x' w') → A again x d w) : lp x0 w A := by
  refine Jh (fun x w => ∃ n, I n x w) (fun x w => Pk fun n => I n x w) ⟨n, h0⟩ ?_
  rintro x d w ⟨n, hn⟩
  obtain ⟨h1, h2⟩ := Il (p := fun n => I n x w) hn
  refine hr _ _ x d w h1 fun n' x' w' hlt h' => ⟨⟨n', h'⟩, ?_⟩
  exact Nat.lt_of_le_of_lt (Il (p := fun n => I n x' w') h').2 hlt
section
variable {α : Type} {R : Q5 → α → List Value → Prop} {B sz : Nat} {e : TypeId} {v u : Value} {xs ys : List α} {x : α}
theorem L8.below (h : L8 B e sz R σ w v xs) (hb : Below w.heap.size w w') : L8 B e sz R σ w' v xs := h.kp (D := fun _ => False) (.of_below hb) fun _ _ => id
theorem L8.pre {a : Option Addr} {n m cap : Nat} (h : L8 B e sz R σ w (.slice a m cap) (xs ++ ys)) (hn : n = xs.length) : L8 B e sz R σ w (.slice a n cap) xs := by
  obtain ⟨a', cap', he, h1, h2, hsp, h3⟩ := h
  injection he with e1 e2 e3
  subst e1 e3 hn
  rw [List.length_append] at h1
  refine ⟨a, cap, rfl, by omega, h2, hsp, fun hc => ?_⟩
  obtain ⟨g, off, cur, q0, q1, q2, q3, q4, q5⟩ := h3 hc
  exact ⟨g, off, cur, q0, q1, q2, q3, q4, fun i x hx => q5 i x (by rw [List.getElem?_append_left (List.getElem?_eq_some_iff.1 hx).1]; exact hx)⟩
def Hr (B : Nat) (e : TypeId) (sz : Nat) (R : Q5 → α → List Value → Prop) (σ : Q5) (v : Value) (xs : List α) (x : α) (w1 w2 : World) : Prop :=
  Kpt (fun k => v.ownBlock = some k) w1 w2 ∧ (L8 B e sz R σ w1 v xs → L8 B e sz R σ w2 v xs) ∧
    ∀ a cap, v = .slice a xs.length cap → L8 B e sz R σ w1 (.slice a (xs.length + 1) cap) (xs ++ [x]) → L8 B e sz R σ w2 (.slice a (xs.length + 1) cap) (xs ++ [x])
theorem Hr.below (hb : Below w.heap.size w w') : Hr B e sz R σ v xs x w w' := ⟨.of_below hb, fun h => h.below hb, fun _ _ _ h => h.below hb⟩
theorem Hr.refl : Hr B e sz R σ v xs x w w := Hr.below (Below.refl _ _)
def VQa (N B : Nat) (e : TypeId) (sz : Nat) (R : Q5 → α → List Value → Prop) (σ : Q5) (v : Value) (xs : List α) (x : α) (v' : Value) (w : World) : Prop :=
  L8 B e sz R σ w v' (xs ++ [x]) ∧ ((∃ a cap, v = .slice a xs.length cap ∧ v' = .slice a (xs.length + 1) cap) ∨ ((∀ k, v'.ownBlock = some k → N ≤ k) ∧ ∀ k, v.ownBlock = some k → k < N))
theorem VQa.stable {N : Nat} {v' : Value} (h : VQa N B e sz R σ v xs x v' w) (ht : Hr B e sz R σ v xs x w w') : VQa N B e sz R σ v xs x v' w' := by
  obtain ⟨h1, h2⟩ := h
  refine ⟨?_, h2⟩
  rcases h2 with ⟨a, cap, h3, rfl⟩ | ⟨h2, h3⟩
  · exact ht.2.2 a cap h3 h1
  · exact h1.kp ht.1 fun k hk hk' => by have := h2 k hk; have := h3 k hk'; omega
theorem Kpt.more {D E : Nat → Prop} (h : Kpt D w w') (k : Kpt E w' w'') (hE : ∀ j, E j → w.heap.size ≤ j) : Kpt D w w'' :=
  ⟨k.os.trans h.os, k.tape.trans h.tape, k.output.trans h.output, Nat.le_trans h.size k.size, fun i hi hd => (k.block i (Nat.lt_of_lt_of_le hi h.size) fun e => by have := hE i e; omega).trans (h.block i hi hd)⟩
end
end Go.Emb

namespace Go.Hm
open Go.Kd
theorem V8 {l : List Cla} {n : X0} {c : Cla} (h : lk l n = some c) : c.name = n ∧ c ∈ l ∧ ∃ i, Y5 l n = some i ∧ l[i]? = some c := by
  unfold lk at h
  cases hf : Y5 l n with
  | none => rw [hf] at h; cases h
  | some i =>
    rw [hf] at h
    obtain ⟨hi, hp, _⟩ := List.findIdx?_eq_some_iff_getElem.1 hf
    have h' : l[i]? = some c := h
    rw [List.getElem?_eq_getElem hi] at h'
    cases h'
    exact ⟨by simpa using hp, List.getElem_mem hi, i, rfl, List.getElem?_eq_getElem hi⟩
theorem Yx {l : List Cla} {n : X0} {i : Nat} (h : Y5 l n = some i) : ∃ c, lk l n = some c ∧ l[i]? = some c ∧ c.name = n := by
  obtain ⟨hi, hp, _⟩ := List.findIdx?_eq_some_iff_getElem.1 h
  refine ⟨l[i], ?_, List.getElem?_eq_getElem hi, by simpa using hp⟩
  unfold lk; rw [h]; simp [hi]
theorem Re {l : List Cla} {n : X0} : hasM l n = (lk l n).isSome := by
  unfold hasM
  cases hf : Y5 l n with
  | none => simp [lk, hf]
  | some i => obtain ⟨c, h, _⟩ := Yx hf; simp [h]
theorem Q5z {l : List Cla} {c : Cla} (h : c ∈ l) : ∃ d, lk l c.name = some d := by
  cases hf : Y5 l c.name with
  | none =>
    have := List.findIdx?_eq_none_iff.1 hf c h
    simp at this
  | some i => obtain ⟨d, h, _⟩ := Yx hf; exact ⟨d, h⟩
inductive Reach (L : Xf) : X0 → X0 → Prop
  | refl {a : X0} {c : Cla} : L a = some c → Reach L a a
  | step {a u b : X0} {c : Cla} : L a = some c → u ∈ U8 c → Reach L u b → Reach L a b
theorem Reach.trans {L : Xf} {a b d : X0} (h : Reach L a b) (k : Reach L b d) : Reach L a d := by
  induction h with
  | refl _ => exact k
  | step h1 h2 _ ih => exact .step h1 h2 (ih k)
theorem Reach.right {L : Xf} {a b : X0} (h : Reach L a b) : ∃ c, L b = some c := by
  induction h with
  | refl h => exact ⟨_, h⟩
  | step _ _ _ ih => exact ih
theorem Reach.left {L : Xf} {a b : X0} (h : Reach L a b) : ∃ c, L a = some c := by
  cases h with
  | refl h => exact ⟨_, h⟩
  | step h _ _ => exact ⟨_, h⟩
theorem Reach.snoc {L : Xf} {a b u : X0} {c d : Cla} (h : Reach L a b) (hb : L b = some c) (hu : u ∈ U8 c) (hd : L u = some d) : Reach L a u :=
  h.trans (.step hb hu (.refl hd))
theorem Pp (L : Xf) : ∀ (f : Nat) (todo seen : List X0), ∃ r, Zf L f todo seen = seen ++ r := by
  intro f
  induction f with
  | zero => intro todo seen; exact ⟨[], by simp [Zf]⟩
  | succ f ih =>
    intro todo seen
    cases todo with
    | nil => exact ⟨[], by simp [Zf]⟩
    | cons n todo =>
      simp only [Zf]
      split
      · exact ih _ _
      · split
        · exact ih _ _
        · obtain ⟨r, hr⟩ := ih (todo ++ U8 ‹_›) (seen ++ [n])
          exact ⟨n :: r, by rw [hr]; simp⟩
theorem Q5y (L : Xf) : ∀ (f : Nat) (todo seen : List X0) (x : X0), x ∈ Zf L f todo seen → x ∈ seen ∨ ∃ t ∈ todo, Reach L t x := by
  intro f
  induction f with
  | zero => intro todo seen x h; exact .inl h
  | succ f ih =>
    intro todo seen x h
    cases todo with
    | nil => exact .inl h
    | cons n todo =>
      simp only [Zf] at h
      split at h
      · rcases ih _ _ _ h with h | ⟨t, ht, h⟩
        · exact .inl h
        · exact .inr ⟨t, by simp [ht], h⟩
      · rename_i c hc
        split at h
        · rcases ih _ _ _ h with h | ⟨t, ht, h⟩
          · exact .inl h
          · exact .inr ⟨t, by simp [ht], h⟩
        · rcases ih _ _ _ h with h | ⟨t, ht, h⟩
          · rcases List.mem_append.1 h with h | h
            · exact .inl h
            · simp at h; subst h; exact .inr ⟨x, by simp, .refl hc⟩
          · rcases List.mem_append.1 ht with ht | ht
            · exact .inr ⟨t, by simp [ht], h⟩
            · exact .inr ⟨n, by simp, .step hc ht h⟩
theorem Q6A (l : List Cla) (seen seen' : List X0) (h : ∀ x ∈ seen, x ∈ seen') : weigh l seen' ≤ weigh l seen := by
  unfold weigh
  induction l with
  | nil => simp
  | cons c r ih =>
    simp only [List.map_cons, List.sum_cons]
    by_cases h1 : c.name ∈ seen
    · rw [if_pos h1, if_pos (h _ h1)]; omega
    · rw [if_neg h1]; split <;> omega
theorem Cz (l : List Cla) (seen : List X0) (c : Cla) (hc : c ∈ l) (hn : c.name ∉ seen) : weigh l (seen ++ [c.name]) + (U8 c).length ≤ weigh l seen := by
  unfold weigh
  induction l with
  | nil => simp at hc
  | cons d r ih =>
    simp only [List.map_cons, List.sum_cons]
    have hle : weigh r (seen ++ [c.name]) ≤ weigh r seen := Q6A _ _ _ (by simp; intro x hx; exact .inl hx)
    unfold weigh at hle
    rcases List.mem_cons.1 hc with rfl | hc
    · rw [if_pos (by simp), if_neg hn]; omega
    · have := ih hc
      by_cases h1 : d.name ∈ seen
      · rw [if_pos (by simp [h1]), if_pos h1]; omega
      · rw [if_neg h1]; split <;> omega
theorem Q70 (l : List Cla) : ∀ (f : Nat) (todo seen : List X0), todo.length + weigh l seen ≤ f →
    (∀ x ∈ seen, ∀ c, lk l x = some c → ∀ u ∈ U8 c, ∀ d, lk l u = some d → u ∈ seen ∨ u ∈ todo) →
    (∀ t ∈ todo, ∀ d, lk l t = some d → t ∈ Zf (lk l) f todo seen) ∧ ∀ x ∈ Zf (lk l) f todo seen, ∀ c, lk l x = some c → ∀ u ∈ U8 c, ∀ d, lk l u = some d → u ∈ Zf (lk l) f todo seen := by
  intro f
  induction f with
  | zero =>
    intro todo seen hf hs
    have : todo = [] := List.eq_nil_of_length_eq_zero (by omega)
    subst this
    refine ⟨by simp, fun x hx c hc u hu d hd => ?_⟩
    rcases hs x hx c hc u hu d hd with h | h
    · exact h
    · simp at h
  | succ f ih =>
    intro todo seen hf hs
    cases todo with
    | nil =>
      refine ⟨by simp, fun x hx c hc u hu d hd => ?_⟩
      rcases hs x hx c hc u hu d hd with h | h
      · exact h
      · simp at h
    | cons n todo =>
      simp only [List.length_cons] at hf
      simp only [Zf]
      split
      · rename_i hn
        obtain ⟨h1, h2⟩ := ih todo seen (by omega) (fun x hx c hc u hu d hd => by
          rcases hs x hx c hc u hu d hd with h | h
          · exact .inl h
          · rcases List.mem_cons.1 h with rfl | h
            · rw [hn] at hd; cases hd
            · exact .inr h)
        refine ⟨fun t ht d hd => ?_, h2⟩
        rcases List.mem_cons.1 ht with rfl | ht
        · rw [hn] at hd; cases hd
        · exact h1 t ht d hd
      · rename_i c hc
        split
        · rename_i hin
          obtain ⟨r, hr⟩ := Pp (lk l) f todo seen
          obtain ⟨h1, h2⟩ := ih todo seen (by omega) (fun x hx c hc u hu d hd => by
            rcases hs x hx c hc u hu d hd with h | h
            · exact .inl h
            · rcases List.mem_cons.1 h with rfl | h
              · exact .inl hin
              · exact .inr h)
          refine ⟨fun t ht d hd => ?_, h2⟩
          rcases List.mem_cons.1 ht with rfl | ht
          · rw [hr]; simp [hin]
          · exact h1 t ht d hd
        · rename_i hin
          obtain ⟨e, hm, _⟩ := V8 hc
          have hw := Cz l seen c hm (by rw [e]; exact hin)
          rw [e] at hw
          obtain ⟨h1, h2⟩ := ih (todo ++ U8 c) (seen ++ [n]) (by rw [List.length_append]; omega) (fun x hx c' hc' u hu d hd => by
            rcases List.mem_append.1 hx with hx | hx
            · rcases hs x hx c' hc' u hu d hd with h | h
              · exact .inl (by simp [h])
              · rcases List.mem_cons.1 h with rfl | h
                · exact .inl (by simp)
                · exact .inr (by simp [h])
            · simp at hx; subst hx
              rw [hc] at hc'; cases hc'
              exact .inr (by simp [hu]))
          refine ⟨fun t ht d hd => ?_, h2⟩
          rcases List.mem_cons.1 ht with rfl | ht
          · obtain ⟨r, hr⟩ := Pp (lk l) f (todo ++ U8 c) (seen ++ [t])
            rw [hr]; simp
          · exact h1 t (by simp [ht]) d hd
theorem Yz {l : List Cla} {a b : X0} : b ∈ visits l a ↔ Reach (lk l) a b := by
  obtain ⟨h1, h2⟩ := Q70 l (1 + weigh l []) [a] [] (by simp) (by simp)
  constructor
  · intro h
    rcases Q5y _ _ _ _ _ h with h | ⟨t, ht, h'⟩
    · simp at h
    · simp at ht; subst ht; exact h'
  · intro h
    have key : ∀ {x y : X0}, Reach (lk l) x y → x ∈ visits l a → y ∈ visits l a := by
      intro x y h
      induction h with
      | refl _ => exact id
      | step hc hu hr ih =>
        intro hx
        obtain ⟨d, hd⟩ := hr.left
        exact ih (h2 _ hx _ hc _ hu _ hd)
    obtain ⟨d, hd⟩ := h.left
    exact key h (h1 a (by simp) d hd)
theorem Q6P (l : List Cla) : ∀ (f : Nat) (todo seen : List X0), todo.length + weigh l seen ≤ f → ∀ k, Zf (lk l) (f + k) todo seen = Zf (lk l) f todo seen := by
  intro f
  induction f with
  | zero =>
    intro todo seen hf k
    have : todo = [] := List.eq_nil_of_length_eq_zero (by omega)
    subst this
    cases k <;> rfl
  | succ f ih =>
    intro todo seen hf k
    cases todo with
    | nil => rw [Nat.succ_add]; rfl
    | cons n todo =>
      simp only [List.length_cons] at hf
      rw [Nat.succ_add]
      simp only [Zf]
      split
      · exact ih _ _ (by omega) k
      · rename_i c hc
        split
        · exact ih _ _ (by omega) k
        · rename_i hin
          obtain ⟨e, hm, _⟩ := V8 hc
          have hw := Cz l seen c hm (by rw [e]; exact hin)
          rw [e] at hw
          exact ih _ _ (by rw [List.length_append]; omega) k
end Go.Hm

namespace Go.Hm
open Go.Kd
def Yo (L : Xf) (a b : X0) : Prop := ∃ c, L a = some c ∧ ∃ u ∈ U8 c, Reach L u b
def Qk (l : List Cla) : Prop := ∀ a, ¬ Yo (lk l) a a
theorem Yo.reach {L : Xf} {a b : X0} (h : Yo L a b) : Reach L a b := by
  obtain ⟨c, hc, u, hu, hr⟩ := h; exact .step hc hu hr
theorem Yo.trans {L : Xf} {a b d : X0} (h : Yo L a b) (k : Reach L b d) : Yo L a d := by
  obtain ⟨c, hc, u, hu, hr⟩ := h; exact ⟨c, hc, u, hu, hr.trans k⟩
theorem Reach.over {L : Xf} {a b d : X0} (h : Reach L a b) (k : Yo L b d) : Yo L a d := by
  cases h with
  | refl _ => exact k
  | step h1 h2 h3 => exact ⟨_, h1, _, h2, h3.trans k.reach⟩
theorem Q1s {L : Xf} {a b : X0} : Reach L a b ↔ (a = b ∧ (∃ c, L a = some c)) ∨ Yo L a b := by
  constructor
  · intro h
    cases h with
    | refl h => exact .inl ⟨rfl, _, h⟩
    | step h1 h2 h3 => exact .inr ⟨_, h1, _, h2, h3⟩
  · rintro (⟨rfl, c, h⟩ | h)
    · exact .refl h
    · exact h.reach
def Yy (l : List Cla) (a b : X0) : Bool := match lk l a with
  | none => false
  | some c => (U8 c).any fun u => (visits l u).contains b
theorem Uc {l : List Cla} {a b : X0} : Yy l a b = true ↔ Yo (lk l) a b := by
  unfold Yy Yo
  cases h : lk l a with
  | none => simp
  | some c =>
    simp only [List.any_eq_true, List.contains_iff_mem, Yz]
    constructor
    · rintro ⟨u, hu, hr⟩; exact ⟨c, rfl, u, hu, hr⟩
    · rintro ⟨_, ⟨⟩, u, hu, hr⟩; exact ⟨u, hu, hr⟩
def R6 (l : List Cla) (n : X0) : Nat := l.countP fun m => Yy l n m.name
theorem Hw (l : List Cla) (n : X0) : R6 l n ≤ l.length := List.countP_le_length
theorem Q1B {α : Type} {p q : α → Bool} : ∀ {l : List α}, (∀ x ∈ l, p x = true → q x = true) → (∃ x ∈ l, q x = true ∧ p x = false) → l.countP p < l.countP q := by
  intro l
  induction l with
  | nil => rintro _ ⟨x, hx, _⟩; simp at hx
  | cons a r ih =>
    rintro h ⟨x, hx, hq, hp⟩
    have hle : r.countP p ≤ r.countP q := List.countP_mono_left fun x hx => h x (by simp [hx])
    rw [List.countP_cons, List.countP_cons]
    rcases List.mem_cons.1 hx with rfl | hx
    · rw [hq, hp]; simp; omega
    · have := ih (fun x hx => h x (by simp [hx])) ⟨x, hx, hq, hp⟩
      have ha := h a (by simp)
      cases hpa : p a
      · simp; split <;> omega
      · rw [ha hpa]; simp; omega
theorem Q8g {l : List Cla} (ha : Qk l) {a b : X0} (h : Yo (lk l) a b) : R6 l b < R6 l a := by
  unfold R6
  refine Q1B (fun x _ hx => ?_) ?_
  · rw [Uc] at *
    exact h.trans hx.reach
  · obtain ⟨d, hd⟩ := (Reach.right (h.reach))
    obtain ⟨e, hm, _⟩ := V8 hd
    refine ⟨d, hm, ?_, ?_⟩
    · rw [Uc, e]; exact h
    · cases hb : Yy l b d.name with
      | false => rfl
      | true => rw [Uc, e] at hb; exact absurd hb (ha b)
theorem G5 {l : List Cla} (ha : Qk l) {a u : X0} {c d : Cla} (hc : lk l a = some c) (hu : u ∈ U8 c) (hd : lk l u = some d) : R6 l u < R6 l a :=
  Q8g ha ⟨c, hc, u, hu, .refl hd⟩
theorem Q40 {l : List Cla} (ha : Qk l) : ∀ (f g : Nat) (n : X0), R6 l n < f → R6 l n < g → S1 (lk l) f n = S1 (lk l) g n := by
  intro f
  induction f with
  | zero => intro g n h; omega
  | succ f ih =>
    intro g n hf hg
    obtain ⟨g, rfl⟩ : ∃ m, g = m + 1 := ⟨g - 1, by omega⟩
    simp only [S1]
    cases hc : lk l n with
    | none => rfl
    | some c =>
      simp only
      congr 1
      cases hd : lk l c.super with
      | none => cases f <;> cases g <;> simp [S1, hd]
      | some d =>
        have := G5 ha hc (by simp [U8]) hd
        exact ih g c.super (by omega) (by omega)
theorem B9 {l : List Cla} (ha : Qk l) (n : X0) : chain l n = match lk l n with | none => [] | some c => c :: chain l c.super := by
  have := Hw l n
  unfold chain
  rw [S1]
  cases hc : lk l n with
  | none => rfl
  | some c =>
    simp only
    congr 1
    cases hd : lk l c.super with
    | none => cases l.length <;> simp [S1, hd]
    | some d =>
      have := G5 ha hc (by simp [U8]) hd
      exact Q40 ha _ _ _ (by omega) (by omega)
theorem Qe {l : List Cla} {n : X0} (h : lk l n = none) : chain l n = [] := by simp [chain, S1, h]
theorem Lo {α β : Type} {f g : α → Option β} : ∀ {l : List α}, (∀ x ∈ l, f x = g x) → l.findSome? f = l.findSome? g
  | [], _ => rfl
  | a :: r, h => by
    rw [List.findSome?_cons, List.findSome?_cons, h a (by simp), Lo fun x hx => h x (by simp [hx])]
theorem Q3J {l : List Cla} (ha : Qk l) (n : X0) : ∀ (f g : Nat) (c : Cla), lk l c.name = some c → R6 l c.name < f → R6 l c.name < g → Nz (lk l) f c n = Nz (lk l) g c n := by
  intro f
  induction f with
  | zero => intro g c _ h; omega
  | succ f ih =>
    intro g c hc hf hg
    obtain ⟨g, rfl⟩ : ∃ m, g = m + 1 := ⟨g - 1, by omega⟩
    simp only [Nz]
    refine Lo fun u hu => ?_
    cases hd : lk l u with
    | none => rfl
    | some d =>
      simp only
      cases H4 d n with
      | some m => rfl
      | none =>
        simp only
        have := G5 ha hc (by simp [U8, hu]) hd
        have e := (V8 hd).1
        exact ih g d (by rw [e]; exact hd) (by rw [e]; omega) (by rw [e]; omega)
def V6 (l : List Cla) (c : Cla) (n : X0) : Option (X0 × Hm.Met) := Nz (lk l) (l.length + 1) c n
theorem Q1r {l : List Cla} (ha : Qk l) {c : Cla} (hc : lk l c.name = some c) (n : X0) : V6 l c n = c.like.findSome? fun u => match lk l u with
    | none => none
    | some d => match H4 d n with
      | some m => some (u, m)
      | none => V6 l d n := by
  have := Hw l c.name
  unfold V6
  rw [Nz]
  refine Lo fun u hu => ?_
  cases hd : lk l u with
  | none => rfl
  | some d =>
    simp only
    cases H4 d n with
    | some m => rfl
    | none =>
      have := G5 ha hc (by simp [U8, hu]) hd
      have e := (V8 hd).1
      exact Q3J ha n _ _ d (by rw [e]; exact hd) (by rw [e]; omega) (by rw [e]; omega)
theorem Q3q {l : List Cla} (ha : Qk l) : ∀ (f g : Nat) (n : X0), R6 l n < f → R6 l n < g → B0 (lk l) f n = B0 (lk l) g n := by
  intro f
  induction f with
  | zero => intro g n h; omega
  | succ f ih =>
    intro g n hf hg
    obtain ⟨g, rfl⟩ : ∃ m, g = m + 1 := ⟨g - 1, by omega⟩
    simp only [B0]
    cases hc : lk l n with
    | none => rfl
    | some c =>
      simp only
      have : B0 (lk l) f c.super = B0 (lk l) g c.super := by
        cases hd : lk l c.super with
        | none => cases f <;> cases g <;> simp [B0, hd]
        | some d =>
          have := G5 ha hc (by simp [U8]) hd
          exact ih g c.super (by omega) (by omega)
      rw [this]
theorem Q6b {l : List Cla} (ha : Qk l) (n : X0) : printM l n = match lk l n with
    | none => []
    | some c => if n = U4 then [] else n ++ [40] ++ printM l c.super ++ [41] ++ c.fields.flatMap B6 ++ [46] := by
  have := Hw l n
  unfold printM
  rw [B0]
  cases hc : lk l n with
  | none => rfl
  | some c =>
    simp only
    have : B0 (lk l) l.length c.super = B0 (lk l) (l.length + 1) c.super := by
      cases hd : lk l c.super with
      | none => cases l.length <;> simp [B0, hd]
      | some d =>
        have := G5 ha hc (by simp [U8]) hd
        exact Q3q ha _ _ _ (by omega) (by omega)
    rw [this]
theorem Tb {l : List Cla} {n : X0} (h : lk l n = none) : printM l n = [] := by simp [printM, B0, h]
def B3 (l : List Cla) : Prop := (l.map (·.name)).Nodup
theorem B3.lk {l : List Cla} (h : B3 l) {c : Cla} (hc : c ∈ l) : Go.Hm.lk l c.name = some c := by
  obtain ⟨d, hd⟩ := Q5z hc
  obtain ⟨e, hm, i, hi, hd'⟩ := V8 hd
  obtain ⟨j, hj, rfl⟩ := List.getElem_of_mem hc
  obtain ⟨hil, he⟩ := List.getElem?_eq_some_iff.1 hd'
  have : i = j := by
    have h1 : (l.map (·.name))[i]'(by simpa using hil) = (l.map (·.name))[j]'(by simpa using hj) := by simp [he, e]
    exact (List.getElem_inj h).1 h1
  subst this
  rw [hd, ← he]
theorem B3.find {l : List Cla} (h : B3 l) {i : Nat} {c : Cla} (hc : l[i]? = some c) : Y5 l c.name = some i := by
  obtain ⟨hi, rfl⟩ := List.getElem?_eq_some_iff.1 hc
  have := h.lk (List.getElem_mem hi)
  obtain ⟨e, hm, j, hj, hd⟩ := V8 this
  obtain ⟨hjl, he⟩ := List.getElem?_eq_some_iff.1 hd
  have : j = i := by
    have h1 : (l.map (·.name))[j]'(by simpa using hjl) = (l.map (·.name))[i]'(by simpa using hi) := by simp [he]
    exact (List.getElem_inj h).1 h1
  rw [hj, this]
end Go.Hm

namespace Go.Emb
open Go.RowKit Go.Hm
variable {P : Program} {w w0 w1 w' w'' : World} {K : Value → World → Prop} {σ σ0 σ1 σ2 σ' : Q5}
theorem Stp.join (h1 : Stp w σ w' σ1) (h2 : Stp w σ w' σ2) : ∃ σ3, Stp w σ w' σ3 ∧ SLe σ1 σ3 ∧ SLe σ2 σ3 := by
  have l1 : ∀ b o, σ1 b = some o → (fun b => (σ1 b).or (σ2 b)) b = some o := fun b o e => by simp [e]
  have l2 : ∀ b o, σ2 b = some o → (fun b => (σ1 b).or (σ2 b)) b = some o := by
    intro b o e
    cases hb : σ1 b with
    | none => simp [hb, e]
    | some p =>
      have a1 := h1.sat b p hb
      have a2 := h2.sat b o e
      rw [a1] at a2; cases a2; simp only [hb, Option.some_or]
  refine ⟨fun b => (σ1 b).or (σ2 b), ⟨h1.bel, ?_, fun b o e => l1 b o (h1.le b o e), ?_⟩, ⟨l1⟩, ⟨l2⟩⟩
  · intro b o e
    cases hb : σ1 b with
    | none => simp only [hb, Option.none_or] at e; exact h2.sat b o e
    | some p => simp only [hb, Option.some_or] at e; cases e; exact h1.sat b _ hb
  · intro b hb
    simp only [h1.old b hb, h2.old b hb]; cases σ b <;> rfl
theorem Ei {Φ : Q5 → Value → Prop} {A rest : (Value → World → Prop) → Prop} (h : A (fun v w' => ∃ σ', Stp w σ w' σ' ∧ Φ σ' v)) (hr : rest (fun v w' => ∃ σ', Stp w σ w' σ' ∧ Φ σ' v)) : Q7 (fun w w' => Below w.heap.size w w') A rest :=
  O3 _ (fun _ _ _ ⟨σ', h1, h2⟩ hb => ⟨σ', h1.trans (Stp.of_below h1.sat hb), h2⟩) h hr
theorem Ao {Φ : Q5 → Value → Prop} {v : Value} (h0 : Hst w σ w1 σ) (h : Stp w1 σ w' σ') (hv : Φ σ' v) : dk (fun w w' => Below w.heap.size w w') (fun v w' => ∃ σ', Stp w σ w' σ' ∧ Φ σ' v) w1 v w' :=
  ⟨h.bel, σ', h0.stp.trans h, hv⟩
theorem M7.mk {m : Hm.Met} {pv cv hv : Value} (h1 : Sl 1 U5 σ pv m.params) (h2 : Sl 3 F3 σ cv m.code) (h3 : Sl 4 Qv σ hv m.catches) (h4 : m.name.length ≤ W2) (h5 : m.result.length ≤ W2) (h6 : Gt m.locals) : M7 σ m [S m.name, pv, S m.result, .bool m.abs, I m.locals, cv, hv] :=
  ⟨pv, cv, hv, rfl, h1, h2, h3, h4, h5, h6⟩
theorem U7.mk {c : Cla} {lv fv mv : Value} (h1 : Sl 1 U5 σ lv c.like) (h2 : Sl 3 D6 σ fv c.fields) (h3 : Sl 7 M7 σ mv c.methods) (h4 : c.name.length ≤ W2) (h5 : c.super.length ≤ W2) : U7 σ c [S c.name, S c.super, lv, .bool c.iface, .bool c.abs, .bool c.fin, fv, mv] :=
  ⟨lv, fv, mv, rfl, h1, h2, h3, h4, h5⟩
end Go.Emb
namespace Go.Hm
def SmM (m : Hm.Met) : Prop := m.params.length ≤ 1000000 ∧ m.code.length ≤ 1000000 ∧ m.catches.length ≤ 1000000
def I6 (c : Cla) : Prop := c.like.length ≤ 1000000 ∧ c.fields.length ≤ 1000000 ∧ c.methods.length ≤ 1000000 ∧ ∀ m ∈ c.methods, SmM m
end Go.Hm
namespace Go.Proofs.YtdnfaboigajkhaaGreatDoor
open Go.Emb Go.RowKit Go.Kd Go.Hm
variable {w : World} {K : Value → World → Prop} {σ : Q5}
theorem Q1t {m : Hm.Met} {cs : List Value} (hs : X6 w σ) (hm : M7 σ m cs) (hsm : SmM m)
    (h : ∀ pv cv hv w' σ', Stp w σ w' σ' → M7 σ' m [S m.name, pv, S m.result, .bool m.abs, I m.locals, cv, hv] → K (.agg [S m.name, pv, S m.result, .bool m.abs, I m.locals, cv, hv].toArray) w') : Q1 P F.bz [.agg cs.toArray] w K := Q1U (by
  obtain ⟨pv, cv, hv, rfl, g1, g2, g3, g4, g5, g6⟩ := hm
  obtain ⟨s1, s2, s3⟩ := hsm
  unfold Bo
  refine Q2p hs fun b w1 σ1 hb hk1 hm1 => ?_
  refine Qw hk1.sat fun b2 w2 σ2 hb2 hk2 hm2 => ?_
  have hlt := hm1.lt
  replace hm1 := hm1.step hk2
  have hs2 := hk2.sat
  have g1 := (g1.up hk1).up hk2
  have g2 := (g2.up hk1).up hk2
  have g3 := (g3.up hk1).up hk2
  have L : ∀ {w' : World} (i : Nat) (v : Value), [S m.name, pv, S m.result, .bool m.abs, I m.locals, cv, hv][i]? = some v → Hst w2 σ2 w' σ2 → w'.cell? ((⟨b, 0, none⟩ : Addr).add i) = some v := fun i v hv hh => (hm1.step hh.stp).cell hv
  refine W0 hs2 ?_
  refine X2 (.pointer (some ((⟨b, 0, none⟩ : Addr).add 1))) (fun w hb => by rw [fa]; exact X5 rfl) ?_
  refine X2 (.pointer (some ((⟨b, 0, none⟩ : Addr).add 5))) (fun w hb => by rw [fa]; exact X5 rfl) ?_
  refine X2 (.pointer (some ((⟨b, 0, none⟩ : Addr).add 6))) (fun w hb => by rw [fa]; exact X5 rfl) ?_
  refine X2 pv (fun t w hb e => by rw [e]; exact T6 (L 1 pv rfl hb) (X5 rfl)) ?_
  refine Ei (Φ := fun σ' v => Sl 1 U5 σ' v m.params) (fun t w hb e => by rw [e]; exact Js hb.sat g1 s1 fun v' w' σ' hk hv => Ao hb hk hv) ?_
  refine X2 cv (fun t w hb e => by rw [e]; exact T6 (L 5 cv rfl hb) (X5 rfl)) ?_
  refine Ei (Φ := fun σ' v => Sl 3 F3 σ' v m.code) (fun t w hb e => by rw [e]; exact Ly hb.sat g2 s2 fun v' w' σ' hk hv => Ao hb hk hv) ?_
  refine X2 hv (fun t w hb e => by rw [e]; exact T6 (L 6 hv rfl hb) (X5 rfl)) ?_
  refine X2 (.pointer (some ((⟨b, 0, none⟩ : Addr).add 1))) (fun w hb => by rw [fa]; exact X5 rfl) ?_
  refine Ei (Φ := fun σ' v => Sl 4 Qv σ' v m.catches) (fun t w hb e => by rw [e]; exact Mc hb.sat g3 s3 fun v' w' σ' hk hv => Ao hb hk hv) ?_
  rintro t1 t2 t3 t4 t5 t6 t8 t9 t10 t11 w3 hb3 e1 e2 e3 e4 ⟨σ5, k5, f5⟩ e6 ⟨σ8, k8, f8⟩ e9 e10 ⟨σ11, k11, f11⟩
  subst e10
  obtain ⟨σa, ka, la1, la2⟩ := k5.join k8
  obtain ⟨σ3, k3, l1, l2⟩ := ka.join k11
  have f5 := (f5.lift la1).lift l1
  have f8 := (f8.lift la2).lift l1
  have f11 := f11.lift l2
  have hm1 := hm1.step k3
  have hm2 := hm2.step k3
  have hne : b2 ≠ b := by omega
  have hS := (hk1.trans hk2).trans k3
  refine Gr hm1 (by simp) (Jo f5) (Ql f5) fun w4 u4 hm1 => ?_
  rw [fa]
  have hS := u4.stp hS hb hm1.1
  have hm2 := hm2.upd u4 hne
  refine Gr hm1 (by simp) (Jo f8) (Ql f8) fun w5 u5 hm1 => ?_
  rw [fa]
  have hS := u5.stp hS hb hm1.1
  have hm2 := hm2.upd u5 hne
  refine Gr hm1 (by simp) (Jo f11) (Ql f11) fun w6 u6 hm1 => ?_
  have hS := u6.stp hS hb hm1.1
  have hm2 := hm2.upd u6 hne
  refine Q8s hm1 rfl ?_
  have hr := M7.mk f5 f8 f11 g4 g5 g6
  have hb2' := Xu hb2 hk1
  refine sta hm2 rfl rfl (by rw [List.all_toArray]; exact List.all_eq_true.2 (Rep.one hr)) fun w7 u7 hm2 => ?_
  have hS := u7.stp hS hb2' hm2.1
  refine N0 hm2 rfl ?_
  exact h t5 t8 t11 w7 σ3 hS hr)
theorem Q6S {c : Cla} {cs : List Value} (hs : X6 w σ) (hc : U7 σ c cs) (hsm : I6 c)
    (h : ∀ lv fv mv w' σ', Stp w σ w' σ' → U7 σ' c [S c.name, S c.super, lv, .bool c.iface, .bool c.abs, .bool c.fin, fv, mv] → K (.agg [S c.name, S c.super, lv, .bool c.iface, .bool c.abs, .bool c.fin, fv, mv].toArray) w') : Q1 P F.bY [.agg cs.toArray] w K := Q1V (by
  obtain ⟨lv, fv, mv, rfl, g1, g2, g3, g4, g5⟩ := hc
  obtain ⟨s1, s2, s3, s4⟩ := hsm
  unfold Bs
  refine Q2p hs fun b w1 σ1 hb hk1 hm1 => ?_
  refine Qw hk1.sat fun b2 w2 σ2 hb2 hk2 hm2 => ?_
  have hlt := hm1.lt
  replace hm1 := hm1.step hk2
  have hs2 := hk2.sat
  have g1 := (g1.up hk1).up hk2
  have g2 := (g2.up hk1).up hk2
  have g3 := (g3.up hk1).up hk2
  have L : ∀ {w' : World} (i : Nat) (v : Value), [S c.name, S c.super, lv, .bool c.iface, .bool c.abs, .bool c.fin, fv, mv][i]? = some v → Hst w2 σ2 w' σ2 → w'.cell? ((⟨b, 0, none⟩ : Addr).add i) = some v := fun i v hv hh => (hm1.step hh.stp).cell hv
  refine W0 hs2 ?_
  refine X2 (.pointer (some ((⟨b, 0, none⟩ : Addr).add 2))) (fun w hb => by rw [fa]; exact X5 rfl) ?_
  refine X2 (.pointer (some ((⟨b, 0, none⟩ : Addr).add 6))) (fun w hb => by rw [fa]; exact X5 rfl) ?_
  refine X2 lv (fun t w hb e => by rw [e]; exact T6 (L 2 lv rfl hb) (X5 rfl)) ?_
  refine Ei (Φ := fun σ' v => Sl 1 U5 σ' v c.like) (fun t w hb e => by rw [e]; exact Js hb.sat g1 s1 fun v' w' σ' hk hv => Ao hb hk hv) ?_
  refine X2 fv (fun t w hb e => by rw [e]; exact T6 (L 6 fv rfl hb) (X5 rfl)) ?_
  refine X2 (.pointer (some ((⟨b, 0, none⟩ : Addr).add 2))) (fun w hb => by rw [fa]; exact X5 rfl) ?_
  refine Ei (Φ := fun σ' v => Sl 3 D6 σ' v c.fields) (fun t w hb e => by rw [e]; exact Ls hb.sat g2 s2 fun v' w' σ' hk hv => Ao hb hk hv) ?_
  rintro t6 t9 t7 t8 t10 t12 t11 w3 hb3 e6 e9 e7 ⟨σ8, k8, f8⟩ e10 e12 ⟨σ11, k11, f11⟩
  subst e12
  obtain ⟨σ3, k3, l1, l2⟩ := k8.join k11
  have f8 := f8.lift l1
  have f11 := f11.lift l2
  have g3 := g3.up k3
  have hm1 := hm1.step k3
  have hm2 := hm2.step k3
  have hne : b2 ≠ b := by omega
  have hS := (hk1.trans hk2).trans k3
  refine Gr hm1 (by simp) (Jo f8) (Ql f8) fun w4 u4 hm1 => ?_
  rw [fa]
  have hS := u4.stp hS hb hm1.1
  have hm2 := hm2.upd u4 hne
  refine Gr hm1 (by simp) (Jo f11) (Ql f11) fun w5 u5 hm1 => ?_
  rw [fa]
  have hS := u5.stp hS hb hm1.1
  have hm2 := hm2.upd u5 hne
  refine ldm hm1 rfl ?_
  refine Q6 g3 ?_
  refine N9 c.methods.length (fun n a w' => ∃ σ', Stp w σ w' σ' ∧ SLe σ3 σ' ∧ W7 w.heap.size T.b 7 M7 σ' w' a (c.methods.take n) ∧ V3 σ' w' b [S c.name, S c.super, t8, .bool c.iface, .bool c.abs, .bool c.fin, t11, mv] ∧ V3 σ' w' b2 [S [], S [], .slice none 0 0, .bool false, .bool false, .bool false, .slice none 0 0, .slice none 0 0] ∧ ∀ k, a.ownBlock = some k → k ≠ b ∧ k ≠ b2)
    ⟨σ3, hS, SLe.refl _, W7.nil, hm1, hm2, fun k hk => by cases hk⟩ fun n a w6 d hn hi => ?_
  obtain ⟨σ6, hS6, le6, ha, hm1, hm2, hne6⟩ := hi
  refine Z5 ?_
  refine Q4 (fun hh => ?_) (fun hh => ?_)
  · have hn' : n < c.methods.length := by simpa using hh
    have hmax : c.methods.length ≤ 9223372036854775807 := by omega
    refine L6 (g3.lift le6) hn' fun p cs hl hlen hr => ?_
    refine Y3 hS6.sat hl hlen ?_
    refine Y1 hS6.sat (by rfl) hlen (Rep.one hr) fun q w7 σ7 hk7 hq => ?_
    refine Y3 hk7.sat hq hlen ?_
    refine Q1t hk7.sat (Rep.up hk7.le hr) (s4 _ (List.getElem_mem hn')) fun pv cv hv w8 σ8 hk8 hr8 => ?_
    have hn8 := (Nxt.of_stp (D := fun k => a.ownBlock = some k) hk7).trans (Nxt.of_stp hk8)
    have ha8 := (ha.up hk7).up hk8
    have hlt1 := (hm1.nx hn8 fun e => (hne6 _ e).1 rfl).lt
    have hlt2 := (hm2.nx hn8 fun e => (hne6 _ e).2 rfl).lt
    refine Zy ((hS6.trans hk7).trans hk8) ha8 hr8 rfl rfl rfl (by rw [List.length_take]; omega) (by rw [List.length_take]; omega) fun s v' w9 σ9 hnx hS9 ha9 hat => ?_
    refine O8 ?_
    have hnx := hn8.trans hnx
    refine J4 hmax hn' ⟨σ9, hS9, le6.more hnx.le, ?_, hm1.nx hnx fun e => (hne6 _ e).1 rfl, hm2.nx hnx fun e => (hne6 _ e).2 rfl, ?_⟩
    · rw [List.take_add_one, List.getElem?_eq_getElem hn']; exact ha9
    · intro k hk
      rcases hat with hat | hat
      · exact hne6 k (hat ▸ hk)
      · have := hat k hk
        constructor <;> omega
  · have hn' : ¬ n < c.methods.length := by simpa using hh
    rw [List.take_of_length_le (by omega)] at ha
    obtain ⟨σ7, hS7, ha7, le7, old7⟩ := ha.keep hS6
    have hm1 : V3 σ7 w6 b _ := ⟨(old7 b fun e => (hne6 b e.symm).1 rfl).trans hm1.1, hm1.2⟩
    have hm2 : V3 σ7 w6 b2 _ := ⟨(old7 b2 fun e => (hne6 b2 e.symm).2 rfl).trans hm2.1, hm2.2⟩
    rw [fa]
    refine Gr hm1 (by simp) (Jo ha7) (Ql ha7) fun w7 u7 hm1 => ?_
    have hS7 := u7.stp hS7 hb hm1.1
    have hm2 := hm2.upd u7 hne
    refine Q8s hm1 rfl ?_
    have hr := U7.mk (f8.lift (le6.more ⟨le7⟩)) (f11.lift (le6.more ⟨le7⟩)) ha7 g4 g5
    have hb2' := Xu hb2 hk1
    refine sta hm2 rfl rfl (by rw [List.all_toArray]; exact List.all_eq_true.2 (Rep.one hr)) fun w8 u8 hm2 => ?_
    have hS8 := u8.stp hS7 hb2' hm2.1
    refine N0 hm2 rfl ?_
    exact h t8 t11 a w8 σ7 hS8 hr)
end Go.Proofs.YtdnfaboigajkhaaGreatDoor

namespace Go.Hm
open Go.Kd
def E7 {α : Type} : Nat → List α → List α
  | 0, xs => xs
  | i + 1, xs => match (E7 i xs)[i]?, (E7 i xs)[xs.length - 1 - i]? with
    | some a, some b => ((E7 i xs).set i b).set (xs.length - 1 - i) a
    | _, _ => E7 i xs
theorem Im {α : Type} (xs : List α) : ∀ i, 2 * i ≤ xs.length → (E7 i xs).length = xs.length ∧ ∀ k, k < xs.length → (E7 i xs)[k]? = if k < i ∨ xs.length - 1 - k < i then xs[xs.length - 1 - k]? else xs[k]?
  | 0, _ => ⟨rfl, fun k hk => by simp [E7]⟩
  | i + 1, h => by
    obtain ⟨hl, hg⟩ := Im xs i (by omega)
    have h1 := hg i (by omega)
    have h2 := hg (xs.length - 1 - i) (by omega)
    rw [if_neg (by omega)] at h1 h2
    have hi : i < xs.length := by omega
    have hi2 : xs.length - 1 - i < xs.length := by omega
    rw [List.getElem?_eq_getElem (l := xs) hi] at h1
    rw [List.getElem?_eq_getElem (l := xs) hi2] at h2
    simp only [E7, h1, h2]
    refine ⟨by simp [hl], fun k hk => ?_⟩
    by_cases hk1 : k = xs.length - 1 - i
    · subst hk1
      rw [List.getElem?_set_self (by simp [hl]; omega), if_pos (by omega)]
      rw [show xs.length - 1 - (xs.length - 1 - i) = i by omega, List.getElem?_eq_getElem (by omega)]
    · rw [List.getElem?_set_ne (by omega)]
      by_cases hk2 : k = i
      · subst hk2
        rw [List.getElem?_set_self (by omega), if_pos (by omega), List.getElem?_eq_getElem (by omega)]
      · rw [List.getElem?_set_ne (by omega), hg k hk]
        by_cases hc : k < i ∨ xs.length - 1 - k < i
        · rw [if_pos hc, if_pos (by omega)]
        · rw [if_neg hc, if_neg (by omega)]
theorem Q6a {α : Type} (xs : List α) (i : Nat) (h1 : 2 * i ≤ xs.length) (h2 : xs.length ≤ 2 * i + 1) : E7 i xs = xs.reverse := by
  obtain ⟨hl, hg⟩ := Im xs i h1
  apply List.ext_getElem?
  intro k
  by_cases hk : k < xs.length
  · rw [hg k hk, List.getElem?_reverse hk]
    by_cases hc : k < i ∨ xs.length - 1 - k < i
    · rw [if_pos hc]
    · rw [if_neg hc]; congr 1; omega
  · rw [List.getElem?_eq_none (by omega), List.getElem?_eq_none (by simp; omega)]
theorem Bi (L : Xf) : ∀ (f : Nat) (n : X0), (S1 L f n).length ≤ f
  | 0, _ => by simp [S1]
  | f + 1, n => by
    simp only [S1]
    split
    · simp
    · have := Bi L f (by rename_i c _; exact c.super)
      simp only [List.length_cons]; rename_i c _ ; have := Bi L f c.super; omega
theorem Es (l : List Cla) (n : X0) : (chain l n).length ≤ l.length + 1 := Bi _ _ _
theorem Gk {l : List Cla} {n : X0} {c : Cla} (h : c ∈ chain l n) : c ∈ l := by
  have key : ∀ (f : Nat) (n : X0), c ∈ S1 (lk l) f n → c ∈ l := by
    intro f
    induction f with
    | zero => intro n h; simp [S1] at h
    | succ f ih =>
      intro n h
      simp only [S1] at h
      split at h
      · simp at h
      · rename_i d hd
        rcases List.mem_cons.1 h with rfl | h
        · exact (V8 hd).2.1
        · exact ih _ h
  exact key _ _ h
theorem K2 {α β : Type} (f : α → List β) (k : Nat) : ∀ (xs : List α), (∀ x ∈ xs, (f x).length ≤ k) → (xs.flatMap f).length ≤ xs.length * k
  | [], _ => by simp
  | x :: r, h => by
    have h1 := h x (by simp)
    have h2 := K2 f k r fun y hy => h y (by simp [hy])
    simp only [List.flatMap_cons, List.length_append, List.length_cons, Nat.add_mul]; omega
end Go.Hm

namespace Go.Hm
open Go.Kd
def Y0 (l : List Cla) (i : Nat) : X0 := (l.getD i Cla.zero).name
theorem A5 {l : List Cla} (ho : B3 l) {i : Nat} (hi : i < l.length) : lk l (Y0 l i) = some (l.getD i Cla.zero) := by
  have e : l.getD i Cla.zero = l[i] := by rw [List.getD_eq_getElem?_getD, List.getElem?_eq_getElem hi]; rfl
  unfold Y0
  rw [e]; exact ho.lk (List.getElem_mem hi)
theorem H9 {l : List Cla} {u : X0} {j : Nat} (h : Y5 l u = some j) : j < l.length ∧ Y0 l j = u := by
  obtain ⟨hj, hp, _⟩ := List.findIdx?_eq_some_iff_getElem.1 h
  refine ⟨hj, ?_⟩
  unfold Y0
  rw [List.getD_eq_getElem?_getD, List.getElem?_eq_getElem hj]
  simpa using hp
theorem Pn {l : List Cla} (ha : Qk l) (ho : B3 l) {i j : Nat} (hi : i < l.length) {u : X0} (hu : u ∈ U8 (l.getD i Cla.zero)) (hj : Y5 l u = some j) : R6 l (Y0 l j) < R6 l (Y0 l i) := by
  obtain ⟨c, hc, _⟩ := Yx hj
  rw [(H9 hj).2]
  exact G5 ha (A5 ho hi) hu hc
theorem Hg {α β : Type} {f g : β → α → β} : ∀ (xs : List α) (b : β), (∀ b x, x ∈ xs → f b x = g b x) → xs.foldl f b = xs.foldl g b
  | [], _, _ => rfl
  | x :: r, b, h => by
    rw [List.foldl_cons, List.foldl_cons, h b x (by simp)]
    exact Hg r _ fun b y hy => h b y (by simp [hy])
theorem Qf {l : List Cla} {frm : Nat} (f : Nat) (out : List Nat) {i : Nat} (h : i < frm) : F6 l frm f out i = out := by
  cases f <;> simp [F6, h]
theorem Q6g {l : List Cla} (ha : Qk l) (ho : B3 l) {frm : Nat} (hf : 0 < frm) : ∀ (f g : Nat) (out : List Nat) (i : Nat), i < l.length → R6 l (Y0 l i) < f → R6 l (Y0 l i) < g → F6 l frm f out i = F6 l frm g out i := by
  intro f
  induction f with
  | zero => intro g out i _ h; omega
  | succ f ih =>
    intro g out i hi h1 h2
    obtain ⟨g, rfl⟩ : ∃ m, g = m + 1 := ⟨g - 1, by omega⟩
    simp only [F6]
    split
    · rfl
    · split
      · rfl
      · congr 1
        refine Hg _ _ fun b u hu => ?_
        cases hj : Y5 l u with
        | none => simp only [Option.getD_none]; rw [Qf f b hf, Qf g b hf]
        | some j =>
          simp only [Option.getD_some]
          have := Pn ha ho hi hu hj
          exact ih g b j (H9 hj).1 (by omega) (by omega)
def P6 (l : List Cla) (frm : Nat) (out : List Nat) (i : Nat) : List Nat := F6 l frm (l.length + 1) out i
theorem Q4c {l : List Cla} (ha : Qk l) (ho : B3 l) {frm : Nat} (hf : 0 < frm) (out : List Nat) {i : Nat} (hi : i < l.length) : P6 l frm out i = if i < frm then out else if i ∈ out then out else
    ((U8 (l.getD i Cla.zero)).foldl (fun out n => P6 l frm out ((Y5 l n).getD 0)) out) ++ [i] := by
  have hr := Hw l (Y0 l i)
  unfold P6
  rw [F6]
  split
  · rfl
  · split
    · rfl
    · congr 1
      refine Hg _ _ fun b u hu => ?_
      cases hj : Y5 l u with
      | none => simp only [Option.getD_none]; rw [Qf _ b hf, Qf _ b hf]
      | some j =>
        simp only [Option.getD_some]
        have := Pn ha ho hi hu hj
        exact Q6g ha ho hf _ _ b j (H9 hj).1 (by omega) (by omega)
theorem Ug {α : Type} {p : Nat → Prop} {f : List Nat → α → List Nat} : ∀ (xs : List α) (b : List Nat), (∀ b x, x ∈ xs → ∀ y ∈ f b x, y ∈ b ∨ p y) → ∀ y ∈ xs.foldl f b, y ∈ b ∨ p y
  | [], b, _ => fun y hy => .inl hy
  | x :: r, b, h => fun y hy => by
    rw [List.foldl_cons] at hy
    rcases Ug r _ (fun b z hz => h b z (by simp [hz])) y hy with h1 | h1
    · exact h b x (by simp) y h1
    · exact .inr h1
theorem Q2h {l : List Cla} (ho : B3 l) {frm : Nat} (hf : 0 < frm) : ∀ (f : Nat) (out : List Nat) (i : Nat), i < l.length → ∀ y ∈ F6 l frm f out i, y ∈ out ∨ (y < l.length ∧ (y = i ∨ Yo (lk l) (Y0 l i) (Y0 l y))) := by
  intro f
  induction f with
  | zero => intro out i _ y hy; exact .inl hy
  | succ f ih =>
    intro out i hi y hy
    simp only [F6] at hy
    split at hy
    · exact .inl hy
    · split at hy
      · exact .inl hy
      · rcases List.mem_append.1 hy with hy | hy
        · refine Ug (p := fun y => y < l.length ∧ (y = i ∨ Yo (lk l) (Y0 l i) (Y0 l y))) _ _ (fun b u hu y hy => ?_) y hy
          cases hj : Y5 l u with
          | none =>
            rw [hj] at hy
            simp only [Option.getD_none] at hy
            rw [Qf f b hf] at hy
            exact .inl hy
          | some j =>
            rw [hj] at hy
            simp only [Option.getD_some] at hy
            obtain ⟨hjl, hjn⟩ := H9 hj
            obtain ⟨c, hc, _⟩ := Yx hj
            rcases ih b j hjl y hy with h | ⟨h1, rfl | h2⟩
            · exact .inl h
            · exact .inr ⟨h1, .inr ⟨_, A5 ho hi, u, hu, by rw [hjn]; exact .refl hc⟩⟩
            · exact .inr ⟨h1, .inr ⟨_, A5 ho hi, u, hu, by rw [← hjn]; exact h2.reach⟩⟩
        · simp at hy; subst hy; exact .inr ⟨hi, .inl rfl⟩
theorem Q0y {α : Type} {q : List Nat → Prop} {f : List Nat → α → List Nat} : ∀ (xs : List α) (b : List Nat), (∀ b x, x ∈ xs → q b → q (f b x)) → q b → q (xs.foldl f b)
  | [], b, _, h => h
  | x :: r, b, hs, h => by
    rw [List.foldl_cons]
    exact Q0y r _ (fun b z hz => hs b z (by simp [hz])) (hs b x (by simp) h)
def Gx (l : List Cla) (out : List Nat) : Prop := out.Nodup ∧ ∀ y ∈ out, y < l.length
theorem Gx.len {l : List Cla} {out : List Nat} (h : Gx l out) : out.length ≤ l.length := by
  have key : ∀ (n : Nat) (out : List Nat), out.Nodup → (∀ y ∈ out, y < n) → out.length ≤ n := by
    intro n
    induction n with
    | zero =>
      intro out _ h
      cases out with
      | nil => simp
      | cons a r => have := h a (by simp); omega
    | succ n ih =>
      intro out hn h
      have h1 := ih (out.filter (fun y => !decide (y = n))) (hn.sublist List.filter_sublist) (fun y hy => by
        have := List.mem_filter.1 hy
        have h2 := h y this.1
        have h3 : y ≠ n := by simpa using this.2
        omega)
      have h2 : out.length ≤ (out.filter (fun y => !decide (y = n))).length + 1 := by
        clear h1 h
        induction out with
        | nil => simp
        | cons a r ih2 =>
          obtain ⟨ha, hr⟩ := List.nodup_cons.1 hn
          by_cases e : a = n
          · subst e
            have : r.filter (fun y => !decide (y = a)) = r := List.filter_eq_self.2 fun y hy => by simp; rintro rfl; exact ha hy
            simp [this]
          · have := ih2 hr
            simp [e]; exact this
      omega
  exact key _ _ h.1 h.2
theorem Bk {l : List Cla} (ha : Qk l) (ho : B3 l) {frm : Nat} (hf : 0 < frm) : ∀ (f : Nat) (out : List Nat) (i : Nat), i < l.length → Gx l out → Gx l (F6 l frm f out i) := by
  intro f
  induction f with
  | zero => intro out i _ h; exact h
  | succ f ih =>
    intro out i hi h
    simp only [F6]
    split
    · exact h
    · split
      · exact h
      · rename_i hin
        have hk : Gx l ((U8 (l.getD i Cla.zero)).foldl (fun out n => F6 l frm f out ((Y5 l n).getD 0)) out) := by
          refine Q0y _ _ (fun b u hu hb => ?_) h
          cases hj : Y5 l u with
          | none => simp only [Option.getD_none]; rw [Qf f b hf]; exact hb
          | some j => exact ih b j (H9 hj).1 hb
        have hni : i ∉ (U8 (l.getD i Cla.zero)).foldl (fun out n => F6 l frm f out ((Y5 l n).getD 0)) out := by
          intro hmem
          rcases Ug (p := fun y => Yo (lk l) (Y0 l i) (Y0 l y)) _ _ (fun b u hu y hy => by
            cases hj : Y5 l u with
            | none =>
              rw [hj] at hy
              simp only [Option.getD_none] at hy
              rw [Qf f b hf] at hy
              exact .inl hy
            | some j =>
              rw [hj] at hy
              simp only [Option.getD_some] at hy
              obtain ⟨hjl, hjn⟩ := H9 hj
              obtain ⟨c, hc, _⟩ := Yx hj
              rcases Q2h ho hf f b j hjl y hy with h | ⟨h1, rfl | h2⟩
              · exact .inl h
              · exact .inr ⟨_, A5 ho hi, u, hu, by rw [hjn]; exact .refl hc⟩
              · exact .inr ⟨_, A5 ho hi, u, hu, by rw [← hjn]; exact h2.reach⟩) i hmem with h1 | h1
          · exact hin h1
          · exact ha _ h1
        refine ⟨?_, fun y hy => ?_⟩
        · rw [List.nodup_append]
          exact ⟨hk.1, by simp, by rintro a ha b hb rfl; simp at hb; subst hb; exact hni ha⟩
        · rcases List.mem_append.1 hy with hy | hy
          · exact hk.2 y hy
          · simp at hy; omega
end Go.Hm

namespace Go.Emb
open Go.RowKit Go.Hm
variable {P : Program} {w w0 w1 w' w'' : World} {K : Value → World → Prop} {σ σ0 σ1 σ' : Q5}
def Tk (sz : Nat) (v : Value) (i : Nat) : Addr := match v with
  | .slice (some b) _ _ => b.add (i * sz)
  | _ => ⟨0, 0, none⟩
section
variable {α : Type} {R : Q5 → α → List Value → Prop} {sz : Nat} {v : Value} {xs : List α}
theorem Sl.el (h : Sl sz R σ v xs) {i : Nat} (hi : i < xs.length) : ∃ cs, U0 σ (Tk sz v i) cs ∧ cs.length = sz ∧ R σ xs[i] cs := by
  obtain ⟨a, cap, rfl, h2, h3, h4, h5⟩ := h
  cases a with
  | none => have := h4 rfl; omega
  | some b =>
    obtain ⟨cs, g1, g2, g3⟩ := (h5 b rfl).2 i xs[i] (by simp [hi])
    exact ⟨cs, g1, g2, g3⟩
theorem Z3 {t e : TypeId} {by_ : Nat} {z : Value} [TS P t e] [TZ P e sz by_ z] (h : Sl sz R σ v xs) {i : Nat} (hi : i < xs.length) (hk : K (.pointer (some (Tk sz v i))) w) : indexAddr P t v (I i) w K := by
  obtain ⟨a, cap, rfl, h2, h3, h4, h5⟩ := h
  cases a with
  | none => have := h4 rfl; omega
  | some b =>
    rw [Rk (by omega) (by omega)]
    simpa [Tk] using hk
theorem Sl.elS {xs : List Kd.X0} (h : Sl 1 U5 σ v xs) {i : Nat} (hi : i < xs.length) : U0 σ (Tk 1 v i) [S xs[i]] ∧ xs[i].length ≤ W2 := by
  obtain ⟨cs, h1, h2, rfl, h4⟩ := h.el hi; exact ⟨h1, h4⟩
theorem Sl.elF {xs : List Fld} (h : Sl 3 D6 σ v xs) {i : Nat} (hi : i < xs.length) : U0 σ (Tk 3 v i) [S xs[i].name, S xs[i].kind, .bool xs[i].tr] ∧ D6 σ xs[i] [S xs[i].name, S xs[i].kind, .bool xs[i].tr] := by
  obtain ⟨cs, h1, h2, rfl, h4⟩ := h.el hi; exact ⟨h1, rfl, h4⟩
theorem Sl.elI {xs : List Ins} (h : Sl 3 F3 σ v xs) {i : Nat} (hi : i < xs.length) : U0 σ (Tk 3 v i) [S xs[i].op, I xs[i].n, S xs[i].s] ∧ F3 σ xs[i] [S xs[i].op, I xs[i].n, S xs[i].s] := by
  obtain ⟨cs, h1, h2, rfl, h4⟩ := h.el hi; exact ⟨h1, rfl, h4⟩
theorem Sl.elK {xs : List Cat} (h : Sl 4 Qv σ v xs) {i : Nat} (hi : i < xs.length) : U0 σ (Tk 4 v i) [I xs[i].frm, I xs[i].to, I xs[i].at_, S xs[i].cls] ∧ Qv σ xs[i] [I xs[i].frm, I xs[i].to, I xs[i].at_, S xs[i].cls] := by
  obtain ⟨cs, h1, h2, rfl, h4⟩ := h.el hi; exact ⟨h1, rfl, h4⟩
theorem Sl.conv {α β : Type} {R : Q5 → α → List Value → Prop} {R' : Q5 → β → List Value → Prop} {sz : Nat} {v : Value} {xs : List α} {ys : List β} (h : Sl sz R σ v xs) (hl : ys.length = xs.length) (hc : ∀ i (hi : i < xs.length) (hj : i < ys.length) cs, R σ xs[i] cs → R' σ ys[i] cs) : Sl sz R' σ v ys := by
  obtain ⟨a, cap, rfl, h2, h3, h4, h5⟩ := h
  refine ⟨a, cap, by rw [hl], by rw [hl]; exact h2, h3, h4, fun b hb => ⟨fun hp => (h5 b hb).1 (by omega), fun i x hx => ?_⟩⟩
  obtain ⟨hi, rfl⟩ := List.getElem?_eq_some_iff.1 hx
  have hi' : i < xs.length := by omega
  obtain ⟨cs, g1, g2, g3⟩ := (h5 b hb).2 i xs[i] (List.getElem?_eq_getElem hi')
  exact ⟨cs, g1, g2, hc i hi' hi cs g3⟩
theorem Sl.elM {xs : List Hm.Met} (h : Sl 7 M7 σ v xs) {i : Nat} (hi : i < xs.length) : ∃ pv cv hv, U0 σ (Tk 7 v i) [S xs[i].name, pv, S xs[i].result, .bool xs[i].abs, I xs[i].locals, cv, hv] ∧ M7 σ xs[i] [S xs[i].name, pv, S xs[i].result, .bool xs[i].abs, I xs[i].locals, cv, hv] := by
  obtain ⟨cs, h1, h2, pv, cv, hv, rfl, h4⟩ := h.el hi; exact ⟨pv, cv, hv, h1, pv, cv, hv, rfl, h4⟩
theorem Sl.elC {xs : List Cla} (h : Sl 8 U7 σ v xs) {i : Nat} (hi : i < xs.length) : ∃ lv fv mv, U0 σ (Tk 8 v i) [S xs[i].name, S xs[i].super, lv, .bool xs[i].iface, .bool xs[i].abs, .bool xs[i].fin, fv, mv] ∧ U7 σ xs[i] [S xs[i].name, S xs[i].super, lv, .bool xs[i].iface, .bool xs[i].abs, .bool xs[i].fin, fv, mv] := by
  obtain ⟨cs, h1, h2, lv, fv, mv, rfl, h4⟩ := h.el hi; exact ⟨lv, fv, mv, h1, lv, fv, mv, rfl, h4⟩
end
theorem M3 {Tr : World → World → Prop} {A rest : (Value → World → Prop) → Prop} {V : Value} (h : A (fun v _ => V = v)) (hr : rest (fun v _ => V = v)) : Q7 Tr A rest := O3 _ (fun _ _ _ h _ => h) h hr
theorem V2 {v V : Value} (h : V = v) : dk (fun w w' => Below w.heap.size w w') (fun v _ => V = v) w v w := ⟨Below.refl _ _, h⟩
theorem W1 {v V : Value} (hb : Below w.heap.size w w') (h : V = v) : dk (fun w w' => Below w.heap.size w w') (fun v _ => V = v) w v w' := ⟨hb, h⟩
theorem L2 {c b : Bool} {V : Value} {run : World → (Value → World → Prop) → Prop} (h : c = b → run w (dk (fun w w' => Below w.heap.size w w') (fun v _ => V = v) w)) : Q0 (.bool c) b w run (dk (fun w w' => Below w.heap.size w w') (fun v _ => (if c = b then V else undef) = v) w) := by
  by_cases e : c = b
  · simp only [e, if_true]
    subst e
    have := h rfl
    cases c
    · rw [Ul]; exact this
    · rw [F8]; exact this
  · have e2 : c = !b := by cases c <;> cases b <;> simp_all
    rw [if_neg e]; subst e2
    cases b
    · rw [Bool.not_false, Kv]; exact ⟨Below.refl _ _, rfl⟩
    · rw [Bool.not_true, Jf]; exact ⟨Below.refl _ _, rfl⟩
end Go.Emb

namespace Go.Emb
open Go.RowKit Go.Hm
variable {P : Program} {w w0 w1 w' w'' : World} {K : Value → World → Prop} {σ σ0 σ1 σ' : Q5}
section
variable {α : Type} {R : Q5 → α → List Value → Prop} {B sz : Nat} {e : TypeId} {v u : Value} {xs ys : List α}
def Emp (v : Value) : Prop := ∃ a, v = .slice a 0 0
theorem Q8h {t ty : TypeId} {by_ : Nat} {z : Value} {cs : List Bool} [ts : TS P t e] [tz : TZ P e sz by_ z] [hr : Rep R] (hS : Stp w0 σ0 w σ) (ha : W7 w0.heap.size e sz R σ w v []) (hv : Emp v) (hs' : X6 w σ') (hu : Sl sz R σ' u ys) (hR : ∀ x cs, R σ' x cs → R σ x cs) (hz : (z.cells.size == sz && decide (0 < sz)) = true)
    (hb : ys.length * by_ ≤ 140737488355328) (hm : ys.length ≤ 1000000000000)
    (h : ∀ v' w', Stp w σ w' σ → W7 w0.heap.size e sz R σ w' v' ys → K v' w') : X4 P .append [t, t] ty cs [v, u] w K := by
  obtain ⟨ac, rfl⟩ := hv
  have hs := hS.sat
  obtain ⟨a, cap, news, rfl, n1, n2, n3, n4, n5⟩ := hu.cells hs'
  obtain ⟨i, hi, hsz, hby, hzero⟩ := tz.info
  simp only [Bool.and_eq_true, beq_iff_eq, decide_eq_true_eq] at hz
  obtain ⟨hz1, hz2⟩ := hz
  have hsrc : Src P i.size t (.slice a ys.length cap) ys.length news w := by
    cases a with
    | some b => exact Src.ofSlice w ts.h b ys.length cap news (by rw [hsz]; exact n2) (n3 b rfl) n4
    | none =>
      have hy : ys.length = 0 := by
        obtain ⟨a', cap', e', q1, _, q3, _⟩ := hu; injection e' with e1 e2 e3; have := n1 rfl; omega
      have hn : news = [] := List.eq_nil_of_length_eq_zero (by rw [n2, hy]; simp)
      subst hn
      rw [hy]; exact Src.ofNil w ts.h cap
  have fin : ∀ v' w', (Builtin.append_ #[t, t] ty #[.slice ac 0 0, .slice a ys.length cap]).run P w = .ok v' w' → Stp w σ w' σ → W7 w0.heap.size e sz R σ w' v' ys → X4 P .append [t, t] ty cs [.slice ac 0 0, .slice a ys.length cap] w K := by
    intro v' w' hrun hk hq
    have hrun' : (builtin .append #[t, t] ty cs.toArray #[.slice ac 0 0, .slice a ys.length cap]).run P w = .ok (.value v') w' := by
      simp [builtin, hrun]
    unfold X4
    rw [Yw]; unfold Xo
    rw [hrun']
    exact h v' w' hk hq
  by_cases hy : ys = []
  · subst hy
    have hn : news = [] := List.eq_nil_of_length_eq_zero (by simpa using n2)
    subst hn
    refine fin (.slice ac 0 0) w ?_ (Stp.refl hs) ha
    have hl := hsrc.len w
    have hcs := hsrc.cells
    simp only [List.length_nil] at hl hcs ⊢
    cases ac <;> simp [Builtin.append_, run_underlying ts.h, sizeOf, typeInfo, hi, hl, hcs, storeCells]
  · have hy' : 0 < ys.length := List.length_pos_iff.2 hy
    have holds : (Builtin.firstCells i.size 0 (.slice ac 0 0)).run P w.drew = .ok (#[] : Array Value) w.drew := by
      cases ac with
      | none => exact run_firstCells_none w.drew i.size 0 0 0
      | some a' => exact run_firstCells_some w.drew i.size 0 a' 0 0 [] (by simp) (by intro _ _ h'; simp at h')
    have hg : 0 < 0 + ys.length := by omega
    have hrun := run_append_grow_src (P := P) w t t ty e i z ts.h hi hzero ac 0 0 [] holds (.slice a ys.length cap) ys.length news hsrc hg (by omega) (growslice_fits hg (by rw [hby, Nat.zero_add]; exact hb))
    simp only [Nat.zero_add] at hrun
    have hcm := grownCap_le_maxLen w ys.length 0 e (by simp only [maxLen]; omega)
    have hge := grownCap_ge w ys.length 0 e
    refine fin _ _ hrun (Stp.of_below hs ((Below.refl _ _).drew.alloc (Nat.le_refl _) _)) ⟨news, ⟨n2, .inr ⟨w.heap.size, _, _, rfl, hS.bel.size, heap_alloc_new w.drew _, hge, hcm, ?_, ?_⟩⟩, ?_, fun i x hx => hR _ _ (n5 i x hx)⟩
    · simp only [List.nil_append]
      rw [Array.size_append, List.size_toArray, n2, size_zeroCells, hz1, ← Nat.add_mul]
      congr 1; omega
    · simp only [List.nil_append]
      rw [Array.toList_append]
      rw [List.take_append_of_le_length (by simp only [List.toList_toArray]; omega), List.take_of_length_le (by simp only [List.toList_toArray]; omega)]
    · intro k hk; cases hk; exact hs.none (Nat.le_refl _)
end
def Q6O {α : Type} (w0 : World) (σ : Q5) (e : TypeId) (sz : Nat) (R : Q5 → α → List Value → Prop) (xs : List α) (v : Value) (w' : World) : Prop := Stp w0 σ w' σ ∧ W7 w0.heap.size e sz R σ w' v xs
def Q52 {α : Type} (w0 : World) (σ : Q5) (e : TypeId) (sz : Nat) (R : Q5 → α → List Value → Prop) (v : Value) (w' : World) : Prop := Stp w0 σ w' σ ∧ W7 w0.heap.size e sz R σ w' v ([] : List α) ∧ Emp v
section
variable {α : Type} {R : Q5 → α → List Value → Prop} {sz : Nat} {e : TypeId} {v u : Value} {xs ys : List α} {A rest : (Value → World → Prop) → Prop}
theorem Q0H [Rep R] (xs : List α) (h : A (Q6O w σ e sz R xs)) (hr : rest (Q6O w σ e sz R xs)) : Q7 (fun w w' => Below w.heap.size w w') A rest :=
  O3 _ (fun _ _ _ ⟨h1, h2⟩ hb => ⟨h1.trans (Stp.of_below h1.sat hb), h2.up (Stp.of_below h1.sat hb)⟩) h hr
theorem Q7E [Rep R] (h : A (Q52 w σ e sz R)) (hr : rest (Q52 w σ e sz R)) : Q7 (fun w w' => Below w.heap.size w w') A rest :=
  O3 _ (fun _ _ _ ⟨h1, h2, h3⟩ hb => ⟨h1.trans (Stp.of_below h1.sat hb), h2.up (Stp.of_below h1.sat hb), h3⟩) h hr
theorem Q2O (h0 : Hst w σ w1 σ) (h : Stp w1 σ w' σ) (ha : W7 w.heap.size e sz R σ w' v xs) : dk (fun w w' => Below w.heap.size w w') (Q6O w σ e sz R xs) w1 v w' := ⟨h.bel, h0.stp.trans h, ha⟩
theorem Q91 (h0 : Hst w σ w1 σ) (h : Stp w1 σ w' σ) (ha : W7 w.heap.size e sz R σ w' v ([] : List α)) (hv : Emp v) : dk (fun w w' => Below w.heap.size w w') (Q52 w σ e sz R) w1 v w' := ⟨h.bel, h0.stp.trans h, ha, hv⟩
theorem Iv {t : TypeId} {by_ : Nat} {z : Value} [ts : TS P t e] [tz : TZ P e sz by_ z] (R : Q5 → α → List Value → Prop) (hS : Stp w0 σ0 w σ) (hsz : 0 < sz)
    (h : ∀ v w', Stp w σ w' σ → W7 w0.heap.size e sz R σ w' v ([] : List α) → Emp v → K v w') : buildSlice P t 0 [] w K := by
  obtain ⟨cells, h1, h2⟩ := My (P := P) (t := t) (sz := sz) (e := e) [] (by simp) (by simp) w
  unfold buildSlice
  have h1' : (Instr.buildSlice t 0 ([] : List (Nat × Value)).toArray).run P w = _ := h1
  rw [X9 h1']
  refine h _ _ (Stp.own hS.sat _) ⟨[], ⟨by simp, .inr ⟨_, _, cells, rfl, hS.bel.size, heap_alloc_new w _, by simp, by simp [maxLen], ?_, by simp⟩⟩, ?_, by simp⟩ ⟨_, rfl⟩
  · have : cells.size = 0 := by rw [← Array.length_toList, h2]; rfl
    simp [this]
  · intro k hk; cases hk; exact hS.sat.none (Nat.le_refl _)
theorem Q4J [Rep R] {t : TypeId} {by_ : Nat} {z : Value} [ts : TS P t e] [tz : TZ P e sz by_ z] (hsz : (decide (0 < sz)) = true) (hr : rest (Q52 w σ e sz R)) :
    Q7 (fun w w' => Below w.heap.size w w') (fun φ => ∀ w1 : World, Hst w σ w1 σ → buildSlice P t 0 [] w1 (dk (fun w w' => Below w.heap.size w w') φ w1)) rest :=
  Q7E (fun w1 hb => Iv R hb.stp (by simpa using hsz) fun v w' hk ha he => Q91 hb hk ha he) hr
end
theorem U7.parts {c : Cla} {a b lv d e f fv mv : Value} (h : U7 σ c [a, b, lv, d, e, f, fv, mv]) : Sl 1 U5 σ lv c.like ∧ Sl 3 D6 σ fv c.fields ∧ Sl 7 M7 σ mv c.methods ∧ c.name.length ≤ W2 ∧ c.super.length ≤ W2 := by
  obtain ⟨_, _, _, he, h1⟩ := h
  simp only [List.cons.injEq, and_true] at he
  obtain ⟨_, _, rfl, _, _, _, rfl, rfl⟩ := he
  exact h1
theorem M7.parts {m : Hm.Met} {a pv b d e cv hv : Value} (h : M7 σ m [a, pv, b, d, e, cv, hv]) : Sl 1 U5 σ pv m.params ∧ Sl 3 F3 σ cv m.code ∧ Sl 4 Qv σ hv m.catches ∧ m.name.length ≤ W2 ∧ m.result.length ≤ W2 ∧ Gt m.locals := by
  obtain ⟨_, _, _, he, h1⟩ := h
  simp only [List.cons.injEq, and_true] at he
  obtain ⟨_, rfl, _, _, _, rfl, rfl⟩ := he
  exact h1
end Go.Emb

namespace Go.Emb
open Go.RowKit
variable {P : Program} {w : World} {K : Value → World → Prop}
theorem Q0D {d : Nat} {xs ys : Array Value} : (Op.eqFields d xs ys []).run P w = .ok true w := by simp [Op.eqFields]
theorem K3 {d : Nat} {xs ys : Array Value} {f : Field} {fs : List Field} {u v : Value} {b c : Bool} (hn : f.name ≠ "_") [tg : TG P f.type false] (hu : xs[f.offset]? = some u) (hv : ys[f.offset]? = some v)
    (h1 : (Op.equalIn d f.type u v).run P w = .ok b w) (h2 : (Op.eqFields d xs ys fs).run P w = .ok c w) : (Op.eqFields d xs ys (f :: fs)).run P w = .ok (b && c) w := by
  simp only [Op.eqFields, if_pos hn]
  simp [part, T8 tg, hu, hv, h1]
  cases b
  · simp
  · simp [h2]
theorem Rr {d : Nat} {t : TypeId} (ht : P.underlying t = some .string) (a b : List UInt8) : (Op.equalIn (d + 1) t (S a) (S b)).run P w = .ok (decide (a = b)) w := by
  simp [Op.equalIn, run_underlying ht, Lx]
theorem Q77 {d : Nat} {t : TypeId} (ht : P.underlying t = some .bool) (a b : Bool) : (Op.equalIn (d + 1) t (.bool a) (.bool b)).run P w = .ok (decide (a = b)) w := by
  simp [Op.equalIn, run_underlying ht]
  cases a <;> cases b <;> rfl
theorem Pb {d : Nat} {t : TypeId} {k k' : IntKind} (ht : P.underlying t = some (.int k)) (a b : Int) : (Op.equalIn (d + 1) t (.int k' a) (.int k' b)).run P w = .ok (decide (a = b)) w := by
  simp [Op.equalIn, run_underlying ht]
  by_cases e : a = b <;> simp [e]
theorem Q0T {t : TypeId} {ox oy : Operand} {xs ys : List Value} {b : Bool} (hu : P.underlying t = some (.struct (P.fieldsOf t))) (hp : P.stoodInHeld t = false) (hm : P.eqGuardType P.depth t = false)
    (he : (Op.eqFields 9999 xs.toArray ys.toArray (P.fieldsOf t).toList).run P w = .ok b w) (h : K (.bool (!b)) w) : Q3 P .neq t ox oy (.agg xs.toArray) (.agg ys.toArray) w K := by
  have e : Q3 P .neq t ox oy (.agg xs.toArray) (.agg ys.toArray) w K = K (.bool (!b)) w := X9 (by
    simp only [Sem.run_bind, run_eqGuard_agg w .neq t ox oy xs.toArray ys.toArray hm, Result.andThen_ok]
    rw [run_neq_struct, run_equalIn_struct w 9999 t _ _ hu hp, he]; rfl)
  rw [e]; exact h
end Go.Emb
namespace Go.Proofs.YtdnfaboigajkhaaGreatDoor
open Go.Emb Go.RowKit Go.Kd Go.Hm
variable {w : World} {K : Value → World → Prop} {σ : Q5}
theorem Q8P : (P.fieldsOf T.i).toList = [⟨"Name", T.c, 0, false, "", "", 0⟩, ⟨"Kind", T.c, 1, false, "", "", 16⟩, ⟨"Transient", T.m, 2, false, "", "", 32⟩] := by kernel_rfl
set_option maxRecDepth 100000 in
theorem Q48 {ox oy : Operand} {f g : Fld} (h : K (.bool (!decide (f = g))) w) : Q3 P .neq T.i ox oy (.agg [S f.name, S f.kind, .bool f.tr].toArray) (.agg [S g.name, S g.kind, .bool g.tr].toArray) w K := by
  refine Q0T (b := decide (f = g)) (by kernel_rfl) (by kernel_rfl) (by kernel_rfl) ?_ h
  rw [Q8P]
  have := K3 (P := P) (w := w) (d := 9999) (xs := [S f.name, S f.kind, .bool f.tr].toArray) (ys := [S g.name, S g.kind, .bool g.tr].toArray) (f := ⟨"Name", T.c, 0, false, "", "", 0⟩) (by decide) rfl rfl (Rr X7 _ _)
    (K3 (f := ⟨"Kind", T.c, 1, false, "", "", 16⟩) (by decide) rfl rfl (Rr X7 _ _) (K3 (f := ⟨"Transient", T.m, 2, false, "", "", 32⟩) (by decide) rfl rfl (Q77 Zv _ _) Q0D))
  rw [this]
  congr 1
  obtain ⟨a1, a2, a3⟩ := f
  obtain ⟨b1, b2, b3⟩ := g
  simp [Bool.decide_and]
theorem Q8N : (P.fieldsOf T.n).toList = [⟨"Op", T.c, 0, false, "", "", 0⟩, ⟨"N", T.af, 1, false, "", "", 16⟩, ⟨"S", T.c, 2, false, "", "", 24⟩] := by kernel_rfl
set_option maxRecDepth 100000 in
theorem Q7T {ox oy : Operand} {f g : Ins} (h : K (.bool (!decide (f = g))) w) : Q3 P .neq T.n ox oy (.agg [S f.op, I f.n, S f.s].toArray) (.agg [S g.op, I g.n, S g.s].toArray) w K := by
  refine Q0T (b := decide (f = g)) (by kernel_rfl) (by kernel_rfl) (by kernel_rfl) ?_ h
  rw [Q8N]
  have := K3 (P := P) (w := w) (d := 9999) (xs := [S f.op, I f.n, S f.s].toArray) (ys := [S g.op, I g.n, S g.s].toArray) (f := ⟨"Op", T.c, 0, false, "", "", 0⟩) (by decide) rfl rfl (Rr X7 _ _)
    (K3 (f := ⟨"N", T.af, 1, false, "", "", 16⟩) (by decide) rfl rfl (Pb (k := .i64) (by kernel_rfl) _ _) (K3 (f := ⟨"S", T.c, 2, false, "", "", 24⟩) (by decide) rfl rfl (Rr X7 _ _) Q0D))
  rw [this]
  congr 1
  obtain ⟨a1, a2, a3⟩ := f
  obtain ⟨b1, b2, b3⟩ := g
  simp [Bool.decide_and]
theorem Q8V : (P.fieldsOf T.l).toList = [⟨"From", T.d, 0, false, "", "", 0⟩, ⟨"To", T.d, 1, false, "", "", 8⟩, ⟨"At", T.d, 2, false, "", "", 16⟩, ⟨"Class", T.c, 3, false, "", "", 24⟩] := by kernel_rfl
set_option maxRecDepth 100000 in
theorem Q80 {ox oy : Operand} {f g : Cat} (h : K (.bool (!decide (f = g))) w) : Q3 P .neq T.l ox oy (.agg [I f.frm, I f.to, I f.at_, S f.cls].toArray) (.agg [I g.frm, I g.to, I g.at_, S g.cls].toArray) w K := by
  refine Q0T (b := decide (f = g)) (by kernel_rfl) (by kernel_rfl) (by kernel_rfl) ?_ h
  rw [Q8V]
  have := K3 (P := P) (w := w) (d := 9999) (xs := [I f.frm, I f.to, I f.at_, S f.cls].toArray) (ys := [I g.frm, I g.to, I g.at_, S g.cls].toArray) (f := ⟨"From", T.d, 0, false, "", "", 0⟩) (by decide) rfl rfl (Pb (k := .i64) (by kernel_rfl) _ _)
    (K3 (f := ⟨"To", T.d, 1, false, "", "", 8⟩) (by decide) rfl rfl (Pb (k := .i64) (by kernel_rfl) _ _) (K3 (f := ⟨"At", T.d, 2, false, "", "", 16⟩) (by decide) rfl rfl (Pb (k := .i64) (by kernel_rfl) _ _) (K3 (f := ⟨"Class", T.c, 3, false, "", "", 24⟩) (by decide) rfl rfl (Rr X7 _ _) Q0D)))
  rw [this]
  congr 1
  obtain ⟨a1, a2, a3, a4⟩ := f
  obtain ⟨b1, b2, b3, b4⟩ := g
  simp [Bool.decide_and]
end Go.Proofs.YtdnfaboigajkhaaGreatDoor

namespace Go.Proofs.YtdnfaboigajkhaaGreatDoor
open Go.Emb Go.RowKit Go.Kd
variable {w : World} {K : Value → World → Prop}
theorem bt {w w1 w2 : World} (h1 : Below w.heap.size w w1) (h2 : Below w1.heap.size w1 w2) : Below w.heap.size w w2 := h1.trans (h2.mono h1.size)
theorem Q7X {a : List UInt8} (h : D5 a = true) : Kd.O5 a ++ [91, 93] = a := by
  simp only [D5, Bool.and_eq_true, decide_eq_true_eq] at h
  rw [← h.2, Kd.O5, List.take_append_drop]
theorem Pv {a : List UInt8} (h : name a = true) : D5 a = false := by
  cases a with
  | nil => rfl
  | cons c r =>
    cases he : D5 (c :: r) with
    | false => rfl
    | true =>
      exfalso
      simp only [name, Bool.and_eq_true, List.all_eq_true] at h
      have hc := Q7X he
      have : (93 : UInt8) ∈ (c :: r) := by rw [← hc]; simp
      have := h.2 _ this
      revert this; decide
theorem Q5v {a : List UInt8} (h : name a = true) : V5 a = (a, 0) := by rw [Zc, Pv h]; simp
theorem Q1H {a : List UInt8} (h : L3 a = true) : name a = true ∧ right a = true ∧ plain a = false := by
  cases a with
  | nil => simp [L3] at h
  | cons c r =>
    have hn : name (c :: r) = true := by simp only [L3, Bool.and_eq_true] at h; exact h.1
    refine ⟨hn, ?_, ?_⟩
    · rw [right, Q5v hn]; simp [h]
    · simp only [L3, Bool.and_eq_true] at h
      have hg := h.2
      simp only [plain, Bool.or_eq_false_iff, decide_eq_false_iff_not]
      refine ⟨⟨?_, ?_⟩, ?_⟩ <;> intro e <;> injection e with e1 e2 <;> subst e1 <;> revert hg <;> decide
end Go.Proofs.YtdnfaboigajkhaaGreatDoor
