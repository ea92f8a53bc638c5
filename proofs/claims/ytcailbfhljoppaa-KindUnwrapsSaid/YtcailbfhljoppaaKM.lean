/-! kinds, as plain functions of lists of bytes -/
set_option autoImplicit false
namespace Go.Kd
abbrev Str := List UInt8
def great (c : Int) : Bool := decide (65 ≤ c) && decide (c ≤ 90)
def small (c : Int) : Bool := decide (97 ≤ c) && decide (c ≤ 122)
def digit (c : Int) : Bool := decide (48 ≤ c) && decide (c ≤ 57)
def alnum (c : Int) : Bool := great c || small c || digit c
def name (s : Str) : Bool := match s with
  | [] => false
  | c :: _ => decide (s.length ≤ 32) && !digit c.toNat && s.all (fun b => alnum b.toNat)
def clas (s : Str) : Bool := match s with
  | [] => false
  | c :: _ => name s && great c.toNat
def member (s : Str) : Bool := match s with
  | [] => false
  | c :: _ => name s && small c.toNat
def plain (s : Str) : Bool := decide (s = [105, 110, 116]) || decide (s = [98, 111, 111, 108]) || decide (s = [116, 101, 120, 116])
/-- does [] stand behind? -/
def arr (s : Str) : Bool := decide (2 ≤ s.length) && decide (s.drop (s.length - 2) = [91, 93])
def cutA (s : Str) : Str := s.take (s.length - 2)
def baseN : Nat → Str → Str × Nat
  | 0, s => (s, 0)
  | n + 1, s => if arr s then ((baseN n (cutA s)).1, (baseN n (cutA s)).2 + 1) else (s, 0)
def base (s : Str) : Str × Nat := baseN s.length s
def right (s : Str) : Bool := decide ((base s).2 ≤ 3) && (plain (base s).1 || clas (base s).1)
def elem (s : Str) : Str := if arr s && right s then cutA s else []
def deep (s : Str) : Nat := if right s then (base s).2 else 0
def dot (s : Str) : Str × Str × Bool := match s with
  | [] => ([], [], false)
  | c :: r => if c = 46 then ([], r, true) else ((c :: (dot r).1), (dot r).2.1, (dot r).2.2)
def isParts (s : Str) : Bool := (dot s).2.2 && clas (dot s).1 && member (dot s).2.1
/-- the first place of a byte; below 0: nowhere -/
def findB (c : UInt8) (s : Str) : Int := match s.findIdx? (fun b => decide (b = c)) with
  | some i => i
  | none => -1
def dotAt (s : Str) (o : Option Nat) : Str × Str × Bool := match o with
  | some i => (s.take i, s.drop (i + 1), true)
  | none => (s, [], false)
theorem dot_find (s : Str) : dot s = dotAt s (s.findIdx? (fun b => decide (b = 46))) := by
  induction s with
  | nil => rfl
  | cons c r ih =>
    rw [List.findIdx?_cons]
    simp only [dot]
    by_cases h : c = 46
    · simp [h, dotAt]
    · simp only [h, if_false, decide_false, Bool.false_eq_true]
      rw [ih]
      cases r.findIdx? (fun b => decide (b = 46)) with
      | none => simp [dotAt]
      | some i => simp [dotAt]
end Go.Kd
