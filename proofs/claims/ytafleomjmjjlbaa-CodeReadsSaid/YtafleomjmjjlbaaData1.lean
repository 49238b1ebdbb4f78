/- The data of the program, as Lean's. -/
import Derived.Test.YtafleomjmjjlbaaAw8
namespace Go.Aw
open Go

def Head := Fin 12 → W
def Head.at (h : Head) (k : Nat) : W := h (Fin.ofNat 12 k)
def encHead (h : Head) : List Value := [wv (h 0), wv (h 1), wv (h 2), wv (h 3), wv (h 4), wv (h 5), wv (h 6), wv (h 7), wv (h 8), wv (h 9), wv (h 10), wv (h 11)]

theorem cget_head (h : Head) (k : Nat) (hk : k < 12) : cget (encHead h) (k * 1) = some (wv (h.at k)) := by
  match k, hk with
  | 0, _ | 1, _ | 2, _ | 3, _ | 4, _ | 5, _ | 6, _ | 7, _ | 8, _ | 9, _ | 10, _ | 11, _ => rfl

structure Cube where
  value : Head
  care : Head
def encCube (c : Cube) : List Value := encHead c.value ++ encHead c.care

theorem cget_value (c : Cube) (k : Nat) (hk : k < 12) : cget (encCube c) (0 + k * 1) = some (wv (c.value.at k)) := by
  match k, hk with
  | 0, _ | 1, _ | 2, _ | 3, _ | 4, _ | 5, _ | 6, _ | 7, _ | 8, _ | 9, _ | 10, _ | 11, _ => rfl
theorem cget_care (c : Cube) (k : Nat) (hk : k < 12) : cget (encCube c) (12 + k * 1) = some (wv (c.care.at k)) := by
  match k, hk with
  | 0, _ | 1, _ | 2, _ | 3, _ | 4, _ | 5, _ | 6, _ | 7, _ | 8, _ | 9, _ | 10, _ | 11, _ => rfl

/-- A constant word. -/
theorem opv_wc {L : Slots} (c : W) : opv L (.const (.int .u64 (c.toNat : Int))) = some (wv c) := rfl

def there (n : Int) : Bool := decide (0 ≤ n) && decide (n < 12)
theorem there_spec {n : Int} (h : (!there n) = false) : ∃ k : Nat, k < 12 ∧ n = (k : Int) := by
  simp [there] at h
  exact ⟨n.toNat, by omega, by omega⟩
def size12 : List Nat := [16, 48, 48, 16, 12, 4, 32, 32, 8, 8, 12, 12]
def hsz (n : Int) : Nat := if there n then size12.getD n.toNat 0 else 0
theorem hsz_nat {k : Nat} (h : k < 12) : hsz (k : Int) = size12.getD k 0 := by
  have : there (k : Int) = true := by simp [there]; omega
  simp [hsz, this]
def fits (n : Int) (x : W) : Bool := (x >>> hsz n) == 0
def headSound (h : Head) : Bool := (List.range 12).all fun i => fits (i : Int) (h.at i)
def cubeSound (c : Cube) : Bool := headSound c.care && (List.range 12).all fun i => (c.value.at i &&& ~~~(c.care.at i)) == 0
def cubeHas (c : Cube) (h : Head) : Bool := ((List.range 12).all fun i => (h.at i &&& c.care.at i) == c.value.at i) && cubeSound c && headSound h
theorem all_range_succ (f : Nat → Bool) (i : Nat) : (List.range (i + 1)).all f = ((List.range i).all f && f i) := by simp [List.range_succ]
theorem all_range_false {f : Nat → Bool} {i n : Nat} (h : f i = false) (hi : i < n) : (List.range n).all f = false := by
  simp only [List.all_eq_false, List.mem_range, Bool.not_eq_true]
  exact ⟨i, hi, h⟩
/-- A slice's head. -/
structure Sl where
  a : Option Addr
  n : Nat
  cap : Nat
def Sl.v (s : Sl) : Value := .slice s.a s.n s.cap
def Sl.ok (s : Sl) : Prop := s.a = none → s.cap = 0

end Go.Aw
