/- For the reference's functions. -/
import Derived.Test.YtafleomjmjjlbaaData6
namespace Go.Aw
open Go

section
variable {P : Program} {n : Nat} {L : Slots} {m : Snap} {H : Hp} {d : Option Tmp} {ty : TypeId} {ps : String} {af : Array Edge} {gd : Option (Nat × Bool)}
theorem y_conv_in {src dst : TypeId} {x : Operand} {a : Nat} (hx : opv L x = some (.int .i64 (a : Int))) (hs : P.underlying src = some (.int .i64)) (ht : P.underlying dst = some (.int .u64)) (ha : a < 18446744073709551616) :
    Yl P n L m H ⟨d, .convert src dst x, ty, ps, af, gd⟩ (.int .u64 (a : Int)) :=
  y_conv_int hx (by rw [hs]; rfl) ht (by rw [wrap_u64_nat, Nat.mod_eq_of_lt (by simpa using ha)])
theorem y_conv_ij {src dst : TypeId} {x : Operand} {a : Nat} (hx : opv L x = some (.int .i64 (((a + 1 : Nat) : Int) - 1))) (hs : P.underlying src = some (.int .i64)) (ht : P.underlying dst = some (.int .u64)) (ha : a < 18446744073709551616) :
    Yl P n L m H ⟨d, .convert src dst x, ty, ps, af, gd⟩ (.int .u64 (a : Int)) :=
  y_conv_int hx (by rw [hs]; rfl) ht (by rw [show (((a + 1 : Nat) : Int) - 1) = (a : Int) by omega, wrap_u64_nat, Nat.mod_eq_of_lt (by simpa using ha)])
end
theorem fits_lt {x : W} {k : Nat} (hk : k ≤ 63) : decide (((x.toNat : Nat) : Int) < (((1#64) <<< k).toNat : Nat)) = ((x >>> k) == 0) := by
  have e : ((1#64) <<< k).toNat = 2 ^ k := by
    rw [BitVec.toNat_shiftLeft, Nat.shiftLeft_eq]
    simp
    exact (Nat.pow_lt_pow_right (by decide : 1 < 2) (by omega : k < 64))
  rw [e, Bool.eq_iff_iff, decide_eq_true_iff, beq_iff_eq, Int.ofNat_lt]
  constructor
  · intro h
    apply BitVec.eq_of_toNat_eq
    rw [BitVec.toNat_ushiftRight, Nat.shiftRight_eq_div_pow, Nat.div_eq_of_lt h]; rfl
  · intro h
    have := congrArg BitVec.toNat h
    rw [BitVec.toNat_ushiftRight, Nat.shiftRight_eq_div_pow] at this
    have h0 : x.toNat / 2 ^ k = 0 := this
    exact (Nat.div_eq_zero_iff_lt (Nat.pow_pos (by decide))).1 h0
theorem hsz_le (n : Int) : hsz n ≤ 48 := by
  unfold hsz
  split
  · rename_i h
    obtain ⟨k, hk, rfl⟩ : ∃ k : Nat, k < 12 ∧ n = k := by simp [there] at h; exact ⟨n.toNat, by omega, by omega⟩
    match k, hk with
    | 0, _ | 1, _ | 2, _ | 3, _ | 4, _ | 5, _ | 6, _ | 7, _ | 8, _ | 9, _ | 10, _ | 11, _ => decide
  · omega
theorem cget_size (k : Nat) (hk : k < 12) : cget (size12.map fun n => i64 ((n : Nat) : Int)) (0 + k * 1) = some (i64 ((size12.getD k 0 : Nat) : Int)) := by
  match k, hk with
  | 0, _ | 1, _ | 2, _ | 3, _ | 4, _ | 5, _ | 6, _ | 7, _ | 8, _ | 9, _ | 10, _ | 11, _ => rfl
theorem cget_head0 (h : Head) (k : Nat) (hk : k < 12) : cget (encHead h) (0 + k * 1) = some (wv (h.at k)) := by rw [Nat.zero_add]; exact cget_head h k hk
theorem headCmp_drop (a b : Head) {i : Nat} (hi : i < 12) : cmpL ((headL a).drop i) ((headL b).drop i) = if cmpW (a.at i) (b.at i) ≠ 0 then cmpW (a.at i) (b.at i) else cmpL ((headL a).drop (i + 1)) ((headL b).drop (i + 1)) := by
  match i, hi with
  | 0, _ | 1, _ | 2, _ | 3, _ | 4, _ | 5, _ | 6, _ | 7, _ | 8, _ | 9, _ | 10, _ | 11, _ => rfl
theorem all_take_succ {α : Type} {p : α → Bool} {l : List α} {i : Nat} {x : α} (hx : l[i]? = some x) : (l.take (i + 1)).all p = ((l.take i).all p && p x) := by
  rw [List.take_add_one, hx]; simp
theorem all_false_at {α : Type} {p : α → Bool} {l : List α} {i : Nat} {x : α} (hx : l[i]? = some x) (h : p x = false) : l.all p = false := by
  simp only [List.all_eq_false, Bool.not_eq_true]
  exact ⟨x, List.mem_of_getElem? hx, h⟩
theorem cmpW_lt {a b : W} (h : a < b) : cmpW a b = -1 := by simp [cmpW, h]
theorem cmpW_gt {a b : W} (h1 : b ≤ a) (h : b < a) : cmpW a b = 1 := by unfold cmpW; rw [if_neg (BitVec.not_lt.2 h1), if_pos h]
theorem cmpW_eq {a b : W} (h1 : b ≤ a) (h : a ≤ b) : cmpW a b = 0 := by unfold cmpW; rw [if_neg (BitVec.not_lt.2 h1), if_neg (BitVec.not_lt.2 h)]

abbrev FzT (m : Snap) (s : Sl) (l : List Bool) : Prop := Fz m s.a s.n s.cap 1 (l.map fun b => [.bool b])
theorem Fz.lenT {m : Snap} {s : Sl} {l : List Bool} (h : FzT m s l) : s.n = l.length := by have := h.len; simpa using this.symm
def bitsL (x : W) : Nat → List Bool
  | 0 => []
  | k + 1 => ((x >>> k) &&& 1#64 == 1#64) :: bitsL x k
@[simp] theorem bitsL_len (x : W) : ∀ k, (bitsL x k).length = k
  | 0 => rfl
  | k + 1 => by simp [bitsL, bitsL_len x k]
def tch (p q : Bool) : UInt8 := if !q then 120 else if p then 49 else 48
theorem tch_x {p q : Bool} (h : (!q) = true) : tch p q = 120 := by unfold tch; rw [if_pos h]
theorem tch_1 {p q : Bool} (h : (!q) = false) (hp : p = true) : tch p q = 49 := by unfold tch; rw [if_neg (by simp [h]), if_pos hp]
theorem tch_0 {p q : Bool} (h : (!q) = false) (hp : p = false) : tch p q = 48 := by unfold tch; rw [if_neg (by simp [h]), if_neg (by simp [hp])]
def rowT (c : Cube) (i : Nat) : List UInt8 := List.zipWith tch (bitsL (c.value.at i) (hsz (i : Int))) (bitsL (c.care.at i) (hsz (i : Int)))
@[simp] theorem rowT_len (c : Cube) (i : Nat) : (rowT c i).length = hsz (i : Int) := by simp [rowT]
def textN (c : Cube) : Nat → List UInt8
  | 0 => []
  | i + 1 => textN c i ++ rowT c i
theorem textN_len (c : Cube) : ∀ i, (textN c i).length ≤ 48 * i
  | 0 => Nat.le_refl _
  | i + 1 => by
    have h1 := textN_len c i
    have h2 := hsz_le (i : Int)
    simp only [textN, List.length_append, rowT_len]
    omega
theorem rowT_step {c : Cube} {i k : Nat} {p q : Bool} (h1 : (bitsL (c.value.at i) (hsz (i : Int)))[k]? = some p) (h2 : (bitsL (c.care.at i) (hsz (i : Int)))[k]? = some q) : (rowT c i).take (k + 1) = (rowT c i).take k ++ [tch p q] := by
  rw [List.take_add_one]
  congr 1
  simp [rowT, List.getElem?_zipWith, h1, h2]
theorem textN_step {c : Cube} {i k : Nat} (h : hsz (i : Int) ≤ k) : textN c (i + 1) = textN c i ++ (rowT c i).take k := by
  rw [List.take_of_length_le (by simpa using h)]; rfl
theorem actsSound_all (l : List ActD) : actsSound l = (l.all actSound && decide ((l.length : Int) ≤ 8)) := by
  unfold actsSound
  rw [Bool.and_comm]
  congr 1
  induction l with
  | nil => rfl
  | cons a r ih => simp only [List.any_cons, List.all_cons, Bool.not_or, Bool.not_not, ih]
end Go.Aw
