/- Rules in the forms that the printed walks use. -/
import Derived.Test.YtafleomjmjjlbaaAw5
namespace Go.Aw
open Go

def hdrop (H : Hp) : Nat → Hp
  | 0 => H
  | k + 1 => hdrop H.tail k

theorem St.hdrop {m : Snap} {w : World} : ∀ {H : Hp} (k : Nat), St m H w → St m (hdrop H k) w
  | _, 0, h => h
  | [], k + 1, h => St.hdrop (H := []) k h
  | _ :: r, k + 1, h => St.hdrop (H := r) k h.tail

section
variable {P : Program} {n : Nat} {Q : Post} {L : Slots} {m : Snap} {H : Hp} {ops : Array Oper} {rest : List Oper} {d : Option Tmp} {ty : TypeId} {ps : String} {af : Array Edge} {gd : Option (Nat × Bool)}

theorem e_ret {rs : List ResultVar} {m0 : Snap} {R : Value → Snap → Hp → Prop} {v : Value} (k : Nat) (hm : m0.le m) (hv : Res P rs L m H v) (hR : R v m (hdrop H k)) :
    endQ P rs m0 R .ret L m H := ⟨hm, v, hv, fun _ hs => ⟨m, _, Snap.le.refl m, hs.hdrop k, hR⟩⟩

theorem e_norm {rs : List ResultVar} {m0 : Snap} {R : Value → Snap → Hp → Prop} {v : Value} (k : Nat) (hm : m0.le m) (hv : Res P rs L m H v) (hR : R v m (hdrop H k)) :
    endQ P rs m0 R .normal L m H := ⟨hm, v, hv, fun _ hs => ⟨m, _, Snap.le.refl m, hs.hdrop k, hR⟩⟩

theorem c_ifk {c : Operand} {x y : Code} {t b : Bool} (hc : opv L c = some (.bool t)) (ht : t = b) (h : RunC P n (if b then x else y) Q L m H) : RunC P n (.cond c x y) Q L m H := by
  subst ht
  refine c_cond hc (fun e => ?_) (fun e => ?_)
  · subst e; exact h
  · subst e; exact h

theorem c_ift {c : Operand} {x y : Code} {t : Bool} (hc : opv L c = some (.bool t)) (ht : t = true) (h : RunC P n x Q L m H) : RunC P n (.cond c x y) Q L m H := c_ifk (b := true) hc ht h
theorem c_iff {c : Operand} {x y : Code} {t : Bool} (hc : opv L c = some (.bool t)) (ht : t = false) (h : RunC P n y Q L m H) : RunC P n (.cond c x y) Q L m H := c_ifk (b := false) hc ht h

theorem r_split {j : Nat} {t : Bool} {l : List Oper} (_hj : gval ops L j = some (.bool t)) (h1 : t = true → Run P n ops Q l L m H) (h2 : t = false → Run P n ops Q l L m H) : Run P n ops Q l L m H := by
  cases t
  · exact h2 rfl
  · exact h1 rfl

theorem r_sg {op : Op} {j : Nat} {b t : Bool} (hj : gval ops L j = some (.bool t)) (ht : t = b)
    (h : SP P n L m H ⟨d, op, ty, ps, af, some (j, b)⟩ (fun L m H => Run P n ops Q rest L m H)) : Run P n ops Q (⟨d, op, ty, ps, af, some (j, b)⟩ :: rest) L m H := r_yes (ht ▸ hj) h

theorem r_yg {op : Op} {j : Nat} {b t : Bool} {v : Value} (hj : gval ops L j = some (.bool t)) (ht : t = b) (hd : dstOk n d = true) (hy : Yl P n L m H ⟨d, op, ty, ps, af, some (j, b)⟩ v)
    (h : Run P n ops Q rest (lput L d v) m H) : Run P n ops Q (⟨d, op, ty, ps, af, some (j, b)⟩ :: rest) L m H := r_sg hj ht (s_y hd hy h)

theorem r_no' {op : Op} {j : Nat} {b t : Bool} (hd : dstOk n d = true) (hj : gval ops L j = some (.bool t)) (ht : t = !b)
    (h : Run P n ops Q rest (lput L d undef) m H) : Run P n ops Q (⟨d, op, ty, ps, af, some (j, b)⟩ :: rest) L m H := r_no rfl hd hj (by subst ht; cases b <;> simp) h

theorem y_pickt {c x y : Operand} {t : Bool} {v : Value} (hc : opv L c = some (.bool t)) (ht : t = true) (hx : opv L x = some v) : Yl P n L m H ⟨d, .pick c x y, ty, ps, af, gd⟩ v := y_pick_t (ht ▸ hc) hx
theorem y_pickf {c x y : Operand} {t : Bool} {v : Value} (hc : opv L c = some (.bool t)) (ht : t = false) (hx : opv L y = some v) : Yl P n L m H ⟨d, .pick c x y, ty, ps, af, gd⟩ v := y_pick_f (ht ▸ hc) hx

theorem c_loopw {c : Code} (I : Nat → Slots → Snap → Hp → Prop) (k : Nat) (h0 : ∃ L', Sub L L' ∧ I k L' m H)
    (round : ∀ k L m H, I k L m H → RunC P n c (thenQ (fun L m H => ∃ j L', j < k ∧ Sub L L' ∧ I j L' m H) Q) L m H) : RunC P n (.loop c) Q L m H := by
  refine c_loop (fun k L m H => ∃ L', Sub L L' ∧ I k L' m H) k h0 ?_
  rintro k L m H ⟨L1, hs1, hi1⟩
  refine c_weak L1 hs1 ?_
  refine (round k L1 m H hi1).mono ?_
  intro e L2 m2 H2 hq
  cases e with
  | normal => obtain ⟨j, L3, hj, h3, h4⟩ := hq; exact ⟨j, hj, L3, h3, h4⟩
  | _ => exact hq

theorem c_loopx {α : Type} {c : Code} (S : α → Slots) (G : α → Hp) (I : Nat → α → Snap → Prop) (k : Nat) (x0 : α) (hs : Sub L (S x0)) (hH : H = G x0) (hI : I k x0 m)
    (round : ∀ k x m, I k x m → RunC P n c (thenQ (fun L m H => ∃ j y, j < k ∧ Sub L (S y) ∧ H = G y ∧ I j y m) Q) (S x) m (G x)) : RunC P n (.loop c) Q L m H := by
  refine c_loopw (fun k L m H => ∃ x, L = S x ∧ H = G x ∧ I k x m) k ⟨_, hs, x0, rfl, hH, hI⟩ ?_
  rintro k _ m _ ⟨x, rfl, rfl, hI⟩
  refine (round k x m hI).mono ?_
  intro e L2 m2 H2 hq
  cases e with
  | normal => obtain ⟨j, y, hj, h3, h4, h5⟩ := hq; exact ⟨j, _, hj, h3, y, rfl, h4, h5⟩
  | _ => exact hq

/-- Sums of counters. -/
theorem wrap_nat {k : IntKind} {a : Nat} (h : (a : Int) ≤ 9223372036854775807) (hk : k = .i64) : k.wrap (a : Int) = (a : Int) := by
  subst hk
  simp only [IntKind.wrap, IntKind.bits, IntKind.signed]
  have : (a : Int) % 2 ^ 64 = a := by omega
  simp only [this]
  have h2 : ¬ ((a : Int) ≥ 2 ^ (64 - 1)) := by omega
  simp
  omega

theorem y_inc {t t' : TypeId} {x : Operand} {a : Nat} (hx : opv L x = some (.int .i64 (a : Int))) (hb : a < 9223372036854775807) :
    Yl P n L m H ⟨d, .binOp .add t x (.const (.int .i64 1)) t', ty, ps, af, gd⟩ (.int .i64 ((a + 1 : Nat) : Int)) :=
  y_iop hx rfl (by
    show some (Value.int .i64 (IntKind.i64.wrap ((a : Int) + 1))) = _
    rw [show ((a : Int) + 1) = ((a + 1 : Nat) : Int) by omega, wrap_nat (by omega) rfl])
end

/-- 64-bit words. -/
abbrev W := BitVec 64
def wv (x : W) : Value := .int .u64 (x.toNat : Int)

theorem wrap_u64 (x : W) : IntKind.u64.wrap (x.toNat : Int) = (x.toNat : Int) := by
  have := x.isLt
  simp only [IntKind.wrap, IntKind.bits, IntKind.signed]
  simp
  omega

theorem wrap_u64_nat (x : Nat) : IntKind.u64.wrap (x : Int) = ((x % 2 ^ 64 : Nat) : Int) := by
  simp only [IntKind.wrap, IntKind.bits, IntKind.signed]
  simp

theorem ofInt_w (x : W) : BitVec.ofInt IntKind.u64.bits (x.toNat : Int) = x := by
  show BitVec.ofInt 64 (x.toNat : Int) = x
  rw [BitVec.ofInt_natCast, BitVec.ofNat_toNat]
  simp

def wop (op : BinOp) (a b : W) : Option Value := match op with
  | .and => some (wv (a &&& b))
  | .or => some (wv (a ||| b))
  | .xor => some (wv (a ^^^ b))
  | .andNot => some (wv (a &&& ~~~b))
  | .eql => some (.bool (a == b))
  | .neq => some (.bool (a != b))
  | .lss => some (.bool (decide (a < b)))
  | .gtr => some (.bool (decide (b < a)))
  | _ => none

theorem wop_iop {op : BinOp} {a b : W} {v : Value} (h : wop op a b = some v) : iop op .u64 (a.toNat : Int) (b.toNat : Int) = some v := by
  have heq : ((a.toNat : Int) == (b.toNat : Int)) = (a == b) := by
    rw [Bool.eq_iff_iff, beq_iff_eq, beq_iff_eq, Int.ofNat_inj, BitVec.toNat_inj]
  cases op <;> simp only [wop, reduceCtorEq, Option.some.injEq] at h <;> subst h
  case eql => simp only [iop, heq]
  case neq => simp only [iop, bne, heq]
  case lss => simp [iop, BitVec.lt_def]
  case gtr => simp [iop, BitVec.lt_def]
  case and => show some (Value.int .u64 (IntKind.u64.wrap _)) = _; rw [ofInt_w, ofInt_w]; exact congrArg (fun z => some (Value.int .u64 z)) (wrap_u64 _)
  case or => show some (Value.int .u64 (IntKind.u64.wrap _)) = _; rw [ofInt_w, ofInt_w]; exact congrArg (fun z => some (Value.int .u64 z)) (wrap_u64 _)
  case xor => show some (Value.int .u64 (IntKind.u64.wrap _)) = _; rw [ofInt_w, ofInt_w]; exact congrArg (fun z => some (Value.int .u64 z)) (wrap_u64 _)
  case andNot => show some (Value.int .u64 (IntKind.u64.wrap _)) = _; rw [ofInt_w, ofInt_w]; exact congrArg (fun z => some (Value.int .u64 z)) (wrap_u64 _)

section
variable {P : Program} {n : Nat} {Q : Post} {L : Slots} {m : Snap} {H : Hp} {ops : Array Oper} {rest : List Oper} {d : Option Tmp} {ty : TypeId} {ps : String} {af : Array Edge} {gd : Option (Nat × Bool)}
theorem y_wop {op : BinOp} {t t' : TypeId} {x y : Operand} {a b : W} {v : Value} (hx : opv L x = some (wv a)) (hy : opv L y = some (wv b)) (hv : wop op a b = some v) :
    Yl P n L m H ⟨d, .binOp op t x y t', ty, ps, af, gd⟩ v :=
  y_iop hx hy (wop_iop hv)

/-- A word shifted by a count that is an int. -/
theorem y_wshr {t t' : TypeId} {x y : Operand} {k' : IntKind} {a : W} {b : Nat} (hx : opv L x = some (wv a)) (hy : opv L y = some (.int k' (b : Int))) :
    Yl P n L m H ⟨d, .binOp .shr t x y t', ty, ps, af, gd⟩ (wv (a >>> b)) :=
  y_shift hx hy (by
    have hb : ¬ ((b : Int) < 0) := by omega
    simp only [sop, if_neg hb, wv, Option.some.injEq, Value.int.injEq, true_and, Int.toNat_natCast]
    rw [BitVec.toNat_ushiftRight, Nat.shiftRight_eq_div_pow]
    show (a.toNat : Int).fdiv (2 ^ (min b 64)) = _
    have hc : ((2 : Int) ^ (min b 64)) = ((2 ^ (min b 64) : Nat) : Int) := by simp
    rw [hc, ← Int.ofNat_fdiv]
    congr 1
    rcases Nat.le_total b 64 with h64 | h64
    · rw [Nat.min_eq_left h64]
    · rw [Nat.min_eq_right h64]
      have hlt := a.isLt
      rw [Nat.div_eq_of_lt hlt, Nat.div_eq_of_lt (Nat.lt_of_lt_of_le hlt (Nat.pow_le_pow_right (by omega) h64))])

theorem y_wshl {t t' : TypeId} {x y : Operand} {k' : IntKind} {a : W} {b : Nat} (hx : opv L x = some (wv a)) (hy : opv L y = some (.int k' (b : Int))) (hb64 : b ≤ 64) :
    Yl P n L m H ⟨d, .binOp .shl t x y t', ty, ps, af, gd⟩ (wv (a <<< b)) :=
  y_shift hx hy (by
    have hb : ¬ ((b : Int) < 0) := by omega
    simp only [sop, if_neg hb, wv, Option.some.injEq, Value.int.injEq, true_and, Int.toNat_natCast]
    rw [BitVec.toNat_shiftLeft, Nat.shiftLeft_eq]
    show IntKind.u64.wrap ((a.toNat : Int) * 2 ^ (min b 64)) = _
    rw [Nat.min_eq_left hb64]
    have hc : (a.toNat : Int) * 2 ^ b = ((a.toNat * 2 ^ b : Nat) : Int) := by simp
    rw [hc, wrap_u64_nat])
end
end Go.Aw
