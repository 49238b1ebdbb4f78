/- Rules for one operation each. -/
import Derived.Test.YtafleomjmjjlbaaAw1
namespace Go.Aw
open Go

def lput (L : Slots) (d : Option Tmp) (v : Value) : Slots := match d with
  | some d => (d, v) :: L
  | none => L

def dstOk (n : Nat) (d : Option Tmp) : Bool := match d with
  | some d => Nat.blt d n
  | none => true

theorem Fr.lput {n : Nat} {a : Act} {L : Slots} (h : Fr n a L) {d : Option Tmp} (hd : dstOk n d = true) (v : Value) : Fr n (a.put d v) (lput L d v) := by
  cases d with
  | none => exact h
  | some d => exact h.put (by simpa [dstOk, Nat.blt_eq] using hd) v

section
variable {P : Program} {n : Nat} {Q : Post} {L : Slots} {m m' : Snap} {H H' : Hp} {ops : Array Oper} {rest : List Oper}

theorem r_nil (h : Q .normal L m H) : Run P n ops Q [] L m H := fun _ _ hf hs => ⟨L, m, H, hf, hs, h⟩

theorem r_weak (L' : Slots) {l : List Oper} (hs : Sub L L') (h : Run P n ops Q l L' m H) : Run P n ops Q l L m H := fun a w hf hw => h a w (hf.weak hs) hw

/-- An operation that only computes or reads: it yields 'v' and leaves the world. -/
def Yl (P : Program) (n : Nat) (L : Slots) (m : Snap) (H : Hp) (o : Oper) (v : Value) : Prop :=
  ∀ a, Fr n a L → ∀ w, St m H w → (execOp a.eval o).run P w = .ok (.value v) w

/-- One operation, whatever its guard: behind it K holds of the state. -/
def SP (P : Program) (n : Nat) (L : Slots) (m : Snap) (H : Hp) (o : Oper) (K : Slots → Snap → Hp → Prop) : Prop :=
  ∀ a w, Fr n a L → St m H w → ∀ (K' : Act → World → Prop) (Q' : Exit → Act → World → Prop), (∀ a' w' L' m' H', Fr n a' L' → St m' H' w' → K L' m' H' → K' a' w') → o.wp P a w K' Q'

theorem s_value {o : Oper} {K : Slots → Snap → Hp → Prop} (hd : dstOk n o.dst = true)
    (h : ∀ a w, Fr n a L → St m H w → ∃ v m' H' w', (execOp a.eval o).run P w = .ok (.value v) w' ∧ St m' H' w' ∧ K (lput L o.dst v) m' H') : SP P n L m H o K := by
  intro a w hf hs K' Q' hK
  obtain ⟨v, m', H', w', hx, hs', hr⟩ := h a w hf hs
  unfold Oper.wp
  rw [hx, Oper.upon_value]
  exact hK _ _ _ _ _ (hf.lput hd v) hs' hr

theorem s_skip {o : Oper} {K : Slots → Snap → Hp → Prop} (hd : dstOk n o.dst = true)
    (h : ∀ a w, Fr n a L → St m H w → ∃ m' H' w', (execOp a.eval o).run P w = .ok .skip w' ∧ St m' H' w' ∧ K (lput L o.dst undef) m' H') : SP P n L m H o K := by
  intro a w hf hs K' Q' hK
  obtain ⟨m', H', w', hx, hs', hr⟩ := h a w hf hs
  unfold Oper.wp
  rw [hx, Oper.upon_skip]
  exact hK _ _ _ _ _ (hf.lput hd undef) hs' hr

theorem s_y {o : Oper} {v : Value} {K : Slots → Snap → Hp → Prop} (hd : dstOk n o.dst = true) (hy : Yl P n L m H o v) (h : K (lput L o.dst v) m H) : SP P n L m H o K :=
  s_value hd fun a w hf hs => ⟨v, m, H, w, hy a hf w hs, hs, h⟩

theorem r_s {o : Oper} (hg : o.guard = none) (h : SP P n L m H o (fun L m H => Run P n ops Q rest L m H)) : Run P n ops Q (o :: rest) L m H := by
  intro a w hf hs
  exact wpList_plain hg fun K hK => h a w hf hs K _ fun a' w' L' m' H' h1 h2 h3 => hK _ _ (h3 a' w' h1 h2)

theorem r_y {o : Oper} {v : Value} (hg : o.guard = none) (hd : dstOk n o.dst = true) (hy : Yl P n L m H o v) (h : Run P n ops Q rest (lput L o.dst v) m H) : Run P n ops Q (o :: rest) L m H :=
  r_s hg (s_y hd hy h)

/-- What a guard names. -/
def gval (ops : Array Oper) (L : Slots) (j : Nat) : Option Value := ((ops[j]?).bind (·.dst)).bind (look L ·)

theorem yielded_of {a : Act} (hf : Fr n a L) {j : Nat} {b : Bool} (h : gval ops L j = some (.bool b)) : yielded ops a.tmps j = some b := by
  unfold gval at h
  unfold yielded
  cases hd : (ops[j]?).bind (·.dst) with
  | none => rw [hd] at h; cases h
  | some d =>
    rw [hd] at h
    simp only [Option.bind_some] at h ⊢
    rw [hf.get d _ h]

/-- A guarded operation whose guard says no. -/
theorem r_no {o : Oper} {j : Nat} {b t : Bool} (hg : o.guard = some (j, b)) (hd : dstOk n o.dst = true) (hj : gval ops L j = some (.bool t)) (hne : t ≠ b)
    (h : Run P n ops Q rest (lput L o.dst undef) m H) : Run P n ops Q (o :: rest) L m H := by
  intro a w hf hs
  unfold wpList
  have hy := yielded_of hf hj
  have : Region.wanted o (yielded ops a.tmps) = false := by
    simp only [Region.wanted, hg, hy]
    cases t <;> cases b <;> first | rfl | exact absurd rfl hne
  rw [if_neg (by rw [this]; simp)]
  exact h _ _ (hf.lput hd undef) hs

/-- A guarded operation whose guard says yes: as if it bore none. -/
theorem r_yes {d : Option Tmp} {op : Op} {ty : TypeId} {ps : String} {af : Array Edge} {j : Nat} {b : Bool} (hj : gval ops L j = some (.bool b))
    (h : SP P n L m H ⟨d, op, ty, ps, af, some (j, b)⟩ (fun L m H => Run P n ops Q rest L m H)) : Run P n ops Q (⟨d, op, ty, ps, af, some (j, b)⟩ :: rest) L m H := by
  intro a w hf hs
  unfold wpList
  have hy := yielded_of hf hj
  rw [if_pos (by simp [Region.wanted, hy])]
  exact .inl (h a w hf hs _ _ fun a' w' L' m' H' h1 h2 h3 => h3 a' w' h1 h2)

variable {d : Option Tmp} {ty : TypeId} {ps : String} {af : Array Edge} {gd : Option (Nat × Bool)}

theorem y_move {x : Operand} {v : Value} (hx : opv L x = some v) :
    Yl P n L m H ⟨d, .move x, ty, ps, af, gd⟩ v :=
  fun a hf w _ => (by simp only [execOp, hf.eval hx]; rfl)

theorem y_assign {x : Operand} {v : Value} (hx : opv L x = some v) :
    Yl P n L m H ⟨d, .assign x, ty, ps, af, gd⟩ v :=
  fun a hf w _ => (by simp only [execOp, hf.eval hx]; rfl)

theorem y_pick_t {c x y : Operand} {v : Value} (hc : opv L c = some (.bool true)) (hx : opv L x = some v) :
    Yl P n L m H ⟨d, .pick c x y, ty, ps, af, gd⟩ v :=
  fun a hf w _ => (by simp only [execOp, hf.eval hc, hf.eval hx]; rfl)

theorem y_pick_f {c x y : Operand} {v : Value} (hc : opv L c = some (.bool false)) (hy : opv L y = some v) :
    Yl P n L m H ⟨d, .pick c x y, ty, ps, af, gd⟩ v :=
  fun a hf w _ => (by simp only [execOp, hf.eval hc, hf.eval hy]; rfl)

theorem y_not {t ty' : TypeId} {x : Operand} {b : Bool} (hx : opv L x = some (.bool b)) :
    Yl P n L m H ⟨d, .unOp .not t x, ty', ps, af, gd⟩ (.bool (!b)) :=
  fun a hf w _ => (by simp only [execOp, hf.eval hx]; rfl)

/-- The outcome of an operation on two integers of one kind. -/
def iop (op : BinOp) (k : IntKind) (a b : Int) : Option Value := match op with
  | .add => some (.int k (k.wrap (a + b)))
  | .sub => some (.int k (k.wrap (a - b)))
  | .mul => some (.int k (k.wrap (a * b)))
  | .eql => some (.bool (a == b))
  | .neq => some (.bool (a != b))
  | .lss => some (.bool (decide (a < b)))
  | .leq => some (.bool (decide (a ≤ b)))
  | .gtr => some (.bool (decide (a > b)))
  | .geq => some (.bool (decide (a ≥ b)))
  | .and => some (.int k (k.wrap (BitVec.ofInt k.bits a &&& BitVec.ofInt k.bits b).toNat))
  | .or => some (.int k (k.wrap (BitVec.ofInt k.bits a ||| BitVec.ofInt k.bits b).toNat))
  | .xor => some (.int k (k.wrap (BitVec.ofInt k.bits a ^^^ BitVec.ofInt k.bits b).toNat))
  | .andNot => some (.int k (k.wrap (BitVec.ofInt k.bits a &&& ~~~(BitVec.ofInt k.bits b)).toNat))
  | .quo => if b = 0 then none else some (.int k (k.wrap (a.tdiv b)))
  | .rem => if b = 0 then none else some (.int k (a.tmod b))
  | _ => none

theorem run_iop {op : BinOp} {k : IntKind} {a b : Int} {v : Value} (h : iop op k a b = some v) (t : TypeId) (x y : Operand) (w : World) :
    (do eqGuard op t x y (.int k a) (.int k b); binOp op t (.int k a) (.int k b) : Sem Value).run P w = .ok v w := by
  have hg : (eqGuard op t x y (.int k a) (.int k b)).run P w = .ok () w := by
    unfold eqGuard
    cases op <;> rfl
  rw [Sem.run_bind, hg, Result.andThen_ok]
  cases op <;> simp only [iop, Option.some.injEq, reduceCtorEq] at h <;> (try (split at h)) <;> (try cases h) <;> simp_all [binOp, Op.intArith, Op.intCmp, Op.intBits, Op.intDiv]

theorem y_iop {op : BinOp} {t t' : TypeId} {x y : Operand} {k : IntKind} {a b : Int} {v : Value} (hx : opv L x = some (.int k a)) (hy : opv L y = some (.int k b))
    (hv : iop op k a b = some v) :
    Yl P n L m H ⟨d, .binOp op t x y t', ty, ps, af, gd⟩ v :=
  fun a hf w _ => (by
    simp only [execOp, hf.eval hx, hf.eval hy]
    rw [Sem.run_bind, run_iop hv]; rfl)
end
end Go.Aw
