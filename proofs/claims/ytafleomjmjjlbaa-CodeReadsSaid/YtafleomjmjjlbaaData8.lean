/- For the reference's messages. -/
import Derived.Test.YtafleomjmjjlbaaData7
namespace Go.Aw
open Go
theorem ruleTable_one {l : List (RuleD × Sl)} {x : RuleD × Sl} (h : l.length = 1) (hx : l[0]? = some x) : ruleTable (l.map (·.1)) = ruleSound x.1 := by
  match l, h with
  | [y], _ =>
    simp at hx
    subst hx
    simp [ruleTable, okAt, List.range_succ]
structure MsgS where
  x : MsgD
  sm : Sl
  sr : Sl
  lr : List (RuleD × Sl)
structure FzMs (m : Snap) (s : Sl) (l : List MsgS) : Prop where
  fz : Fz m s.a s.n s.cap 48 (l.map fun p => encMsg p.x p.sm p.sr)
  ok : ∀ p ∈ l, MsgOk m p.x p.sm p.sr p.lr
theorem FzMs.mono {m m' : Snap} {s : Sl} {l : List MsgS} (h : FzMs m s l) (hm : m.le m') : FzMs m' s l := ⟨h.fz.mono hm, fun p hp => (h.ok p hp).mono hm⟩
theorem FzMs.len {m : Snap} {s : Sl} {l : List MsgS} (h : FzMs m s l) : s.n = l.length := by have := h.fz.len; simpa using this.symm
theorem rint1_lt (q : Rs) : (rget 1 q).1.toNat < 256 := by
  unfold rget
  split
  · show (0#64).toNat < 256
    decide
  · exact rnum_lt (k := 1) (by simp; omega) (by decide)
theorem w1_eq (q : Rs) : ((rget 1 q).1 == 1#64) = ((rint 1 q).1 == 1) := by
  have h := rint1_lt q
  simp only [rint]
  generalize (rget 1 q).1 = w at h
  rw [Bool.eq_iff_iff, beq_iff_eq, beq_iff_eq, BitVec.toInt, if_pos (by simp; omega)]
  constructor
  · rintro rfl; rfl
  · intro h1; apply BitVec.eq_of_toNat_eq; simp; omega
theorem w1_gt (q : Rs) : decide ((((rget 1 q).1.toNat : Nat) : Int) > 1) = !decide ((rint 1 q).1 ≤ 1) := by
  have h := rint1_lt q
  have e : (rint 1 q).1 = (((rget 1 q).1.toNat : Nat) : Int) := by simp only [rint]; rw [BitVec.toInt, if_pos (by simp; omega)]
  rw [e, Bool.eq_iff_iff]
  simp only [decide_eq_true_eq, Bool.not_eq_true', decide_eq_false_iff_not]
  omega
section
variable {P : Program} {n : Nat} {L : Slots} {m : Snap} {H : Hp} {d : Option Tmp} {ty : TypeId} {ps : String} {af : Array Edge} {gd : Option (Nat × Bool)}
theorem y_weq1 {t t' : TypeId} {x : Operand} (q : Rs) (hx : opv L x = some (wv (rget 1 q).1)) :
    Yl P n L m H ⟨d, .binOp .eql t x (.const (.int .u64 1)) t', ty, ps, af, gd⟩ (.bool ((rint 1 q).1 == 1)) := by
  rw [← w1_eq]
  exact y_iop hx rfl (by
    show some (Value.bool (((rget 1 q).1.toNat : Int) == 1)) = _
    congr 2
    rw [Bool.eq_iff_iff, beq_iff_eq, beq_iff_eq]
    constructor
    · intro h; apply BitVec.eq_of_toNat_eq; simp; omega
    · intro h; rw [h]; rfl)
theorem y_wgt1 {t t' : TypeId} {x : Operand} (q : Rs) (hx : opv L x = some (wv (rget 1 q).1)) :
    Yl P n L m H ⟨d, .binOp .gtr t x (.const (.int .u64 1)) t', ty, ps, af, gd⟩ (.bool (!decide ((rint 1 q).1 ≤ 1))) := by
  rw [← w1_gt]
  exact y_iop hx rfl rfl
end
theorem r_item {P : Program} {n : Nat} {Q : Post} {L : Slots} {m : Snap} {H : Hp} {ops : Array Oper} {l : List Oper} (i : Nat) {it it' : Item} (hi : hget H i = some it) (he : it = it') (h : Run P n ops Q l L m (it' :: hdel H i)) : Run P n ops Q l L m H := by
  subst he
  exact r_front i hi h
theorem eyStart (r : Nat) (s s0 : Sl) (l : List UInt8) : Item.blk r (.cells [s.v, i64 0, .bool false].toArray 106) = eyItem r s l ⟨s0, l, false⟩ := by simp [eyItem]
theorem at_bad {a b c : Nat} (h : (((a - b : Nat) : Int) != (c : Int)) = true) (hb : b ≤ a) (hc : c = a) : 0 < b := by
  simp only [bne_iff_ne, ne_eq, Int.ofNat_inj] at h
  omega
theorem at_ok {a b c : Nat} (h : (((a - b : Nat) : Int) != (c : Int)) = false) (hb : b ≤ a) (hc : c = a) : b = 0 := by
  simp only [bne_eq_false_iff_eq, Int.ofNat_inj] at h
  omega
theorem decode_bad1 {s : Sl} {l : List UInt8} {p : (MsgD × Bool) × Rs} (hx : rmsg ⟨s, l, false⟩ = p) (h : p.2.e = false) (hb : (!p.1.2) = true) : decode s l = (zMsg, 2) := decode_bad hx h (by rw [hb]; rfl)
theorem decode_bad2 {s : Sl} {l : List UInt8} {p : (MsgD × Bool) × Rs} (hx : rmsg ⟨s, l, false⟩ = p) (h : p.2.e = false) (hb : 0 < p.2.l.length) : decode s l = (zMsg, 2) := decode_bad hx h (by rw [decide_eq_true hb]; simp)
theorem decode_bad3 {s : Sl} {l : List UInt8} {p : (MsgD × Bool) × Rs} (hx : rmsg ⟨s, l, false⟩ = p) (h : p.2.e = false) (hb : (!msgSound p.1.1) = true) : decode s l = (zMsg, 2) := decode_bad hx h (by rw [hb]; simp)
theorem decode_ok3 {s : Sl} {l : List UInt8} {p : (MsgD × Bool) × Rs} (hx : rmsg ⟨s, l, false⟩ = p) (h : p.2.e = false) (h1 : (!p.1.2) = false) (h2 : p.2.l.length = 0) (h3 : (!msgSound p.1.1) = false) : decode s l = (p.1.1, 0) := decode_ok hx h (by rw [h1, h3, h2]; rfl)
theorem rmsg0_suf {q : Rs} {l : List UInt8} (h : Suf l q) : Suf l (rmsg0 q).2 := rint_suf (rint_suf h)
theorem rmod0_suf {q : Rs} {l : List UInt8} (h : Suf l q) : Suf l (rmod0 q).2 := rint_suf (rint_suf (rint_suf (rint_suf (rcube_suf (rint_suf h)))))
theorem rmod_suf {q : Rs} {l : List UInt8} (h : Suf l q) : Suf l (rmod q).2 := racts_suf (rint_suf (rmod0_suf h))
set_option maxRecDepth 100000 in
theorem rrule0_suf {q : Rs} {l : List UInt8} (h : Suf l q) : Suf l (rrule0 q).2 := rint_suf (rint_suf (rint_suf (rint_suf (rint_suf (rint_suf (rint_suf (rcube_suf h)))))))
set_option maxRecDepth 100000 in
theorem rrule_suf {q : Rs} {l : List UInt8} (h : Suf l q) : Suf l (rrule q).2 := racts_suf (rrule0_suf h)
end Go.Aw
