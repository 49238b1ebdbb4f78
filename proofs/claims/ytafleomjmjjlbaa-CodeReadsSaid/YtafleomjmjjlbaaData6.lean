/- The reference's reader: the same words. -/
import Derived.Test.YtafleomjmjjlbaaData5
namespace Go.Aw
open Go

section
variable {P : Program} {n : Nat} {L : Slots} {m : Snap} {H : Hp} {d : Option Tmp} {ty : TypeId} {ps : String} {af : Array Edge} {gd : Option (Nat × Bool)}
theorem y_addn {t t' : TypeId} {x y : Operand} {a b : Nat} (hx : opv L x = some (.int .i64 (a : Int))) (hy : opv L y = some (.int .i64 (b : Int))) (hb : a + b ≤ 9223372036854775807) :
    Yl P n L m H ⟨d, .binOp .add t x y t', ty, ps, af, gd⟩ (.int .i64 ((a + b : Nat) : Int)) :=
  y_iop hx hy (by
    show some (Value.int .i64 (IntKind.i64.wrap ((a : Int) + (b : Int)))) = _
    rw [wrap_i64_small (by omega) (by omega)]
    congr 2)
theorem y_wadd {t t' : TypeId} {x y : Operand} {a b : W} (hx : opv L x = some (wv a)) (hy : opv L y = some (wv b)) :
    Yl P n L m H ⟨d, .binOp .add t x y t', ty, ps, af, gd⟩ (wv (a + b)) :=
  y_iop hx hy (by
    show some (Value.int .u64 (IntKind.u64.wrap ((a.toNat : Int) + (b.toNat : Int)))) = _
    rw [show ((a.toNat : Int) + (b.toNat : Int)) = ((a.toNat + b.toNat : Nat) : Int) by simp, wrap_u64_nat, ← BitVec.toNat_add]; rfl)
theorem y_wmul {t t' : TypeId} {x y : Operand} {a b : W} (hx : opv L x = some (wv a)) (hy : opv L y = some (wv b)) :
    Yl P n L m H ⟨d, .binOp .mul t x y t', ty, ps, af, gd⟩ (wv (a * b)) :=
  y_iop hx hy (by
    show some (Value.int .u64 (IntKind.u64.wrap ((a.toNat : Int) * (b.toNat : Int)))) = _
    rw [show ((a.toNat : Int) * (b.toNat : Int)) = ((a.toNat * b.toNat : Nat) : Int) by simp, wrap_u64_nat, ← BitVec.toNat_mul]; rfl)
end

theorem shl8_or (a : W) (c : UInt8) : a <<< 8 ||| BitVec.ofNat 64 c.toNat = a * 256#64 + BitVec.ofNat 64 c.toNat := by
  have hc := c.toNat_lt
  apply BitVec.eq_of_toNat_eq
  rw [BitVec.toNat_or, BitVec.toNat_shiftLeft, BitVec.toNat_add, BitVec.toNat_mul, BitVec.toNat_ofNat, BitVec.toNat_ofNat, Nat.mod_eq_of_lt (a := c.toNat) (by omega)]
  have e : a.toNat <<< 8 % 2 ^ 64 = (a.toNat % 2 ^ 56) <<< 8 := by simp only [Nat.shiftLeft_eq]; omega
  rw [e, ← Nat.shiftLeft_add_eq_or_of_lt (by simpa using hc), Nat.shiftLeft_eq]
  omega
theorem rnum_take' {l : List UInt8} {i : Nat} {x : UInt8} (h : l[i]? = some x) : rnum (l.take (i + 1)) = rnum (l.take i) * 256#64 + BitVec.ofNat 64 x.toNat := by
  rw [rnum_take h, shl8_or]

/-- What is left is an end of the bytes. -/
def Suf (l : List UInt8) (q : Rs) : Prop := q.l.length ≤ l.length ∧ q.l = l.drop (l.length - q.l.length)
theorem Suf.get {l : List UInt8} {q : Rs} (h : Suf l q) (i : Nat) : q.l[i]? = l[l.length - q.l.length + i]? := by
  have := h.2
  conv => lhs; rw [this]
  rw [List.getElem?_drop]
theorem rget_suf {k : Nat} {q : Rs} {l : List UInt8} (h : Suf l q) : Suf l (rget k q).2 := by
  unfold rget
  split
  · exact h
  · rename_i h0
    simp at h0
    obtain ⟨h1, h2⟩ := h
    refine ⟨by simp; omega, ?_⟩
    simp only [List.length_drop]
    conv => lhs; rw [h2]
    rw [List.drop_drop]
    congr 1
    omega
abbrev eyItem (r : Nat) (s : Sl) (l : List UInt8) (q : Rs) : Item := .blk r (.cells [s.v, i64 ((l.length - q.l.length : Nat) : Int), .bool q.e].toArray 106)
theorem rint_suf {k : Nat} {q : Rs} {l : List UInt8} (h : Suf l q) : Suf l (rint k q).2 := rget_suf h
theorem rheadN_suf {q : Rs} {l : List UInt8} (h : Suf l q) : ∀ i, Suf l (rheadN i q).2
  | 0 => h
  | i + 1 => rget_suf (rheadN_suf h i)
theorem rhead_suf {q : Rs} {l : List UInt8} (h : Suf l q) : Suf l (rhead q).2 := rheadN_suf h 12
theorem rcube_suf {q : Rs} {l : List UInt8} (h : Suf l q) : Suf l (rcube q).2 := rhead_suf (rhead_suf h)
theorem ract_suf {q : Rs} {l : List UInt8} (h : Suf l q) : Suf l (ract q).2 := rget_suf (rget_suf (rget_suf (rget_suf h)))
theorem ractsN_suf {l : List UInt8} : ∀ {n : Nat} {q : Rs}, Suf l q → Suf l (ractsN n q).2
  | 0, q, h => h
  | n + 1, q, h => by
    unfold ractsN; split
    · exact h
    · exact ractsN_suf (ract_suf h)
theorem racts_suf {q : Rs} {l : List UInt8} (h : Suf l q) : Suf l (racts q).2 := ractsN_suf (rint_suf h)
theorem Suf.start (s : Sl) (l : List UInt8) : Suf l ⟨s, l, false⟩ := ⟨Nat.le_refl _, by simp⟩
end Go.Aw
