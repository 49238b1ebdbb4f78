/- Rules: items told in another order; bytes and words. -/
import Derived.Test.YtafleomjmjjlbaaAw12
namespace Go.Aw
open Go

theorem St.front {m : Snap} {H : Hp} {w : World} {i : Nat} {it : Item} (h : St m H w) (hi : hget H i = some it) : St m (it :: hdel H i) w := h.perm (hget_perm hi).1

def bv (c : UInt8) : Value := .int .u8 (c.toNat : Int)

theorem wrap_u8 (n : Int) : IntKind.u8.wrap n = n % 256 := by simp [IntKind.wrap, IntKind.bits, IntKind.signed]
theorem wrap_i64_w (a : W) : IntKind.i64.wrap (a.toNat : Int) = a.toInt := by
  have := a.isLt
  simp only [IntKind.wrap, IntKind.bits, IntKind.signed, BitVec.toInt]
  simp
  omega
theorem wrap_u64_i (n : Int) : IntKind.u64.wrap n = ((BitVec.ofInt 64 n).toNat : Int) := by
  simp only [IntKind.wrap, IntKind.bits, IntKind.signed, BitVec.toNat_ofInt]
  simp
  omega

section
variable {P : Program} {n : Nat} {Q : Post} {L : Slots} {m m0 : Snap} {H X : Hp} {ops : Array Oper} {rest : List Oper} {d : Option Tmp} {ty : TypeId} {ps : String} {af : Array Edge} {gd : Option (Nat × Bool)} {fuel : Nat} {listed : Array Bool}

theorem c_front {c : Code} (i : Nat) {it : Item} (hi : hget H i = some it) (h : RunC P n c Q L m (it :: hdel H i)) : RunC P n c Q L m H := fun a w hf hs => h a w hf (hs.front hi)
theorem r_front {l : List Oper} (i : Nat) {it : Item} (hi : hget H i = some it) (h : Run P n ops Q l L m (it :: hdel H i)) : Run P n ops Q l L m H := fun a w hf hs => h a w hf (hs.front hi)
theorem g_front {S : World → Prop} (i : Nat) {it : Item} (hi : hget H i = some it) (h : AG P n ops Q S fuel listed L m (it :: hdel H i)) : AG P n ops Q S fuel listed L m H := fun a w hf hs => h a w hf (hs.front hi)
theorem g_del {S : World → Prop} (i : Nat) {it : Item} (hi : hget H i = some it) (h : AG P n ops Q S fuel listed L m (hdel H i)) : AG P n ops Q S fuel listed L m H := fun a w hf hs => h a w hf (hs.del hi)

theorem y_conv_w8 {src dst : TypeId} {x : Operand} {a : W} (hx : opv L x = some (wv a)) (hs : P.underlying src = some (.int .u64)) (ht : P.underlying dst = some (.int .u8)) :
    Yl P n L m H ⟨d, .convert src dst x, ty, ps, af, gd⟩ (bv (UInt8.ofNat a.toNat)) :=
  y_conv_int hx (by rw [hs]; rfl) ht (by rw [wrap_u8]; simp)

theorem y_conv_i8 {src dst : TypeId} {x : Operand} {k : IntKind} {a : Int} (hx : opv L x = some (.int k a)) (hs : P.underlying src = some (.int k)) (ht : P.underlying dst = some (.int .u8)) :
    Yl P n L m H ⟨d, .convert src dst x, ty, ps, af, gd⟩ (bv (UInt8.ofNat (a % 256).toNat)) :=
  y_conv_int hx (by rw [hs]; rfl) ht (by
    rw [wrap_u8]
    simp only [UInt8.toNat_ofNat']
    omega)

theorem y_conv_8w {src dst : TypeId} {x : Operand} {c : UInt8} (hx : opv L x = some (bv c)) (hs : P.underlying src = some (.int .u8)) (ht : P.underlying dst = some (.int .u64)) :
    Yl P n L m H ⟨d, .convert src dst x, ty, ps, af, gd⟩ (wv (BitVec.ofNat 64 c.toNat)) :=
  y_conv_int hx (by rw [hs]; rfl) ht (by
    have := c.toNat_lt
    rw [wrap_u64_nat]; simp)

theorem y_conv_wi {src dst : TypeId} {x : Operand} {a : W} (hx : opv L x = some (wv a)) (hs : P.underlying src = some (.int .u64)) (ht : P.underlying dst = some (.int .i64)) :
    Yl P n L m H ⟨d, .convert src dst x, ty, ps, af, gd⟩ (.int .i64 a.toInt) :=
  y_conv_int hx (by rw [hs]; rfl) ht (wrap_i64_w a)

theorem y_conv_iw {src dst : TypeId} {x : Operand} {a : Int} (hx : opv L x = some (.int .i64 a)) (hs : P.underlying src = some (.int .i64)) (ht : P.underlying dst = some (.int .u64)) :
    Yl P n L m H ⟨d, .convert src dst x, ty, ps, af, gd⟩ (wv (BitVec.ofInt 64 a)) :=
  y_conv_int hx (by rw [hs]; rfl) ht (wrap_u64_i a)
end
end Go.Aw
