/- Rules: the end of a function, with its items told in another order. -/
import Derived.Test.YtafleomjmjjlbaaAw13
namespace Go.Aw
open Go

def hfront (H : Hp) (i : Nat) : Hp := match hget H i with
  | some it => it :: hdel H i
  | none => H
theorem St.hfront {m : Snap} {H : Hp} {w : World} (i : Nat) (h : St m H w) : St m (hfront H i) w := by
  unfold Go.Aw.hfront
  split
  · rename_i hi; exact h.front hi
  · exact h
def hfronts (H : Hp) : List Nat → Hp
  | [] => H
  | i :: is => hfronts (hfront H i) is
theorem St.hfronts {m : Snap} {w : World} : ∀ {H : Hp} (is : List Nat), St m H w → St m (hfronts H is) w
  | _, [], h => h
  | _, i :: is, h => St.hfronts is (h.hfront i)

section
variable {P : Program} {n : Nat} {L : Slots} {m : Snap} {H : Hp}
theorem e_retf {rs : List ResultVar} {m0 : Snap} {R : Value → Snap → Hp → Prop} {v : Value} (is : List Nat) (k : Nat) (hm : m0.le m) (hv : Res P rs L m H v) (hR : R v m (hdrop (hfronts H is) k)) :
    endQ P rs m0 R .ret L m H := ⟨hm, v, hv, fun _ hs => ⟨m, _, Snap.le.refl m, (hs.hfronts is).hdrop k, hR⟩⟩
theorem e_normf {rs : List ResultVar} {m0 : Snap} {R : Value → Snap → Hp → Prop} {v : Value} (is : List Nat) (k : Nat) (hm : m0.le m) (hv : Res P rs L m H v) (hR : R v m (hdrop (hfronts H is) k)) :
    endQ P rs m0 R .normal L m H := ⟨hm, v, hv, fun _ hs => ⟨m, _, Snap.le.refl m, (hs.hfronts is).hdrop k, hR⟩⟩
theorem wrap_i64_small {n : Int} (h1 : -9223372036854775808 ≤ n) (h2 : n < 9223372036854775808) : IntKind.i64.wrap n = n := by
  simp only [IntKind.wrap, IntKind.bits, IntKind.signed]
  simp
  omega
variable {ops : Array Oper} {d : Option Tmp} {ty : TypeId} {ps : String} {af : Array Edge} {gd : Option (Nat × Bool)}
theorem y_dec' {t t' : TypeId} {x : Operand} {a : Nat} (hx : opv L x = some (.int .i64 (a : Int))) (hb : a ≤ 9223372036854775807) :
    Yl P n L m H ⟨d, .binOp .sub t x (.const (.int .i64 1)) t', ty, ps, af, gd⟩ (.int .i64 ((a : Int) - 1)) :=
  y_iop hx rfl (by
    show some (Value.int .i64 (IntKind.i64.wrap ((a : Int) - 1))) = _
    rw [wrap_i64_small (by omega) (by omega)])
theorem y_decj {t t' : TypeId} {x : Operand} {j : Nat} (hx : opv L x = some (.int .i64 (((j + 1 : Nat) : Int) - 1))) (hb : j ≤ 1152921504606846976) :
    Yl P n L m H ⟨d, .binOp .sub t x (.const (.int .i64 1)) t', ty, ps, af, gd⟩ (.int .i64 ((j : Int) - 1)) :=
  y_iop hx rfl (by
    show some (Value.int .i64 (IntKind.i64.wrap (((j + 1 : Nat) : Int) - 1 - 1))) = _
    rw [wrap_i64_small (by omega) (by omega)]
    congr 2; omega)
theorem y_mul8 {t t' : TypeId} {x : Operand} {j : Nat} (hx : opv L x = some (.int .i64 (((j + 1 : Nat) : Int) - 1))) (hb : j ≤ 1152921504606846) :
    Yl P n L m H ⟨d, .binOp .mul t (.const (.int .i64 8)) x t', ty, ps, af, gd⟩ (.int .i64 ((8 * j : Nat) : Int)) :=
  y_iop rfl hx (by
    show some (Value.int .i64 (IntKind.i64.wrap (8 * (((j + 1 : Nat) : Int) - 1)))) = _
    rw [wrap_i64_small (by omega) (by omega)]
    congr 2; omega)
end
end Go.Aw
