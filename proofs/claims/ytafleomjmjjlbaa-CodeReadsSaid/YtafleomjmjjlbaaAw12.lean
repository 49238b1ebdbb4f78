/- Rules: blocks that are given up; a slice of an array. -/
import Derived.Test.YtafleomjmjjlbaaAw11
namespace Go.Aw
open Go

theorem St.freezeAt {m : Snap} {H : Hp} {w : World} {i b : Nat} {cs : List Value} {T : TypeId} {fz : Nat × Nat} (h : St m H w) (hi : hget H i = some (.blk b (.cells cs.toArray T fz))) :
    ∃ m', m.le m' ∧ St m' (hdel H i) w ∧ ∀ (j : Nat) (v : Value), cs[j]? = some v → m'.cell b j = some v := by
  have h2 := h.perm (hget_perm hi).1
  obtain ⟨h3, h4⟩ := h2.freeze
  exact ⟨_, h3, h4, fun j v hj => by simpa [Snap.cell, Snap.add] using hj⟩

section
variable {P : Program} {n : Nat} {Q : Post} {L : Slots} {m m0 : Snap} {H X : Hp} {ops : Array Oper} {rest : List Oper} {d : Option Tmp} {ty : TypeId} {ps : String} {af : Array Edge} {gd : Option (Nat × Bool)} {fuel : Nat} {listed : Array Bool}

theorem c_freeze {c : Code} {i b : Nat} {cs : List Value} {T : TypeId} {fz : Nat × Nat} (hi : hget H i = some (.blk b (.cells cs.toArray T fz)))
    (h : ∀ m', m.le m' → (∀ (j : Nat) (v : Value), cs[j]? = some v → m'.cell b j = some v) → RunC P n c Q L m' (hdel H i)) : RunC P n c Q L m H := fun a w hf hs => by
  obtain ⟨m', h1, h2, h3⟩ := hs.freezeAt hi
  exact h m' h1 h3 a w hf h2

theorem r_freeze {l : List Oper} {i b : Nat} {cs : List Value} {T : TypeId} {fz : Nat × Nat} (hi : hget H i = some (.blk b (.cells cs.toArray T fz)))
    (h : ∀ m', m.le m' → (∀ (j : Nat) (v : Value), cs[j]? = some v → m'.cell b j = some v) → Run P n ops Q l L m' (hdel H i)) : Run P n ops Q l L m H := fun a w hf hs => by
  obtain ⟨m', h1, h2, h3⟩ := hs.freezeAt hi
  exact h m' h1 h3 a w hf h2

theorem g_freeze {S : World → Prop} {i b : Nat} {cs : List Value} {T : TypeId} {fz : Nat × Nat} (hi : hget H i = some (.blk b (.cells cs.toArray T fz)))
    (h : ∀ m', m.le m' → (∀ (j : Nat) (v : Value), cs[j]? = some v → m'.cell b j = some v) → AG P n ops Q S fuel listed L m' (hdel H i)) : AG P n ops Q S fuel listed L m H := fun a w hf hs => by
  obtain ⟨m', h1, h2, h3⟩ := hs.freezeAt hi
  exact h m' h1 h3 a w hf h2

theorem c_del {c : Code} (i : Nat) {it : Item} (hi : hget H i = some it) (h : RunC P n c Q L m (hdel H i)) : RunC P n c Q L m H := fun a w hf hs => h a w hf (hs.del hi)
theorem r_del {l : List Oper} (i : Nat) {it : Item} (hi : hget H i = some it) (h : Run P n ops Q l L m (hdel H i)) : Run P n ops Q l L m H := fun a w hf hs => h a w hf (hs.del hi)

theorem y_dec {t t' : TypeId} {x : Operand} {a : Nat} (hx : opv L x = some (.int .i64 (a : Int))) (h1 : 0 < a) (hb : a ≤ 9223372036854775807) :
    Yl P n L m H ⟨d, .binOp .sub t x (.const (.int .i64 1)) t', ty, ps, af, gd⟩ (.int .i64 ((a - 1 : Nat) : Int)) :=
  y_iop hx rfl (by
    show some (Value.int .i64 (IntKind.i64.wrap ((a : Int) - 1))) = _
    rw [show ((a : Int) - 1) = ((a - 1 : Nat) : Int) by omega, wrap_nat (by omega) rfl])

/-- The whole of an array behind a pointer, as a slice. -/
theorem y_slice_arr {t : TypeId} {x : Operand} {len s : Nat} {b : Bool} {g o : Nat} (hx : opv L x = some (.pointer (some ⟨g, o, none⟩))) (ht : tarray P t = some (len, b, s)) :
    Yl P n L m H ⟨d, .slice t x none none none, ty, ps, af, gd⟩ (.slice (some ⟨g, o, none⟩) len len) := by
  intro ac hf w _
  obtain ⟨e, i, hu, _, hq, hs⟩ := tarray_spec ht
  simp only [execOp, hf.eval hx, Instr.sliceAt, Option.map_none]
  have hsb : (Instr.sliceBounds false len len none none none).run P w = .ok (0, len, len) w := rfl
  by_cases hl : len = 0
  · subst hl
    simp [run_underlying hu, Instr.sureAddr, hsb, sizeOf, typeInfo, hq]
  · have : ¬ len = 0 := hl
    simp [run_underlying hu, Instr.sureAddr, hsb, sizeOf, typeInfo, hq, this, Addr.add]
end

theorem Fz.of_cells {m : Snap} {b n s : Nat} {cs : List Value} {ch : List (List Value)} (hc : ∀ (j : Nat) (v : Value), cs[j]? = some v → m.cell b j = some v) (hl : ch.length = n) (he : ∀ c ∈ ch, c.length = s) (hf : ch.flatten = cs) (hn : n ≤ maxLen) :
    Fz m (some ⟨b, 0, none⟩) n n s ch :=
  ⟨hl, he, Nat.le_refl _, hn, fun k c hk => ⟨b, 0, rfl, fun j v hj => by
    rw [Nat.zero_add]
    exact hc _ v (hf ▸ getElem?_flatten he hk hj)⟩⟩
end Go.Aw
