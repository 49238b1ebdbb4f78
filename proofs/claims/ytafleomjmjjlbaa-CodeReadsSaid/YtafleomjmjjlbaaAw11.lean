/- Rules: == of structs and arrays of integers. -/
import Derived.Test.YtafleomjmjjlbaaAw10
import Derived.DeepKeys
import Derived.Laws.StructEq
namespace Go.Aw
open Go

/-- The integers are equal, cell by cell. -/
def ceq : List Value → List Value → Bool
  | [], [] => true
  | .int _ a :: xs, .int _ b :: ys => (a == b) && ceq xs ys
  | _, _ => false

/-- Rows of integers of the same kinds. -/
def alike : List Value → List Value → Prop
  | [], [] => True
  | .int k _ :: xs, .int k' _ :: ys => k = k' ∧ alike xs ys
  | _, _ => False

theorem alike_len : ∀ {xs ys : List Value}, alike xs ys → xs.length = ys.length
  | [], [], _ => rfl
  | .int _ _ :: xs, .int _ _ :: ys, h => by simp only [alike] at h; simp [alike_len h.2]

theorem alike_drop : ∀ {xs ys : List Value} (n : Nat), alike xs ys → alike (xs.drop n) (ys.drop n)
  | [], [], n, _ => by simp [alike]
  | .int _ _ :: xs, .int _ _ :: ys, 0, h => h
  | .int _ _ :: xs, .int _ _ :: ys, n + 1, h => by simp only [alike] at h; simpa using alike_drop n h.2

theorem alike_take : ∀ {xs ys : List Value} (n : Nat), alike xs ys → alike (xs.take n) (ys.take n)
  | [], [], n, _ => by simp [alike]
  | .int _ _ :: xs, .int _ _ :: ys, 0, h => by simp [alike]
  | .int _ _ :: xs, .int _ _ :: ys, n + 1, h => by simp only [alike] at h; simpa [alike] using ⟨h.1, alike_take n h.2⟩

theorem ceq_split : ∀ {xs ys : List Value} (n : Nat), alike xs ys → ceq xs ys = (ceq (xs.take n) (ys.take n) && ceq (xs.drop n) (ys.drop n))
  | [], [], n, _ => by simp [ceq]
  | .int _ a :: xs, .int _ b :: ys, 0, h => by simp [ceq]
  | .int _ a :: xs, .int _ b :: ys, n + 1, h => by
    simp only [alike] at h
    simp only [ceq, List.take_succ_cons, List.drop_succ_cons]
    rw [ceq_split n h.2, Bool.and_assoc]

def eqFs (P : Program) (rec : TypeId → Option Nat) : List Field → Nat → Option Nat
  | [], off => some off
  | f :: fs, off => if f.name ≠ "_" ∧ f.offset = off then match rec f.type with
    | some k => if P.cellsOf f.type = k then eqFs P rec fs (off + k) else none
    | none => none
    else none

/-- A type of integers alone, and of how many. -/
def eqN (P : Program) : Nat → TypeId → Option Nat
  | 0, _ => none
  | d + 1, t => match P.underlying t with
    | some (.int _) => some 1
    | some (.struct fs) => if P.stoodInHeld t then none else eqFs P (eqN P d) fs.toList 0
    | some (.array n e) => match eqN P d e with
      | some k => if P.cellsOf e = k then some (n * k) else none
      | none => none
    | _ => none

/-- A value of a type, as cells. -/
def asV (P : Program) (t : TypeId) (xs : List Value) (v : Value) : Prop := match P.underlying t with
  | some (.struct _) | some (.array _ _) => v = .agg xs.toArray
  | _ => xs = [v]

def EqOk (P : Program) (D : Nat) (t : TypeId) (k : Nat) : Prop := ∀ (w : World) (xs ys : List Value) (x y : Value), xs.length = k → alike xs ys → asV P t xs x → asV P t ys y → (Op.equalIn D t x y).run P w = .ok (ceq xs ys) w

theorem part_asV {P : Program} {w : World} {e : TypeId} {k off : Nat} {xs : List Value} (hc : P.cellsOf e = k) (hu : (P.underlying e).isSome = true) (hk : (match P.underlying e with | some (.struct _) | some (.array _ _) => True | _ => k = 1)) (hl : off + k ≤ xs.length) :
    ∃ v, (part e xs.toArray off).run P w = .ok v w ∧ asV P e ((xs.drop off).take k) v := by
  obtain ⟨D, hD⟩ := Option.isSome_iff_exists.1 hu
  obtain ⟨i, hi⟩ := info_of_underlying hD
  have hsz := run_sizeOf (P := P) w hi
  rw [hc] at hsz
  have agg : (∃ fs, D = .struct fs) ∨ (∃ n e', D = .array n e') → ∃ v, (part e xs.toArray off).run P w = .ok v w ∧ asV P e ((xs.drop off).take k) v := by
    intro h
    refine ⟨.agg ((xs.drop off).take k).toArray, ?_, ?_⟩
    · rcases h with ⟨fs, rfl⟩ | ⟨n, e', rfl⟩ <;> simp [part, isAgg, run_underlying hD, hsz]
    · rcases h with ⟨fs, rfl⟩ | ⟨n, e', rfl⟩ <;> simp [asV, hD]
  have one : (isAgg e).run P w = .ok false w → k = 1 → (∀ v, asV P e [v] v) → ∃ v, (part e xs.toArray off).run P w = .ok v w ∧ asV P e ((xs.drop off).take k) v := by
    intro h1 h2 h3
    subst h2
    have hlt : off < xs.length := by omega
    refine ⟨xs[off], ?_, ?_⟩
    · simp [part, h1, hlt]
    · have : (xs.drop off).take 1 = [xs[off]] := by rw [List.drop_eq_getElem_cons hlt]; rfl
      rw [this]; exact h3 _
  cases D with
  | struct fs => exact agg (.inl ⟨fs, rfl⟩)
  | array n e' => exact agg (.inr ⟨n, e', rfl⟩)
  | _ => exact one (by simp [isAgg, run_underlying hD]) (by simpa [hD] using hk) (fun v => by simp [asV, hD])

theorem eqN_some {P : Program} {d : Nat} {t : TypeId} {k : Nat} (h : eqN P d t = some k) : (P.underlying t).isSome = true ∧ (match P.underlying t with | some (.struct _) | some (.array _ _) => True | _ => k = 1) := by
  cases d with
  | zero => simp [eqN] at h
  | succ d =>
    unfold eqN at h
    cases hu : P.underlying t with
    | none => simp [hu] at h
    | some D => cases D <;> simp_all

theorem run_eqFs {P : Program} {D : Nat} {rec : TypeId → Option Nat} (ih : ∀ t k, rec t = some k → EqOk P D t k ∧ (P.underlying t).isSome = true ∧ (match P.underlying t with | some (.struct _) | some (.array _ _) => True | _ => k = 1)) (w : World) (xs ys : List Value) (hal : alike xs ys) :
    ∀ (fs : List Field) (off tot : Nat), eqFs P rec fs off = some tot → xs.length = tot → (Op.eqFields D xs.toArray ys.toArray fs).run P w = .ok (ceq (xs.drop off) (ys.drop off)) w ∧ off ≤ tot
  | [], off, tot, h, hl => by
    simp only [eqFs, Option.some.injEq] at h
    subst h
    have hl2 := alike_len hal
    refine ⟨?_, Nat.le_refl _⟩
    rw [List.drop_eq_nil_of_le (by omega), List.drop_eq_nil_of_le (by omega)]
    simp [Op.eqFields, ceq]
  | f :: fs, off, tot, h, hl => by
    simp only [eqFs] at h
    split at h
    · rename_i hno
      split at h
      · rename_i k hk
        split at h
        · rename_i hc
          obtain ⟨hE, hus, hk1⟩ := ih f.type k hk
          obtain ⟨hr, hle⟩ := run_eqFs ih w xs ys hal fs (off + k) tot h hl
          have hl2 := alike_len hal
          obtain ⟨a, ha, hva⟩ := part_asV (P := P) (w := w) (off := off) (xs := xs) hc hus hk1 (by omega)
          obtain ⟨b, hb, hvb⟩ := part_asV (P := P) (w := w) (off := off) (xs := ys) hc hus hk1 (by omega)
          have he := hE w ((xs.drop off).take k) ((ys.drop off).take k) a b (by simp; omega) (alike_take k (alike_drop off hal)) hva hvb
          refine ⟨?_, by omega⟩
          rw [ceq_split k (alike_drop off hal), List.drop_drop, List.drop_drop]
          simp only [Op.eqFields, hno.1, ne_eq, not_false_eq_true, if_true, hno.2, Sem.run_bind, ha, hb, he, Result.andThen_ok]
          cases hq : ceq ((xs.drop off).take k) ((ys.drop off).take k) with
          | false => simp
          | true => simpa using hr
        · cases h
      · cases h
    · cases h

theorem run_eqIt {P : Program} {D : Nat} {e : TypeId} {k : Nat} (hE : EqOk P D e k) (hc : P.cellsOf e = k) (hus : (P.underlying e).isSome = true) (hk1 : match P.underlying e with | some (.struct _) | some (.array _ _) => True | _ => k = 1) (w : World) (xs ys : List Value) (hal : alike xs ys) :
    ∀ (n i : Nat), xs.length = (i + n) * k → (Op.eqItems D e k xs.toArray ys.toArray (List.range' i n)).run P w = .ok (ceq (xs.drop (i * k)) (ys.drop (i * k))) w
  | 0, i, hl => by
    have hl2 := alike_len hal
    simp only [Nat.add_zero] at hl
    rw [List.drop_eq_nil_of_le (by omega), List.drop_eq_nil_of_le (by omega)]
    simp [Op.eqItems, ceq]
  | n + 1, i, hl => by
    have hl2 := alike_len hal
    have hle : i * k + k ≤ xs.length := by
      rw [hl, Nat.add_mul, Nat.add_mul, Nat.one_mul]; omega
    obtain ⟨a, ha, hva⟩ := part_asV (P := P) (w := w) (off := i * k) (xs := xs) hc hus hk1 hle
    obtain ⟨b, hb, hvb⟩ := part_asV (P := P) (w := w) (off := i * k) (xs := ys) hc hus hk1 (by omega)
    have he := hE w ((xs.drop (i * k)).take k) ((ys.drop (i * k)).take k) a b (by simp; omega) (alike_take k (alike_drop _ hal)) hva hvb
    have hr := run_eqIt hE hc hus hk1 w xs ys hal n (i + 1) (by rw [hl]; congr 1; omega)
    rw [List.range'_succ, ceq_split k (alike_drop (i * k) hal), List.drop_drop, List.drop_drop]
    rw [show i * k + k = (i + 1) * k by rw [Nat.add_mul, Nat.one_mul]]
    simp only [Op.eqItems, Sem.run_bind, ha, hb, he, Result.andThen_ok]
    cases hq : ceq ((xs.drop (i * k)).take k) ((ys.drop (i * k)).take k) with
    | false => simp
    | true => simpa using hr

theorem eqN_spec {P : Program} : ∀ (d : Nat) (t : TypeId) (k : Nat), eqN P d t = some k → ∀ D, d ≤ D → EqOk P D t k
  | 0, _, _, h, _, _ => by simp [eqN] at h
  | d + 1, t, k, h, 0, hD => by omega
  | d + 1, t, k, h, D + 1, hD => by
    intro w xs ys x y hl hal hx hy
    unfold eqN at h
    cases hu : P.underlying t with
    | none => simp [hu] at h
    | some T =>
      cases T <;> simp only [hu, reduceCtorEq] at h
      case int kd =>
        cases h
        simp only [asV, hu] at hx hy
        subst hx; subst hy
        cases x <;> cases y <;> simp only [alike] at hal
        rename_i k1 a k2 b
        obtain ⟨rfl, _⟩ := hal
        rw [run_equalIn_int w D t k1 kd a b hu]
        simp [ceq]
      case struct fs =>
        split at h
        · cases h
        · rename_i hst
          simp only [asV, hu] at hx hy
          subst hx; subst hy
          have hfs : P.fieldsOf t = fs := by simp [Program.fieldsOf, hu]
          rw [run_equalIn_struct w D t _ _ (by rw [hfs]; exact hu) (by simpa using hst), hfs]
          have := (run_eqFs (P := P) (D := D) (rec := eqN P d) (fun t' k' h' => ⟨eqN_spec d t' k' h' D (by omega), eqN_some h'⟩) w xs ys hal fs.toList 0 k h hl).1
          simpa using this
      case array n e =>
        split at h
        · rename_i k' hk'
          split at h
          · rename_i hc
            cases h
            simp only [asV, hu] at hx hy
            subst hx; subst hy
            obtain ⟨hus, hk1⟩ := eqN_some hk'
            obtain ⟨ee, hee⟩ := Option.isSome_iff_exists.1 hus
            obtain ⟨i, hi⟩ := info_of_underlying hee
            have := run_eqIt (P := P) (D := D) (eqN_spec d e k' hk' D (by omega)) hc hus hk1 w xs ys hal n 0 (by rw [hl]; simp)
            rw [run_equalIn_array w D _ _ hu hi, hc, List.range_eq_range']
            simpa using this
          · cases h
        · cases h

section
variable {P : Program} {n : Nat} {Q : Post} {L : Slots} {m : Snap} {H : Hp} {ops : Array Oper} {rest : List Oper} {d : Option Tmp} {ty : TypeId} {ps : String} {af : Array Edge} {gd : Option (Nat × Bool)}

def isAggT (P : Program) (t : TypeId) : Bool := match P.underlying t with
  | some (.struct _) | some (.array _ _) => true
  | _ => false

theorem y_eqagg {t t' : TypeId} {x y : Operand} {xs ys : List Value} {k dd : Nat} (hx : opv L x = some (.agg xs.toArray)) (hy : opv L y = some (.agg ys.toArray)) (hk : eqN P dd t = some k) (hag : isAggT P t = true) (hdd : Nat.ble dd 10000 = true) (hm : P.eqGuardType P.depth t = false)
    (hl : xs.length = k) (hal : alike xs ys) : Yl P n L m H ⟨d, .binOp .eql t x y t', ty, ps, af, gd⟩ (.bool (ceq xs ys)) := fun ac hf w _ => by
  have hv : ∀ zs : List Value, asV P t zs (.agg zs.toArray) := fun zs => by
    unfold isAggT at hag
    unfold asV
    cases hu : P.underlying t with
    | none => simp [hu] at hag
    | some T => cases T <;> simp_all
  have := eqN_spec dd t k hk 10000 (Nat.le_of_ble_eq_true hdd) w xs ys _ _ hl hal (hv xs) (hv ys)
  simp only [execOp, hf.eval hx, hf.eval hy, Sem.run_bind, run_eqGuard_agg (P := P) w .eql t x y xs.toArray ys.toArray hm, Result.andThen_ok, run_eql_struct, this]
  rfl

theorem y_neagg {t t' : TypeId} {x y : Operand} {xs ys : List Value} {k dd : Nat} (hx : opv L x = some (.agg xs.toArray)) (hy : opv L y = some (.agg ys.toArray)) (hk : eqN P dd t = some k) (hag : isAggT P t = true) (hdd : Nat.ble dd 10000 = true) (hm : P.eqGuardType P.depth t = false)
    (hl : xs.length = k) (hal : alike xs ys) : Yl P n L m H ⟨d, .binOp .neq t x y t', ty, ps, af, gd⟩ (.bool (!ceq xs ys)) := fun ac hf w _ => by
  have hv : ∀ zs : List Value, asV P t zs (.agg zs.toArray) := fun zs => by
    unfold isAggT at hag
    unfold asV
    cases hu : P.underlying t with
    | none => simp [hu] at hag
    | some T => cases T <;> simp_all
  have := eqN_spec dd t k hk 10000 (Nat.le_of_ble_eq_true hdd) w xs ys _ _ hl hal (hv xs) (hv ys)
  simp only [execOp, hf.eval hx, hf.eval hy, Sem.run_bind, run_eqGuard_agg (P := P) w .neq t x y xs.toArray ys.toArray hm, Result.andThen_ok, run_neq_struct, this]
  rfl

theorem y_eqbool {t t' : TypeId} {x y : Operand} {a b : Bool} (hx : opv L x = some (.bool a)) (hy : opv L y = some (.bool b)) (ht : P.underlying t = some .bool) :
    Yl P n L m H ⟨d, .binOp .eql t x y t', ty, ps, af, gd⟩ (.bool (a == b)) := fun ac hf w _ => by
  have hg : (eqGuard .eql t x y (.bool a) (.bool b)).run P w = .ok () w := rfl
  have hb : binOp .eql t (.bool a) (.bool b) = (do pure (.bool (← Op.equal t (.bool a) (.bool b))) : Sem Value) := rfl
  simp only [execOp, hf.eval hx, hf.eval hy, Sem.run_bind, hg, Result.andThen_ok, hb, run_equal_bool w t a b ht]
  rfl

theorem y_nebool {t t' : TypeId} {x y : Operand} {a b : Bool} (hx : opv L x = some (.bool a)) (hy : opv L y = some (.bool b)) (ht : P.underlying t = some .bool) :
    Yl P n L m H ⟨d, .binOp .neq t x y t', ty, ps, af, gd⟩ (.bool (!(a == b))) := fun ac hf w _ => by
  have hg : (eqGuard .neq t x y (.bool a) (.bool b)).run P w = .ok () w := rfl
  have hb : binOp .neq t (.bool a) (.bool b) = (do pure (.bool (!(← Op.equal t (.bool a) (.bool b)))) : Sem Value) := rfl
  simp only [execOp, hf.eval hx, hf.eval hy, Sem.run_bind, hg, Result.andThen_ok, hb, run_equal_bool w t a b ht]
  rfl

/-- min, max of integers. -/
theorem y_min3 {t : TypeId} {ts : Array TypeId} {x y z : Operand} {k : IntKind} {a b c : Int} (hx : opv L x = some (.int k a)) (hy : opv L y = some (.int k b)) (hz : opv L z = some (.int k c)) :
    Yl P n L m H ⟨d, .call ⟨.builtin .min, [x, y, z].toArray, ts⟩, t, ps, af, gd⟩ (.int k (min a (min b c))) := fun ac hf w _ => by
  simp only [execOp, resolve, invoke, builtin, List.map_toArray, List.map_cons, List.map_nil, hf.eval hx, hf.eval hy, hf.eval hz, Builtin.min_]
  simp only [Sem.run_bind, Sem.run_pure, Result.andThen_ok, List.foldlM_cons, List.foldlM_nil, Builtin.min2]
  have e : (if c < (if b < a then b else a) then c else (if b < a then b else a)) = min a (min b c) := by
    by_cases h1 : b < a
    · rw [if_pos h1]
      by_cases h2 : c < b
      · rw [if_pos h2]; omega
      · rw [if_neg h2]; omega
    · rw [if_neg h1]
      by_cases h2 : c < a
      · rw [if_pos h2]; omega
      · rw [if_neg h2]; omega
  rw [e]
end
end Go.Aw
