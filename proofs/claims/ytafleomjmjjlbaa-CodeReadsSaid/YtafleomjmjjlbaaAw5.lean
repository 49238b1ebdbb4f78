/- Rules: results, stores, built values, shifts, conversions. -/
import Derived.Test.YtafleomjmjjlbaaAw4
namespace Go.Aw
open Go

section
variable {P : Program} {n : Nat} {Q : Post} {L : Slots} {m : Snap} {H : Hp} {ops : Array Oper} {rest : List Oper} {d : Option Tmp} {ty : TypeId} {ps : String} {af : Array Edge} {gd : Option (Nat × Bool)}

/-- What a function hands back. -/
def Res (P : Program) (rs : List ResultVar) (L : Slots) (m : Snap) (H : Hp) (v : Value) : Prop :=
  ∀ (n : Nat) (a : Act) (w : World) (fn : Func), fn.results = rs.toArray → Fr n a L → St m H w → (results fn a.tmps).run P w = .ok v w

theorem res_tmps {rs : List ResultVar} {v : Value} (h : resv rs L = some v) : Res P rs L m H v := fun _ _ w _ hr hf _ => run_resv hr hf h w

theorem res_cell_a {t : Tmp} {T : TypeId} {s : Nat} {a : Option Addr} {cs : List Value} (hx : look L t = some (.pointer a)) (hT : tshape P T = some (true, s)) (hr : RdA m H a s cs) :
    Res P [.cell t T] L m H (.agg cs.toArray) := fun _ ac w fn hres hf hs => by
  obtain ⟨hl, hr⟩ := hr
  obtain ⟨g, o, rfl, hc⟩ := hr w hs
  have := hf.get t _ hx
  have e : ac.tmps.getD t undef = .pointer (some ⟨g, o, none⟩) := by simp [Array.getD_eq_getD_getElem?, this]
  simp only [Array.getD_eq_getD_getElem?] at e
  simp [results, hres, e, asAddr, run_loadVar_a hT hl hc]

theorem res_cell_s {t : Tmp} {T : TypeId} {s : Nat} {a : Option Addr} {v : Value} (hx : look L t = some (.pointer a)) (hT : tshape P T = some (false, s)) (hr : RdS m H a v) :
    Res P [.cell t T] L m H v := fun _ ac w fn hres hf hs => by
  obtain ⟨g, o, rfl, hc⟩ := hr w hs
  have := hf.get t _ hx
  have e : ac.tmps.getD t undef = .pointer (some ⟨g, o, none⟩) := by simp [Array.getD_eq_getD_getElem?, this]
  simp only [Array.getD_eq_getD_getElem?] at e
  simp [results, hres, e, asAddr, run_loadVar_s hT hc]

def endQ (P : Program) (rs : List ResultVar) (m : Snap) (R : Value → Snap → Hp → Prop) : Post := fun e L' m' H' =>
  match e with
  | .normal | .ret => m.le m' ∧ ∃ v, Res P rs L' m' H' v ∧ ∀ w, St m' H' w → ∃ m2 H2, m'.le m2 ∧ St m2 H2 w ∧ R v m2 H2
  | _ => False

theorem fn_end {f : FuncId} {fn : Func} {c : Code} {args : List Value} {rs : List ResultVar} {R : Value → Snap → Hp → Prop} (hf : P.funcs[f]? = some fn) (hb : fn.body = some c) (hr : fn.results = rs.toArray)
    (hn : Nat.ble args.length fn.ntmps = true) (h : RunC P fn.ntmps c (endQ P rs m R) (slots0 0 args) m H) : Fn P f args m H R := by
  intro w hs
  refine calls_of_wp hf hb ?_
  have hle : args.length ≤ fn.ntmps := Nat.le_of_ble_eq_true hn
  have hfr : Fr fn.ntmps { tmps := args.toArray ++ Array.replicate (fn.ntmps - args.toArray.size) undef, defers := [] } (slots0 0 args) := by
    refine ⟨by simp; omega, rfl, fun i v hv => ?_⟩
    obtain ⟨_, h2⟩ := look_slots0 args 0 i v hv
    simp only [Nat.sub_zero] at h2
    have hi : i < args.length := (List.getElem?_eq_some_iff.1 h2).1
    rw [Array.getElem?_append, if_pos (by simpa using hi)]
    simpa using h2
  refine wp_mono (h _ w hfr hs) ?_
  rintro e a' w' ⟨L', m', H', hf', hs', hq⟩
  cases e <;> simp only [endQ] at hq
  all_goals
    obtain ⟨hm, v, hv, hE⟩ := hq
    obtain ⟨m2, H2, hm2, hs2, hR⟩ := hE w' hs'
    exact ⟨hf'.defers, v, hv _ _ _ _ hr hf' hs', v, m2, H2, rfl, hm.trans hm2, hs2, hR⟩

/-- The end of a function: its own blocks (the first ones) are forgotten. -/
theorem c_ret_drop {rs : List ResultVar} {m0 : Snap} {R : Value → Snap → Hp → Prop} {v : Value} (X H' : Hp) (hH : H = X ++ H') (hm : m0.le m) (hv : Res P rs L m H v) (hR : R v m H') :
    RunC P n .ret (endQ P rs m0 R) L m H :=
  c_ret ⟨hm, v, hv, fun _ hs => ⟨m, H', Snap.le.refl m, (hH ▸ hs).drop, hR⟩⟩

theorem end_drop {rs : List ResultVar} {m0 : Snap} {R : Value → Snap → Hp → Prop} {v : Value} (X H' : Hp) (hH : H = X ++ H') (hm : m0.le m) (hv : Res P rs L m H v) (hR : R v m H') :
    endQ P rs m0 R .ret L m H := ⟨hm, v, hv, fun _ hs => ⟨m, H', Snap.le.refl m, (hH ▸ hs).drop, hR⟩⟩

/-- A store: what becomes of the place. -/
theorem run_store_row {t T : TypeId} {b o : Nat} {sh : Bool} {s : Nat} {v : Value} {us cs cs' : List Value} (hT : tshape P t = some (sh, s)) (hv : v.cells = us.toArray) (hl : us.length = s) (h1 : ∀ u ∈ us, u.oneCell' = true)
    (hp : cput cs o us = some cs') {w : World} (hw : w.heap[b]? = some (.cells cs.toArray T (0, 0))) :
    (storeVar t ⟨b, o, none⟩ v).run P w = .ok () (w.setRow b cs'.toArray) := by
  obtain ⟨hle, hx⟩ := cput_spec cs o us cs' hp
  have hst := run_storeCells_at P b o T us 0 cs.toArray w hw (by simpa using hle) h1
  simp only [Nat.add_zero] at hst
  rw [← hx] at hst
  unfold tshape at hT
  unfold storeVar sizeOf typeInfo
  cases hu : P.underlying t with
  | none => simp [hu] at hT
  | some D =>
    cases hq : P.info? t with
    | none => cases D <;> simp [hu, hq] at hT
    | some i =>
      have hs : i.size = s := by cases D <;> simp only [hu, hq, Option.some.injEq, Prod.mk.injEq] at hT <;> exact hT.2
      simp [hq, hv, hs, hl, hst]

theorem s_store {K : Slots → Snap → Hp → Prop} {t T : TypeId} {x y : Operand} {b o i : Nat} {sh : Bool} {s : Nat} {v : Value} {us cs cs' : List Value} (hd : dstOk n d = true) (hx : opv L x = some (.pointer (some ⟨b, o, none⟩))) (hy : opv L y = some v)
    (hT : tshape P t = some (sh, s)) (hv : v.cells = us.toArray) (hl : us.length = s) (h1 : ∀ u ∈ us, u.oneCell' = true)
    (hi : hget H i = some (.blk b (.cells cs.toArray T (0, 0)))) (hp : cput cs o us = some cs')
    (h : K (lput L d undef) m (hset H i (.blk b (.cells cs'.toArray T (0, 0))))) : SP P n L m H ⟨d, .store t x y, ty, ps, af, gd⟩ K := by
  refine s_skip hd fun ac w hf hs => ⟨m, _, w.setRow b cs'.toArray, ?_, ?_, h⟩
  · have hw : w.heap[b]? = some (.cells cs.toArray T (0, 0)) := hs.hold _ (hget_mem hi)
    simp [execOp, hf.eval hx, hf.eval hy, Instr.storeAt, Instr.sureAddr, run_store_row hT hv hl h1 hp hw]
  · have hw : w.heap[b]? = some (.cells cs.toArray T (0, 0)) := hs.hold _ (hget_mem hi)
    refine hs.write_at hi rfl (setRow_heap w b _ _ _ _ hw) rfl rfl rfl fun k hk _ => setRow_other w b k _ ?_
    simpa [Item.own] using hk

/-- Parts of a value that is built. -/
def opps (L : Slots) : List (Nat × Operand) → Option (List (Nat × Value))
  | [] => some []
  | (i, x) :: r => match opv L x with
    | none => none
    | some v => match opps L r with
      | none => none
      | some vs => some ((i, v) :: vs)

theorem Fr.parts {a : Act} (hf : Fr n a L) : ∀ {as : List (Nat × Operand)} {vs : List (Nat × Value)}, opps L as = some vs → as.map (fun p => (p.1, a.eval p.2)) = vs
  | [], vs, h => by simp only [opps, Option.some.injEq] at h; rw [← h]; rfl
  | (i, x) :: r, vs, h => by
    simp only [opps] at h
    cases hx : opv L x with
    | none => simp [hx] at h
    | some v =>
      cases hr : opps L r with
      | none => simp [hx, hr] at h
      | some us =>
        simp only [hx, hr, Option.some.injEq] at h
        rw [← h, List.map_cons, hf.eval hx, Fr.parts hf hr]

theorem y_build {t : TypeId} {as : List (Nat × Operand)} {vs : List (Nat × Value)} {v : Value} (hp : opps L as = some vs) (hb : ∀ w, (Instr.build t vs.toArray).run P w = .ok v w)
    :
    Yl P n L m H ⟨d, .build t as.toArray, ty, ps, af, gd⟩ v :=
  fun ac hf w _ => (by
    have : (as.toArray.map fun (p : Nat × Operand) => (p.1, ac.eval p.2)) = vs.toArray := by rw [List.map_toArray, hf.parts hp]
    simp only [execOp]
    rw [this, Sem.run_bind, hb]; rfl)

theorem s_buildSlice {K : Slots → Snap → Hp → Prop} {t e : TypeId} {len : Nat} {as : List (Nat × Operand)} {vs : List (Nat × Value)} {cs : List Value} (hd : dstOk n d = true) (hp : opps L as = some vs)
    (hb : ∀ w, (Instr.buildSlice t len vs.toArray).run P w = .ok (.slice (some ⟨w.heap.size, 0, none⟩) len len) (w.alloc (.cells cs.toArray e)))
    (h : ∀ b, K (lput L d (.slice (some ⟨b, 0, none⟩) len len)) m (.blk b (.cells cs.toArray e) :: H)) : SP P n L m H ⟨d, .buildSlice t len as.toArray, ty, ps, af, gd⟩ K :=
  s_value hd fun ac w hf hs => ⟨.slice (some ⟨w.heap.size, 0, none⟩) len len, m, _, w.alloc (.cells cs.toArray e), by
    have : (as.toArray.map fun (p : Nat × Operand) => (p.1, ac.eval p.2)) = vs.toArray := by rw [List.map_toArray, hf.parts hp]
    simp only [execOp]
    rw [this, Sem.run_bind, hb]; rfl, hs.alloc (.cells cs.toArray e), h _⟩

theorem y_index_arr_a {t : TypeId} {x ix : Operand} {s : Nat} {kd : IntKind} {k len : Nat} {cs r : List Value} (hx : opv L x = some (.agg cs.toArray)) (hi : opv L ix = some (.int kd (k : Int)))
    (ht : tarray P t = some (len, true, s)) (hk : k < len) (hv : csub cs (k * s) s = some r) :
    Yl P n L m H ⟨d, .index t x ix, ty, ps, af, gd⟩ (.agg r.toArray) := by
  intro ac hf w _
  obtain ⟨e, i, hu, hsh, hq, hs⟩ := tarray_spec ht
  obtain ⟨h1, h2⟩ := csub_spec cs (k * s) s r hv
  have hag : (isAgg e).run P w = .ok true w := by
    unfold tshape at hsh
    unfold isAgg
    cases hue : P.underlying e with
    | none => simp [hue] at hsh
    | some D => cases D <;> simp only [hue, hq, Option.some.injEq, Prod.mk.injEq, Bool.false_eq_true, false_and] at hsh <;> simp [run_underlying hue]
  have hex : List.take s (List.drop (k * s) cs) = r := by
    apply List.ext_getElem?
    intro j
    by_cases hj : j < s
    · have := h2 j (r[j]'(by omega)) (by simp)
      rw [List.getElem?_take_of_lt (by omega), List.getElem?_drop, this]
      simp
    · rw [List.getElem?_take_eq_none (by omega), List.getElem?_eq_none (by omega)]
  simp only [execOp, hf.eval hx, hf.eval hi, Instr.index, asIntOf]
  simp [run_underlying hu, hk, sizeOf, typeInfo, hq, hs, part, hag, hex]

/-- A field of a value. -/
theorem y_field {t : TypeId} {x : Operand} {f : Nat} {u v : Value} (hx : opv L x = some u) (hb : ∀ w, (Instr.field t u f).run P w = .ok v w)
    :
    Yl P n L m H ⟨d, .field t x f, ty, ps, af, gd⟩ v :=
  fun ac hf w _ => (by
    simp only [execOp, hf.eval hx]
    rw [Sem.run_bind, hb]; rfl)

/-- x << y, x >> y of known count. -/
def sop (op : BinOp) (k : IntKind) (a b : Int) : Option Value := if b < 0 then none else match op with
  | .shl => some (.int k (k.wrap (a * 2 ^ (min b.toNat k.bits))))
  | .shr => some (.int k (a.fdiv (2 ^ (min b.toNat k.bits))))
  | _ => none

theorem y_shift {op : BinOp} {t t' : TypeId} {x y : Operand} {k k' : IntKind} {a b : Int} {v : Value} (hx : opv L x = some (.int k a)) (hy : opv L y = some (.int k' b))
    (hv : sop op k a b = some v) :
    Yl P n L m H ⟨d, .binOp op t x y t', ty, ps, af, gd⟩ v :=
  fun ac hf w _ => (by
    have hop : op = .shl ∨ op = .shr := by
      unfold sop at hv
      split at hv
      · cases hv
      · cases op <;> simp_all
    simp only [execOp, hf.eval hx, hf.eval hy]
    have hg : (eqGuard op t x y (.int k a) (.int k' b)).run P w = .ok () w := by
      unfold eqGuard
      rcases hop with rfl | rfl <;> rfl
    rw [Sem.run_bind, Sem.run_bind, hg, Result.andThen_ok]
    unfold sop at hv
    split at hv
    · cases hv
    · rename_i hb
      rcases hop with rfl | rfl <;> (simp only [Option.some.injEq] at hv; subst hv; simp [binOp, Op.shift, hb]))

theorem y_conv_int {src dst : TypeId} {x : Operand} {k k' : IntKind} {a c : Int} (hx : opv L x = some (.int k a)) (hs : (P.underlying src).isSome = true) (ht : P.underlying dst = some (.int k'))
    (hc : k'.wrap a = c) :
    Yl P n L m H ⟨d, .convert src dst x, ty, ps, af, gd⟩ (.int k' c) :=
  fun ac hf w _ => (by
    obtain ⟨D, hD⟩ := Option.isSome_iff_exists.1 hs
    simp [execOp, convert, hf.eval hx, run_underlying hD, run_underlying ht, Conv.intToInt, hc])

/-- A comparison (or whatever operation) of values of other kinds: told by a closed fact. -/
theorem y_bin {op : BinOp} {t t' : TypeId} {x y : Operand} {u1 u2 v : Value} (hx : opv L x = some u1) (hy : opv L y = some u2)
    (hv : ∀ w, St m H w → (do eqGuard op t x y u1 u2; binOp op t u1 u2 : Sem Value).run P w = .ok v w) :
    Yl P n L m H ⟨d, .binOp op t x y t', ty, ps, af, gd⟩ v :=
  fun ac hf w hs => (by
    simp only [execOp, hf.eval hx, hf.eval hy]
    rw [Sem.run_bind, hv w hs]; rfl)

/-- The world may be told anew. -/
theorem c_ent {c : Code} (m' : Snap) (H' : Hp) (he : ∀ w, St m H w → St m' H' w) (h : RunC P n c Q L m' H') : RunC P n c Q L m H := fun a w hf hs => h a w hf (he w hs)
theorem r_ent {l : List Oper} (m' : Snap) (H' : Hp) (he : ∀ w, St m H w → St m' H' w) (h : Run P n ops Q l L m' H') : Run P n ops Q l L m H := fun a w hf hs => h a w hf (he w hs)

theorem c_drop {c : Code} (X H' : Hp) (hH : H = X ++ H') (h : RunC P n c Q L m H') : RunC P n c Q L m H := fun a w hf hs => h a w hf ((hH ▸ hs).drop)
end
end Go.Aw
