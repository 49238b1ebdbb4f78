/- Rules: built values, rows, append. -/
import Derived.Test.YtafleomjmjjlbaaAw6
namespace Go.Aw
open Go

/-- Where the parts of a struct or an array lie: offset and size. -/
def bplaces (P : Program) (t : TypeId) : List Nat → Option (List (Nat × Nat))
  | [] => some []
  | i :: r => match P.underlying t with
    | some (.struct fs) => match fs[i]? with
      | some f => match P.info? f.type with
        | some inf => match bplaces P t r with
          | some x => some ((f.offset, inf.size) :: x)
          | none => none
        | none => none
      | none => none
    | some (.array _ e) => match P.info? e with
      | some inf => match bplaces P t r with
        | some x => some ((i * inf.size, inf.size) :: x)
        | none => none
      | none => none
    | _ => none

def fillp : List Value → List (Nat × Nat) → List (Nat × Value) → Option (List Value)
  | z, [], [] => some z
  | z, (o, s) :: ps, (_, v) :: vs => match v.cells.toList with
    | us => if us.length = s then match cput z o us with
      | some z' => fillp z' ps vs
      | none => none
      else none
  | _, _, _ => none

theorem foldl_put : ∀ (us : List Value) (k off : Nat) (cells : List Value), off + k + us.length ≤ cells.length →
    (us.zipIdx k).foldl (fun (cs : Array Value) (p : Value × Nat) => cs.setIfInBounds (off + p.2) p.1) cells.toArray = (cells.take (off + k) ++ us ++ cells.drop (off + k + us.length)).toArray
  | [], k, off, cells, _ => by simp
  | u :: us, k, off, cells, h => by
    simp only [List.length_cons] at h
    simp only [List.zipIdx_cons, List.foldl_cons]
    rw [List.setIfInBounds_toArray]
    rw [foldl_put us (k + 1) off (cells.set (off + k) u) (by simp; omega)]
    congr 1
    have e : off + (k + 1) = off + k + 1 := by omega
    rw [e, List.take_succ_eq_append_getElem (by simp; omega)]
    rw [List.getElem_set_self, List.take_set_of_le (by omega)]
    rw [List.drop_set_of_lt (by omega)]
    simp only [List.length_cons, List.append_assoc, List.cons_append, List.nil_append]
    rw [show off + k + 1 + us.length = off + k + (us.length + 1) by omega]

theorem fill_of {place : Nat → Option (Nat × Nat)} : ∀ (vs : List (Nat × Value)) (pl : List (Nat × Nat)) (z r : List Value), pl.length = vs.length → (∀ (k i : Nat) (v : Value) (q : Nat × Nat), vs[k]? = some (i, v) → pl[k]? = some q → place i = some q) →
    fillp z pl vs = some r → Instr.fill place z.toArray vs = some r.toArray
  | [], pl, z, r, hl, _, h => by
    cases pl with
    | nil => simp only [fillp, Option.some.injEq] at h; subst h; rfl
    | cons _ _ => simp at hl
  | (i, v) :: vs, [], z, r, hl, _, _ => by simp at hl
  | (i, v) :: vs, (o, s) :: pl, z, r, hl, hp, h => by
    simp only [fillp] at h
    split at h
    · rename_i hlen
      split at h
      · rename_i z' hz
        obtain ⟨h1, h2⟩ := cput_spec _ _ _ _ hz
        have hpi := hp 0 i v (o, s) rfl rfl
        have hlen' : v.cells.size = s := by simpa using hlen
        have hle : o + v.cells.size ≤ z.length := by simpa using h1
        unfold Instr.fill
        simp only [hpi]
        rw [if_neg (by simp; omega)]
        have hf := foldl_put v.cells.toList 0 o z (by simpa using h1)
        have hc : v.cells.zipIdx.foldl (fun (cs : Array Value) (p : Value × Nat) => cs.setIfInBounds (o + p.2) p.1) z.toArray = z'.toArray := by
          rw [← Array.foldl_toList, Array.toList_zipIdx, hf, h2]
          simp
        have := fill_of vs pl z' r (by simpa using hl) (fun k i v q h1 h2 => hp (k + 1) i v q (by simpa using h1) (by simpa using h2)) h
        refine Eq.trans (congrArg (fun q => Instr.fill place q vs) ?_) this
        exact hc
      · cases h
    · cases h

theorem bplaces_spec {P : Program} {t : TypeId} : ∀ {is : List Nat} {pl : List (Nat × Nat)}, bplaces P t is = some pl → pl.length = is.length ∧ ∀ (k i : Nat) (q : Nat × Nat), is[k]? = some i → pl[k]? = some q →
    (∃ fs f inf, P.underlying t = some (.struct fs) ∧ fs[i]? = some f ∧ P.info? f.type = some inf ∧ q = (f.offset, inf.size)) ∨ (∃ n e inf, P.underlying t = some (.array n e) ∧ P.info? e = some inf ∧ q = (i * inf.size, inf.size))
  | [], pl, h => by simp only [bplaces, Option.some.injEq] at h; subst h; simp
  | i :: r, pl, h => by
    simp only [bplaces] at h
    cases hu : P.underlying t with
    | none => simp [hu] at h
    | some D =>
      cases D <;> simp only [hu, reduceCtorEq] at h
      case struct fs =>
        split at h
        · rename_i f hf
          split at h
          · rename_i inf hi
            split at h
            · rename_i x hx
              cases h
              obtain ⟨h1, h2⟩ := bplaces_spec hx
              refine ⟨by simp [h1], fun k i' q hk hq => ?_⟩
              cases k with
              | zero =>
                simp only [List.getElem?_cons_zero, Option.some.injEq] at hk hq
                subst hk; subst hq
                exact .inl ⟨fs, f, inf, rfl, hf, hi, rfl⟩
              | succ k => have := h2 k i' q (by simpa using hk) (by simpa using hq); rwa [hu] at this
            · cases h
          · cases h
        · cases h
      case array n e =>
        split at h
        · rename_i inf hi
          split at h
          · rename_i x hx
            cases h
            obtain ⟨h1, h2⟩ := bplaces_spec hx
            refine ⟨by simp [h1], fun k i' q hk hq => ?_⟩
            cases k with
            | zero =>
              simp only [List.getElem?_cons_zero, Option.some.injEq] at hk hq
              subst hk; subst hq
              exact .inr ⟨n, e, inf, rfl, hi, rfl⟩
            | succ k => have := h2 k i' q (by simpa using hk) (by simpa using hq); rwa [hu] at this
          · cases h
        · cases h

theorem mapM_run {α β : Type} {P : Program} {w : World} (f : α → Sem β) (g : α → β) (l : Array α) (h : ∀ x ∈ l, (f x).run P w = .ok (g x) w) : (l.mapM f).run P w = .ok (l.map g) w := by
  obtain ⟨l⟩ := l
  simp only [List.mapM_toArray, List.map_toArray]
  have key : ∀ (l : List α), (∀ x ∈ l, (f x).run P w = .ok (g x) w) → (l.mapM f).run P w = .ok (l.map g) w := by
    intro l
    induction l with
    | nil => intro _; rfl
    | cons x l ih =>
      intro h
      rw [List.mapM_cons, Sem.run_bind, h x (by simp), Result.andThen_ok, Sem.run_bind, ih (fun y hy => h y (by simp [hy]))]
      rfl
  have := key l (fun x hx => h x (by simpa using hx))
  simp [this]

/-- Every field of the struct has a size that is known (checked by the kernel). -/
def fieldsKnown (P : Program) (t : TypeId) : Bool := match P.underlying t with
  | some (.struct fs) => fs.all fun f => (P.info? f.type).isSome
  | some (.array _ e) => (P.info? e).isSome
  | _ => false

theorem run_build {P : Program} {t : TypeId} {vs : List (Nat × Value)} {z r : List Value} {pl : List (Nat × Nat)} (hz : tzero P t = some z) (hk : fieldsKnown P t = true) (hpl : bplaces P t (vs.map (·.1)) = some pl) (hf : fillp z pl vs = some r)
    (w : World) : (Instr.build t vs.toArray).run P w = .ok (.agg r.toArray) w := by
  obtain ⟨h1, h2⟩ := bplaces_spec hpl
  unfold tzero at hz
  split at hz
  case h_2 => cases hz
  rename_i inf hinf
  split at hz
  case h_2 => cases hz
  rename_i zv hzv
  cases hz
  unfold fieldsKnown at hk
  unfold Instr.build zeroValue typeInfo
  simp only [Sem.run_bind]
  cases hu : P.underlying t with
  | none => simp [hu] at hk
  | some D =>
    cases D <;> simp only [hu, Bool.false_eq_true] at hk
    case struct fs =>
      have hm : (fs.mapM fun f => (Prod.mk f.offset <$> sizeOf f.type : Sem (Nat × Nat))).run P w = .ok (fs.map fun f => (f.offset, ((P.info? f.type).map (·.size)).getD 0)) w := by
        refine mapM_run _ _ fs fun f hf => ?_
        have := (Array.all_eq_true_iff_forall_mem.1 hk) f hf
        obtain ⟨i, hi⟩ := Option.isSome_iff_exists.1 this
        simp [sizeOf, typeInfo, hi]
      have hfill : Instr.fill (fun i => (fs.map fun f => (f.offset, ((P.info? f.type).map (·.size)).getD 0))[i]?) zv.cells.toList.toArray vs = some r.toArray := by
        refine fill_of vs pl _ r (by simpa using h1) (fun k i v q hk hq => ?_) hf
        rcases h2 k i q (by simp [hk]) hq with ⟨fs', f, i', hu', hf', hi', rfl⟩ | ⟨_, _, _, hu', _⟩
        · rw [hu] at hu'; cases hu'
          simp [hf', hi']
        · rw [hu] at hu'; cases hu'
      simp only [Array.toArray_toList, Array.getElem?_map] at hfill
      simp [hinf, hzv, run_underlying hu, hm, hfill]
    case array n e =>
      obtain ⟨i, hi⟩ := Option.isSome_iff_exists.1 hk
      have hfill : Instr.fill (fun j => some (j * i.size, i.size)) zv.cells.toList.toArray vs = some r.toArray := by
        refine fill_of vs pl _ r (by simpa using h1) (fun k j v q hk hq => ?_) hf
        rcases h2 k j q (by simp [hk]) hq with ⟨_, _, _, hu', _⟩ | ⟨n', e', i', hu', hi', rfl⟩
        · rw [hu] at hu'; cases hu'
        · rw [hu] at hu'; cases hu'
          rw [hi] at hi'; cases hi'
          rfl
      simp only [Array.toArray_toList] at hfill
      simp [hinf, hzv, run_underlying hu, sizeOf, typeInfo, hi, hfill]

section
variable {P : Program} {n : Nat} {Q : Post} {L : Slots} {m : Snap} {H : Hp} {ops : Array Oper} {rest : List Oper} {d : Option Tmp} {ty : TypeId} {ps : String} {af : Array Edge} {gd : Option (Nat × Bool)}
theorem y_bld {t : TypeId} {as : List (Nat × Operand)} {vs : List (Nat × Value)} {is : List Nat} {z r : List Value} {pl : List (Nat × Nat)} (hp : opps L as = some vs) (hz : tzero P t = some z) (hk : fieldsKnown P t = true)
    (hpl : bplaces P t is = some pl) (his : vs.map (·.1) = is) (hf : fillp z pl vs = some r) :
    Yl P n L m H ⟨d, .build t as.toArray, ty, ps, af, gd⟩ (.agg r.toArray) :=
  y_build hp (run_build hz hk (his ▸ hpl) hf)

/-- A field: its place, and its shape. -/
def fieldSh (P : Program) (t : TypeId) (f : Nat) : Option (Nat × Bool × Nat) := match P.underlying t with
  | some (.struct fs) => match fs[f]? with
    | some fd => match tshape P fd.type with
      | some (b, s) => some (fd.offset, b, s)
      | none => none
    | none => none
  | _ => none

theorem tshape_spec {t : TypeId} {b : Bool} {s : Nat} (h : tshape P t = some (b, s)) (w : World) : (isAgg t).run P w = .ok b w ∧ (sizeOf t).run P w = .ok s w := by
  unfold tshape at h
  unfold isAgg sizeOf typeInfo
  cases hu : P.underlying t with
  | none => simp [hu] at h
  | some D =>
    cases hq : P.info? t with
    | none => cases D <;> simp [hu, hq] at h
    | some i => cases D <;> simp only [hu, hq, Option.some.injEq, Prod.mk.injEq] at h <;> obtain ⟨rfl, rfl⟩ := h <;> simp [run_underlying hu, hq]

theorem fieldSh_spec {t : TypeId} {f o s : Nat} {b : Bool} (h : fieldSh P t f = some (o, b, s)) : ∃ fs fd, P.underlying t = some (.struct fs) ∧ fs[f]? = some fd ∧ tshape P fd.type = some (b, s) ∧ fd.offset = o := by
  unfold fieldSh at h
  cases hu : P.underlying t with
  | none => simp [hu] at h
  | some D =>
    cases D <;> simp only [hu, reduceCtorEq] at h
    rename_i fs
    cases hfd : fs[f]? with
    | none => simp [hfd] at h
    | some fd =>
      cases hs : tshape P fd.type with
      | none => simp [hfd, hs] at h
      | some bs =>
        simp only [hfd, hs, Option.some.injEq, Prod.mk.injEq] at h
        obtain ⟨rfl, rfl, rfl⟩ := h
        exact ⟨fs, fd, rfl, hfd, hs, rfl⟩

theorem take_drop_of_csub {cs r : List Value} {o s : Nat} (hv : csub cs o s = some r) : List.take s (List.drop o cs) = r := by
  obtain ⟨h1, h2⟩ := csub_spec cs o s r hv
  apply List.ext_getElem?
  intro j
  by_cases hj : j < s
  · have := h2 j (r[j]'(by omega)) (by simp)
    rw [List.getElem?_take_of_lt (by omega), List.getElem?_drop, this]
    simp
  · rw [List.getElem?_take_eq_none (by omega), List.getElem?_eq_none (by omega)]

theorem y_fld_s {t : TypeId} {x : Operand} {f o s : Nat} {cs : List Value} {v : Value} (hx : opv L x = some (.agg cs.toArray)) (hf : fieldSh P t f = some (o, false, s)) (hv : cget cs o = some v) :
    Yl P n L m H ⟨d, .field t x f, ty, ps, af, gd⟩ v :=
  y_field hx (fun w => by
    obtain ⟨fs, fd, hu, hfd, hs, rfl⟩ := fieldSh_spec hf
    rw [cget_eq] at hv
    simp [Instr.field, run_underlying hu, hfd, asAgg, part, (tshape_spec hs w).1, hv])

theorem y_fld_a {t : TypeId} {x : Operand} {f o s : Nat} {cs r : List Value} (hx : opv L x = some (.agg cs.toArray)) (hf : fieldSh P t f = some (o, true, s)) (hv : csub cs o s = some r) :
    Yl P n L m H ⟨d, .field t x f, ty, ps, af, gd⟩ (.agg r.toArray) :=
  y_field hx (fun w => by
    obtain ⟨fs, fd, hu, hfd, hs, rfl⟩ := fieldSh_spec hf
    simp [Instr.field, run_underlying hu, hfd, asAgg, part, (tshape_spec hs w).1, (tshape_spec hs w).2, take_drop_of_csub hv])
end
end Go.Aw
