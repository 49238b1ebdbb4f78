/- Rules: slices that grow, slices of slices. -/
import Derived.Test.YtafleomjmjjlbaaAw8
import Derived.Laws.OwnMore
namespace Go.Aw
open Go

theorem length_flatten {cs : List (List Value)} {s : Nat} (h : ∀ c ∈ cs, c.length = s) : cs.flatten.length = cs.length * s := by
  induction cs with
  | nil => simp
  | cons c r ih =>
    rw [List.flatten_cons, List.length_append, ih (fun x hx => h x (List.mem_cons_of_mem _ hx)), h c List.mem_cons_self, List.length_cons, Nat.add_mul, Nat.one_mul, Nat.add_comm]

theorem getElem?_flatten {s : Nat} : ∀ {cs : List (List Value)}, (∀ c ∈ cs, c.length = s) → ∀ {k j : Nat} {c : List Value} {v : Value}, cs[k]? = some c → c[j]? = some v → cs.flatten[k * s + j]? = some v
  | [], _, k, j, c, v, hk, _ => by simp at hk
  | x :: r, h, k, j, c, v, hk, hj => by
    have hx := h x List.mem_cons_self
    rw [List.flatten_cons]
    cases k with
    | zero =>
      simp only [List.getElem?_cons_zero, Option.some.injEq] at hk
      subst hk
      have : j < x.length := (List.getElem?_eq_some_iff.1 hj).1
      rw [Nat.zero_mul, Nat.zero_add, List.getElem?_append_left this]
      exact hj
    | succ k =>
      have e : (k + 1) * s + j = x.length + (k * s + j) := by rw [hx, Nat.add_mul, Nat.one_mul]; omega
      rw [e, List.getElem?_append_right (by omega), Nat.add_sub_cancel_left]
      exact getElem?_flatten (fun y hy => h y (List.mem_cons_of_mem _ hy)) (by simpa using hk) hj

/-- A source of elements that are appended. -/
structure Src (m : Snap) (H : Hp) (v : Value) (k s : Nat) (news : List (List Value)) : Prop where
  len : news.length = k
  each : ∀ c ∈ news, c.length = s
  one : ∀ c ∈ news, ∀ u ∈ c, u.oneCell' = true
  get : (k = 0 ∧ v = .slice none 0 0) ∨ ∃ a c, v = .slice (some a) k c ∧ ∀ w, St m H w → ∀ (j : Nat) (u : Value), news.flatten[j]? = some u → w.cell? (a.add j) = some u

def tbytes (P : Program) (t : TypeId) : Option Nat := (P.info? t).map (·.bytes)

theorem Src.blk {m : Snap} {H : Hp} {i b k c s : Nat} {cs : List Value} {T : TypeId} {fz : Nat × Nat} {news : List (List Value)} (hi : hget H i = some (.blk b (.cells cs.toArray T fz)))
    (hl : news.length = k) (he : ∀ c ∈ news, c.length = s) (h1 : ∀ c ∈ news, ∀ u ∈ c, u.oneCell' = true) (hf : news.flatten = cs) : Src m H (.slice (some ⟨b, 0, none⟩) k c) k s news :=
  ⟨hl, he, h1, .inr ⟨⟨b, 0, none⟩, c, rfl, fun w hs j u hu => by
    have : w.heap[b]? = some (.cells cs.toArray T fz) := hs.hold _ (hget_mem hi)
    rw [addr_add]
    simp only [World.cell?, this]
    rw [hf] at hu
    simpa using hu⟩⟩

/-- One element. -/
theorem Src.one' {m : Snap} {H : Hp} {i b c s : Nat} {cs : List Value} {T : TypeId} {fz : Nat × Nat} (hi : hget H i = some (.blk b (.cells cs.toArray T fz))) (hl : cs.length = s) (h1 : ∀ u ∈ cs, u.oneCell' = true) :
    Src m H (.slice (some ⟨b, 0, none⟩) 1 c) 1 s [cs] :=
  Src.blk hi rfl (by simpa using hl) (by simpa using h1) (by simp)

theorem flatten_index {s : Nat} : ∀ {cs : List (List Value)}, (∀ c ∈ cs, c.length = s) → ∀ {j : Nat} {u : Value}, cs.flatten[j]? = some u → ∃ (k i : Nat) (c : List Value), cs[k]? = some c ∧ c[i]? = some u ∧ j = k * s + i
  | [], _, j, u, h => by simp at h
  | x :: r, h, j, u, hj => by
    have hx := h x List.mem_cons_self
    rw [List.flatten_cons] at hj
    by_cases hlt : j < x.length
    · rw [List.getElem?_append_left hlt] at hj
      exact ⟨0, j, x, by simp, hj, by simp⟩
    · rw [List.getElem?_append_right (by omega)] at hj
      obtain ⟨k, i, c, h1, h2, h3⟩ := flatten_index (fun y hy => h y (List.mem_cons_of_mem _ hy)) hj
      exact ⟨k + 1, i, c, by simpa using h1, h2, by rw [Nat.add_mul, Nat.one_mul]; omega⟩

theorem Src.fz {m : Snap} {H : Hp} {a : Option Addr} {n cap s : Nat} {cs : List (List Value)} (h : Fz m a n cap s cs) (h1 : ∀ c ∈ cs, ∀ u ∈ c, u.oneCell' = true) (hnil : a = none → cap = 0) : Src m H (.slice a n cap) n s cs := by
  refine ⟨h.len, h.each, h1, ?_⟩
  cases a with
  | none =>
    have hc := hnil rfl
    have hn : n = 0 := by have := h.le; omega
    subst hc; subst hn
    exact .inl ⟨rfl, rfl⟩
  | some a =>
    refine .inr ⟨a, cap, rfl, fun w hs j u hu => ?_⟩
    obtain ⟨k, i, c, hk, hi, rfl⟩ := flatten_index h.each hu
    obtain ⟨g, o, ha, hv⟩ := h.get k c hk
    cases ha
    rw [addr_add]
    exact hs.cell (hv i u hi)

theorem hset_own {H : Hp} {i : Nat} {it it' : Item} (hi : hget H i = some it) : (hset H i it').Perm (it' :: hdel H i) := ((hget_perm hi).2 it').symm

/-- A slice of the call's own gets another row: the old one is forgotten. -/
theorem St.regrow {m : Snap} {H : Hp} {w w' : World} {i : Nat} {a a' : Option Addr} {n n' cap cap' s : Nat} {e : TypeId} {cs cs' : List (List Value)} (h : St m H w) (hi : hget H i = some (.vec a n cap e s cs))
    (hg : w.grownBy w' (a.map (·.block))) (hown : ∀ k, (a'.map (·.block)) = some k → some k = a.map (·.block) ∨ w.heap.size ≤ k) (hh : Item.holds w' (.vec a' n' cap' e s cs')) : St m (hset H i (.vec a' n' cap' e s cs')) w' := by
  have hp := (hget_perm hi).1
  have h2 := h.perm hp
  have ht := h2.tail
  refine St.perm (H := .vec a' n' cap' e s cs' :: hdel H i) ?_ ((hget_perm hi).2 _)
  have hfar : ∀ k ∈ owned (hdel H i), some k ≠ a.map (·.block) := by
    intro k hk e
    have hnd := h2.nodup
    simp only [owned, List.flatMap_cons, List.nodup_append] at hnd
    refine hnd.2.2 k ?_ k hk rfl
    simp [Item.own, ← e]
  have hkeep : ∀ k, k < w.heap.size → some k ≠ a.map (·.block) → w'.heap[k]? = w.heap[k]? := hg.block
  have hfz : ∀ k o, m.heap k = some o → some k ≠ a.map (·.block) := by
    intro k o hk e
    have := h2.apart k (by simp [owned, Item.own, ← e])
    rw [this] at hk; cases hk
  refine ⟨hg.os.trans h.os, hg.tape.trans h.tape, hg.output.trans h.output, fun k o hk => (hkeep k (h.frz_lt hk) (hfz k o hk)).trans (h.frz k o hk), ?_, ?_, ?_⟩
  · intro x hx
    rcases List.mem_cons.1 hx with rfl | hx
    · exact hh
    · exact Item.holds_of (ht.hold x hx) fun k hk => hkeep k (ht.lt k (mem_owned.2 ⟨x, hx, hk⟩)) (hfar k (mem_owned.2 ⟨x, hx, hk⟩))
  · have hnd := ht.nodup
    show (owned (Item.vec a' n' cap' e s cs' :: hdel H i)).Nodup
    simp only [owned, List.flatMap_cons, Item.own] at hnd ⊢
    cases ha : a' with
    | none => simpa using hnd
    | some x =>
      simp only [Option.map_some, Option.toList_some, List.singleton_append, List.nodup_cons]
      refine ⟨fun hm => ?_, hnd⟩
      rcases hown x.block (by simp [ha]) with h3 | h3
      · exact hfar x.block hm h3
      · have := ht.lt x.block hm; omega
  · intro k hk
    simp only [owned, List.flatMap_cons, Item.own, List.mem_append] at hk
    rcases hk with hk | hk
    · have hk' : a'.map (·.block) = some k := by cases a' <;> simp_all
      rcases hown k hk' with h3 | h3
      · exact h2.apart k (by simp [owned, Item.own, ← h3])
      · cases hm : m.heap k with
        | none => rfl
        | some o => have := h.frz_lt hm; omega
    · exact ht.apart k hk

section
variable {P : Program} {n : Nat} {Q : Post} {L : Slots} {m : Snap} {H : Hp} {ops : Array Oper} {rest : List Oper} {d : Option Tmp} {ty : TypeId} {ps : String} {af : Array Edge} {gd : Option (Nat × Bool)}

/-- Zero's cells are as many as the type has. -/
def zeroOk (P : Program) (t : TypeId) : Bool := match P.info? t with
  | some i => match i.zero with
    | some z => z.cells.size == i.size && Nat.blt 0 i.size
    | none => false
  | none => false

theorem s_append {K : Slots → Snap → Hp → Prop} {t e : TypeId} {x y : Operand} {i len cap k s B : Nat} {a : Option Addr} {cs news : List (List Value)} {v : Value} (hd : dstOk n d = true)
    (hx : opv L x = some (.slice a len cap)) (hy : opv L y = some v) (ht : tslice P t = some (e, s)) (hz : zeroOk P e = true) (hB : tbytes P e = some B)
    (hi : hget H i = some (.vec a len cap e s cs)) (hs : Src m H v k s news) (hfit : (len + k) * B ≤ 140737488355328) (hlen : len + k ≤ maxLen)
    (h : ∀ a' cap', K (lput L d (.slice a' (len + k) cap')) m (hset H i (.vec a' (len + k) cap' e s (cs ++ news)))) :
    SP P n L m H ⟨d, .call ⟨.builtin .append, [x, y].toArray, [t, t].toArray⟩, ty, ps, af, gd⟩ K := by
  refine s_value hd fun ac w hf hst => ?_
  have hhold : Item.holds w (.vec a len cap e s cs) := hst.hold _ (hget_mem hi)
  obtain ⟨hown, hcl, hce⟩ := hhold
  -- the types
  unfold tslice at ht
  cases hu : P.underlying t with
  | none => simp [hu] at ht
  | some D =>
    cases D <;> simp only [hu, reduceCtorEq] at ht
    rename_i e'
    cases hinf : P.info? e' with
    | none => simp [hinf] at ht
    | some inf =>
      simp only [hinf, Option.some.injEq, Prod.mk.injEq] at ht
      obtain ⟨rfl, rfl⟩ := ht
      unfold zeroOk at hz
      simp only [hinf] at hz
      cases hzv : inf.zero with
      | none => simp [hzv] at hz
      | some z =>
        simp only [hzv, Bool.and_eq_true, beq_iff_eq, Nat.blt_eq] at hz
        have hBy : inf.bytes = B := by simpa [tbytes, hinf] using hB
        have hexec : ∀ v' w', (Builtin.append_ #[t, t] ty #[.slice a len cap, v]).run P w = .ok v' w' →
            (execOp ac.eval ⟨d, .call ⟨.builtin .append, [x, y].toArray, [t, t].toArray⟩, ty, ps, af, gd⟩).run P w = .ok (.value v') w' := by
          intro v' w' hr
          simp [execOp, resolve, invoke, builtin, hf.eval hx, hf.eval hy, hr]
        rcases hs.get with ⟨rfl, rfl⟩ | ⟨sa, c, rfl, hcell⟩
        · have hn : news = [] := List.eq_nil_of_length_eq_zero hs.len
          subst hn
          have hr := run_append_owned_none (P := P) (w := w) 0 t ty e' inf inf.size hu hinf (.slice a len cap) len cs.flatten hown
          refine ⟨_, m, _, w, hexec _ _ hr, ?_, h a cap⟩
          have hself : Item.holds w (.vec a (len + 0) cap e' inf.size (cs ++ [])) := by simpa using ⟨hown, hcl, hce⟩
          refine hst.regrow hi (w' := w) ⟨rfl, rfl, rfl, Nat.le_refl _, fun _ _ _ => rfl⟩ (fun k hk => .inl hk.symm) hself
        · have hfl : news.flatten.length = k * inf.size := by rw [length_flatten hs.each, hs.len]
          have hone : ∀ u ∈ news.flatten, u.oneCell' = true := fun u hu => by obtain ⟨l, hl, hul⟩ := List.mem_flatten.1 hu; exact hs.one l hl u hul
          have hlast : (cs ++ news).length = len + k ∧ ∀ l ∈ cs ++ news, l.length = inf.size := ⟨by rw [List.length_append, hcl, hs.len], fun l hl => by
            rcases List.mem_append.1 hl with h1 | h1
            · exact hce l h1
            · exact hs.each l h1⟩
          by_cases hroom : len + k ≤ cap
          · rcases hown.2 with ⟨hv, h0⟩ | ⟨g, cap', cur, hv, _⟩
            · cases hv
              have hk : k = 0 := by omega
              subst hk
              have hn : news = [] := List.eq_nil_of_length_eq_zero hs.len
              subst hn
              have hr : (Builtin.append_ #[t, t] ty #[.slice none 0 0, .slice (some sa) 0 c]).run P w = .ok (.slice none 0 0) w := by
                simp [Builtin.append_, run_underlying hu, sizeOf, typeInfo, hinf, Builtin.lenOf, Builtin.firstCells, loadCells, loadCellsFrom]
              refine ⟨_, m, _, w, hexec _ _ hr, ?_, h none 0⟩
              have hself : Item.holds w (.vec none 0 0 e' inf.size (cs ++ [])) := by simpa using ⟨hown, hcl, hce⟩
              exact hst.regrow hi (w' := w) ⟨rfl, rfl, rfl, Nat.le_refl _, fun _ _ _ => rfl⟩ (fun k hk => .inl hk.symm) hself
            · cases hv
              obtain ⟨w', hr, hown', hgrow⟩ := run_append_fits (P := P) w 0 t ty e' inf inf.size hu hinf rfl g len cap cs.flatten hown sa k c news.flatten hfl (hcell w hst) hone hroom
              refine ⟨_, m, _, w', hexec _ _ hr, ?_, h _ cap⟩
              exact hst.regrow hi hgrow (fun q hq => .inl hq.symm) ⟨by rw [List.flatten_append]; exact hown', hlast⟩
          · have hsrc : Go.Src P inf.size t (.slice (some sa) k c) k news.flatten w := Src.ofSlice w hu sa k c news.flatten hfl (hcell w hst) hone
            have holds : (Builtin.firstCells inf.size len (.slice a len cap)).run P w.drew = .ok cs.flatten.toArray w.drew := by
              rcases hown.2 with ⟨hv, h0⟩ | ⟨g, cap', cur, hv, _⟩
              · cases hv
                have : cs = [] := List.eq_nil_of_length_eq_zero hcl
                subst this
                exact run_firstCells_none _ _ _ _ _
              · cases hv
                refine run_firstCells_some _ _ _ _ _ _ _ (by rw [length_flatten hce, hcl]) fun j u hj => ?_
                rw [addr_add]
                have hlt : j < len * inf.size := by
                  have := (List.getElem?_eq_some_iff.1 hj).1
                  rwa [length_flatten hce, hcl] at this
                have := hown.cellAt j hlt
                simp only [Nat.zero_add]
                show w.cell? _ = _
                rw [this, hj]
            have hfit' : Builtin.nextslicecap (len + k) cap * inf.bytes ≤ 281474976710656 := growslice_fits (by omega) (by rw [hBy]; exact hfit)
            have hml : maxLen = 9223372036854775807 := rfl
            have hr := run_append_grow_src (P := P) w t t ty e' inf z hu hinf hzv a len cap cs.flatten holds _ k news.flatten hsrc (by omega) (by omega) hfit'
            refine ⟨_, m, _, _, hexec _ _ hr, ?_, h _ _⟩
            have hge := grownCap_ge w (len + k) cap e'
            have hcm := grownCap_le_maxLen w (len + k) cap e' hlen
            refine hst.regrow hi (w' := w.drew.alloc _) ⟨rfl, rfl, rfl, by simp, fun k hk _ => heap_alloc_old w.drew _ k hk⟩ (fun q hq => ?_) ⟨⟨?_, .inr ⟨w.heap.size, _, _, rfl, Nat.zero_le _, heap_alloc_new w.drew _, hge, hcm, ?_, ?_⟩⟩, hlast⟩
            · simp only [Option.map_some, Option.some.injEq] at hq
              exact .inr (by omega)
            · rw [length_flatten hlast.2, hlast.1]
            · rw [Array.size_append, size_zeroCells, hz.1, List.size_toArray, ← List.flatten_append, length_flatten hlast.2, hlast.1, ← Nat.add_mul]
              congr 1
              omega
            · rw [Array.toList_append, List.toList_toArray, ← List.flatten_append, List.take_append_of_le_length (by rw [length_flatten hlast.2, hlast.1]; exact Nat.le_refl _)]
              exact List.take_of_length_le (by rw [length_flatten hlast.2, hlast.1]; exact Nat.le_refl _)
end
end Go.Aw
