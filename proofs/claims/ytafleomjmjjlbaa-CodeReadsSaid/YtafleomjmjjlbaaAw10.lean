/- Rules: rows of the call's own that are read, given up, cut; strings. -/
import Derived.Test.YtafleomjmjjlbaaAw9
namespace Go.Aw
open Go

section
variable {P : Program} {n : Nat} {Q : Post} {L : Slots} {m : Snap} {H : Hp} {ops : Array Oper} {rest : List Oper} {d : Option Tmp} {ty : TypeId} {ps : String} {af : Array Edge} {gd : Option (Nat × Bool)}

theorem vec_cell {w : World} {a : Option Addr} {len cap s : Nat} {e : TypeId} {cs : List (List Value)} (h : Item.holds w (.vec a len cap e s cs)) {k : Nat} {c : List Value} (hk : cs[k]? = some c) (_hs0 : 0 < s) :
    ∃ g, a = some ⟨g, 0, none⟩ ∧ ∀ (j : Nat) (v : Value), c[j]? = some v → w.cell? ⟨g, k * s + j, none⟩ = some v := by
  obtain ⟨hown, hl, he⟩ := h
  have hk' : k < len := by have := (List.getElem?_eq_some_iff.1 hk).1; omega
  rcases hown.2 with ⟨hv, h0⟩ | ⟨g, cap', cur, hv, _⟩
  · omega
  · cases hv
    refine ⟨g, rfl, fun j v hj => ?_⟩
    have hfl := getElem?_flatten he hk hj
    have hlt : k * s + j < len * s := by
      have := (List.getElem?_eq_some_iff.1 hfl).1
      rwa [length_flatten he, hl] at this
    rw [hown.cellAt (k * s + j) hlt, hfl]

theorem At.vec {i : Nat} {a : Option Addr} {len cap s k : Nat} {e : TypeId} {cs : List (List Value)} (hi : hget H i = some (.vec a len cap e s cs)) (hk : k < len) : At m H a := fun w hs => by
  have h : Item.holds w (.vec a len cap e s cs) := hs.hold _ (hget_mem hi)
  rcases h.1.2 with ⟨hv, h0⟩ | ⟨g, cap', cur, hv, _⟩
  · omega
  · cases hv; exact IsAt.lit

theorem At.fz {a : Option Addr} {len cap s k : Nat} {cs : List (List Value)} (h : Fz m a len cap s cs) (hk : k < len) : At m H a := fun _ _ => h.isAt hk

theorem RdS.vec {i : Nat} {a : Option Addr} {len cap s k j : Nat} {e : TypeId} {cs : List (List Value)} {c : List Value} {v : Value} (hi : hget H i = some (.vec a len cap e s cs)) (hs0 : Nat.blt 0 s = true) (hk : cs[k]? = some c) (hj : cget c j = some v) :
    RdS m H (eadd a (k * s + j)) v := fun w hs => by
  obtain ⟨g, rfl, hc⟩ := vec_cell (hs.hold _ (hget_mem hi)) hk (by simpa [Nat.blt_eq] using hs0)
  rw [cget_eq] at hj
  exact ⟨g, 0 + (k * s + j), rfl, by rw [Nat.zero_add]; exact hc j v hj⟩

theorem RdA.vec {i : Nat} {a : Option Addr} {len cap s k j l : Nat} {e : TypeId} {cs : List (List Value)} {c r : List Value} (hi : hget H i = some (.vec a len cap e s cs)) (hs0 : Nat.blt 0 s = true) (hk : cs[k]? = some c) (hj : csub c j l = some r) :
    RdA m H (eadd a (k * s + j)) l r := ⟨(csub_spec c j l r hj).1, fun w hs => by
  obtain ⟨g, rfl, hc⟩ := vec_cell (hs.hold _ (hget_mem hi)) hk (by simpa [Nat.blt_eq] using hs0)
  exact ⟨g, 0 + (k * s + j), rfl, fun q u hu => by
    rw [show 0 + (k * s + j) + q = k * s + (j + q) by omega]
    exact hc (j + q) u ((csub_spec c j l r hj).2 q u hu)⟩⟩

theorem RdA.vec0 {i : Nat} {a : Option Addr} {len cap s k : Nat} {e : TypeId} {cs : List (List Value)} {c : List Value} (hi : hget H i = some (.vec a len cap e s cs)) (hs0 : Nat.blt 0 s = true) (hk : cs[k]? = some c) (hl : c.length = s) :
    RdA m H (eadd a (k * s)) s c := ⟨hl, fun w hs => by
  obtain ⟨g, rfl, hc⟩ := vec_cell (hs.hold _ (hget_mem hi)) hk (by simpa [Nat.blt_eq] using hs0)
  exact ⟨g, 0 + k * s, rfl, fun q u hu => by
    rw [show 0 + k * s + q = k * s + q by omega]
    exact hc q u hu⟩⟩

/-- The nil slice owns no row. -/
theorem St.nilvec {w : World} (h : St m H w) (e : TypeId) (s : Nat) : St m (.vec none 0 0 e s [] :: H) w :=
  ⟨h.os, h.tape, h.output, h.frz, fun it hi => by
    rcases List.mem_cons.1 hi with rfl | hi
    · exact ⟨World.ownsRow_nil w 0 e s, rfl, fun c hc => by cases hc⟩
    · exact h.hold it hi, by simpa [owned, Item.own] using h.nodup, fun k hk => h.apart k (by simpa [owned, Item.own] using hk)⟩

theorem c_nilvec (e : TypeId) (s : Nat) {c : Code} (h : RunC P n c Q L m (.vec none 0 0 e s [] :: H)) : RunC P n c Q L m H := fun a w hf hs => h a w hf (hs.nilvec e s)
theorem r_nilvec (e : TypeId) (s : Nat) {l : List Oper} (h : Run P n ops Q l L m (.vec none 0 0 e s [] :: H)) : Run P n ops Q l L m H := fun a w hf hs => h a w hf (hs.nilvec e s)

/-- A block that is a whole row is a slice's. -/
theorem St.toVec {w : World} {i b k s : Nat} {cs : List Value} {e : TypeId} {news : List (List Value)} (h : St m H w) (hi : hget H i = some (.blk b (.cells cs.toArray e (0, 0)))) (hl : news.length = k) (he : ∀ c ∈ news, c.length = s) (hf : news.flatten = cs) (hk : k ≤ maxLen) :
    St m (hset H i (.vec (some ⟨b, 0, none⟩) k k e s news)) w := by
  have hp := (hget_perm hi).1
  have h2 := h.perm hp
  refine St.perm (H := .vec (some ⟨b, 0, none⟩) k k e s news :: hdel H i) ?_ ((hget_perm hi).2 _)
  have hb : w.heap[b]? = some (.cells cs.toArray e (0, 0)) := h.hold _ (hget_mem hi)
  have hown : owned (.vec (some ⟨b, 0, none⟩) k k e s news :: hdel H i) = owned (.blk b (.cells cs.toArray e (0, 0)) :: hdel H i) := by simp [owned, Item.own]
  refine ⟨h2.os, h2.tape, h2.output, h2.frz, fun it hit => ?_, by rw [hown]; exact h2.nodup, by rw [hown]; exact h2.apart⟩
  rcases List.mem_cons.1 hit with rfl | hit
  · have hlen := length_flatten he
    refine ⟨⟨by rw [hlen, hl], .inr ⟨b, k, cs.toArray, rfl, Nat.zero_le _, hb, Nat.le_refl _, hk, ?_, ?_⟩⟩, hl, he⟩
    · rw [List.size_toArray, ← hf, hlen, hl]
    · rw [List.toList_toArray, hf]; exact List.take_of_length_le (by rw [← hf, hlen, hl]; exact Nat.le_refl _)
  · exact h2.hold it (List.mem_cons_of_mem _ hit)

/-- A slice's row is given up: from now on it stays as it is. -/
theorem St.freezeVec {w : World} {i len cap s : Nat} {a : Option Addr} {e : TypeId} {cs : List (List Value)} (h : St m H w) (hi : hget H i = some (.vec a len cap e s cs)) (_hs0 : 0 < s) :
    ∃ m', m.le m' ∧ St m' (hdel H i) w ∧ Fz m' a len cap s cs ∧ (a = none → cap = 0) := by
  have hp := (hget_perm hi).1
  have h2 := h.perm hp
  have hh : Item.holds w (.vec a len cap e s cs) := h.hold _ (hget_mem hi)
  obtain ⟨hown, hl, he⟩ := hh
  rcases hown.2 with ⟨hv, h0⟩ | ⟨g, cap', cur, hv, _, hg, hle, hcm, hsz, htake⟩
  · cases hv
    have : cs = [] := List.eq_nil_of_length_eq_zero hl
    subst this
    exact ⟨m, Snap.le.refl m, h2.tail, ⟨rfl, fun c hc => (by cases hc), Nat.le_refl _, Nat.zero_le _, fun k c hk => (by simp at hk)⟩, fun _ => rfl⟩
  · cases hv
    have hblk : St m (.blk g (.cells cur e (0, 0)) :: hdel H i) w := by
      have ho : owned (.blk g (.cells cur e (0, 0)) :: hdel H i) = owned (.vec (some ⟨g, 0, none⟩) len cap e s cs :: hdel H i) := by simp [owned, Item.own]
      refine ⟨h2.os, h2.tape, h2.output, h2.frz, fun it hit => ?_, by rw [ho]; exact h2.nodup, by rw [ho]; exact h2.apart⟩
      rcases List.mem_cons.1 hit with rfl | hit
      · exact hg
      · exact h2.hold it (List.mem_cons_of_mem _ hit)
    obtain ⟨hle', hst⟩ := hblk.freeze
    refine ⟨_, hle', hst, ⟨hl, he, hle, hcm, fun k c hk => ⟨g, 0, rfl, fun j v hj => ?_⟩⟩, fun h => by cases h⟩
    have hfl := getElem?_flatten he hk hj
    simp only [Snap.cell, Snap.add, if_pos, Nat.zero_add]
    rw [← htake, List.getElem?_take] at hfl
    split at hfl
    · simpa using hfl
    · cases hfl

theorem c_freezeVec {i len cap s : Nat} {a : Option Addr} {e : TypeId} {cs : List (List Value)} {c : Code} (hi : hget H i = some (.vec a len cap e s cs)) (hs0 : Nat.blt 0 s = true)
    (h : ∀ m', m.le m' → Fz m' a len cap s cs → (a = none → cap = 0) → RunC P n c Q L m' (hdel H i)) : RunC P n c Q L m H := fun ac w hf hs => by
  obtain ⟨m', h1, h2, h3, h4⟩ := hs.freezeVec hi (by simpa [Nat.blt_eq] using hs0)
  exact h m' h1 h3 h4 ac w hf h2

theorem r_freezeVec {i len cap s : Nat} {a : Option Addr} {e : TypeId} {cs : List (List Value)} {l : List Oper} (hi : hget H i = some (.vec a len cap e s cs)) (hs0 : Nat.blt 0 s = true)
    (h : ∀ m', m.le m' → Fz m' a len cap s cs → (a = none → cap = 0) → Run P n ops Q l L m' (hdel H i)) : Run P n ops Q l L m H := fun ac w hf hs => by
  obtain ⟨m', h1, h2, h3, h4⟩ := hs.freezeVec hi (by simpa [Nat.blt_eq] using hs0)
  exact h m' h1 h3 h4 ac w hf h2

/-- Where a slice of a slice begins. -/
def sadd (a : Option Addr) (l size m : Nat) : Option Addr := if m = l then a else a.map (·.add (l * size))

theorem Fz.slice {a : Option Addr} {len cap s lo hi : Nat} {cs : List (List Value)} (h : Fz m a len cap s cs) (h1 : lo ≤ hi) (h2 : hi ≤ len) : Fz m (sadd a lo s cap) (hi - lo) (cap - lo) s ((cs.drop lo).take (hi - lo)) := by
  have hle := h.le
  have hmx := h.max
  have hl := h.len
  refine ⟨by simp only [List.length_take, List.length_drop]; omega, fun c hc => h.each c (List.mem_of_mem_drop (List.mem_of_mem_take hc)), by omega, by omega, fun k c hk => ?_⟩
  have hk2 : k < hi - lo ∧ cs[lo + k]? = some c := by
    rw [List.getElem?_take] at hk
    split at hk
    · rename_i hlt; rw [List.getElem?_drop] at hk; exact ⟨hlt, hk⟩
    · cases hk
  obtain ⟨g, o, rfl, hv⟩ := h.get (lo + k) c hk2.2
  unfold sadd
  rw [if_neg (by omega)]
  refine ⟨g, o + lo * s, by simp [addr_add], fun j v hj => ?_⟩
  have := hv j v hj
  rw [Nat.add_mul] at this
  rw [show o + lo * s + (k * s + j) = o + (lo * s + k * s + j) by omega]
  exact this

/-- A bound of a slice expression: an int, or none. -/
def bnd (L : Slots) : Option Operand → Nat → Nat → Prop
  | none, d, x => x = d
  | some o, _, x => ∃ kd, opv L o = some (.int kd (x : Int))

theorem bnd_none {d : Nat} : bnd L none d d := rfl
theorem bnd_some {o : Operand} {d x : Nat} {kd : IntKind} (h : opv L o = some (.int kd (x : Int))) : bnd L (some o) d x := ⟨kd, h⟩

theorem run_sliceBounds {P : Program} {ac : Act} (hf : Fr n ac L) {len cap lo hi : Nat} {o1 o2 : Option Operand} {b : Bool} (h1 : bnd L o1 0 lo) (h2 : bnd L o2 len hi) (hlh : lo ≤ hi) (hc : hi ≤ cap) (w : World) :
    (Instr.sliceBounds b len cap (o1.map ac.eval) (o2.map ac.eval) none).run P w = .ok (lo, hi, cap) w := by
  have hsb : ∀ (kd : IntKind) (x y : Nat) (code : BoundsCode), x ≤ y → (Instr.sliceBound (.int kd (x : Int)) y code).run P w = .ok x w := by
    intro kd x y code hxy
    simp [Instr.sliceBound, asIntOf, hxy]
  unfold Instr.sliceBounds
  cases o1 with
  | none =>
    simp only [bnd] at h1
    subst h1
    cases o2 with
    | none => simp only [bnd] at h2; subst h2; simp
    | some o =>
      obtain ⟨kd, h2⟩ := h2
      simp only [Option.map_some, Option.map_none, hf.eval h2]
      simp [hsb, hc]
  | some o' =>
    obtain ⟨kd', h1⟩ := h1
    cases o2 with
    | none =>
      simp only [bnd] at h2
      subst h2
      simp only [Option.map_some, Option.map_none, hf.eval h1]
      simp [hsb, hlh]
    | some o =>
      obtain ⟨kd, h2⟩ := h2
      simp only [Option.map_some, hf.eval h1, hf.eval h2]
      simp [hsb, hlh, hc]

theorem y_slice {t e : TypeId} {x : Operand} {o1 o2 : Option Operand} {a : Option Addr} {len cap s lo hi : Nat} (hx : opv L x = some (.slice a len cap)) (ht : tslice P t = some (e, s)) (h1 : bnd L o1 0 lo) (h2 : bnd L o2 len hi) (hlh : lo ≤ hi) (hc : hi ≤ cap) :
    Yl P n L m H ⟨d, .slice t x o1 o2 none, ty, ps, af, gd⟩ (.slice (sadd a lo s cap) (hi - lo) (cap - lo)) := by
  intro ac hf w _
  unfold tslice at ht
  simp only [execOp, hf.eval hx, Instr.sliceAt]
  cases hu : P.underlying t with
  | none => simp [hu] at ht
  | some D =>
    cases D <;> simp only [hu, reduceCtorEq] at ht
    rename_i e'
    cases hi' : P.info? e' with
    | none => simp [hi'] at ht
    | some i =>
      simp only [hi', Option.some.injEq, Prod.mk.injEq] at ht
      obtain ⟨rfl, rfl⟩ := ht
      simp [run_underlying hu, Instr.slice, run_sliceBounds hf h1 h2 hlh hc, sizeOf, typeInfo, hi', sadd]

/-- Strings. -/
theorem y_len_str {t : TypeId} {x : Operand} {b : ByteArray} (ht : P.underlying t = some .string) (hx : opv L x = some (.string b)) :
    Yl P n L m H ⟨d, .call ⟨.builtin .len, [x].toArray, [t].toArray⟩, ty, ps, af, gd⟩ (.int .i64 (b.size : Int)) := fun ac hf w _ => by
  simp [execOp, resolve, invoke, builtin, Builtin.len_, run_underlying ht, hf.eval hx, goInt]

theorem y_index_str {t : TypeId} {x ix : Operand} {b : ByteArray} {kd : IntKind} {k : Nat} {c : UInt8} (ht : P.underlying t = some .string) (hx : opv L x = some (.string b)) (hi : opv L ix = some (.int kd (k : Int))) (hc : b[k]? = some c) :
    Yl P n L m H ⟨d, .index t x ix, ty, ps, af, gd⟩ (.int .u8 (c.toNat : Int)) := fun ac hf w _ => by
  simp only [execOp, hf.eval hx, hf.eval hi, Instr.index, asIntOf]
  simp [run_underlying ht, hc]

theorem y_slice_str {t : TypeId} {x : Operand} {o1 o2 : Option Operand} {b : ByteArray} {lo hi : Nat} (hx : opv L x = some (.string b)) (ht : P.underlying t = some .string) (h1 : bnd L o1 0 lo) (h2 : bnd L o2 b.size hi) (hlh : lo ≤ hi) (hc : hi ≤ b.size) :
    Yl P n L m H ⟨d, .slice t x o1 o2 none, ty, ps, af, gd⟩ (.string (b.extract lo hi)) := by
  intro ac hf w _
  simp only [execOp, hf.eval hx, Instr.sliceAt]
  simp [run_underlying ht, Instr.slice, run_sliceBounds hf h1 h2 hlh hc]

/-- A pointer that is not nil. -/
theorem y_nilCheck {x : Operand} {a : Addr} (hx : opv L x = some (.pointer (some a))) : Yl P n L m H ⟨d, .nilCheck x, ty, ps, af, gd⟩ (.pointer (some a)) := fun ac hf w _ => by
  simp [execOp, hf.eval hx]

/-- One of several results. -/
def rvSem (tmps : Array Value) (r : ResultVar) : Sem Value := match r with
  | .tmp t => pure (tmps.getD t undef)
  | .cell c t => do loadVar t (← asAddr (tmps.getD c undef))

theorem results_eq (fn : Func) (tmps : Array Value) : results fn tmps = (do
    let vs ← fn.results.mapM (rvSem tmps)
    pure (if h : vs.size = 1 then vs[0] else .tuple vs)) := rfl

def R1 (P : Program) (r : ResultVar) (L : Slots) (m : Snap) (H : Hp) (v : Value) : Prop :=
  ∀ (n : Nat) (a : Act) (w : World), Fr n a L → St m H w → (rvSem a.tmps r).run P w = .ok v w

theorem r1_tmp {t : Tmp} {v : Value} (h : look L t = some v) : R1 P (.tmp t) L m H v := fun _ a w hf _ => by
  have := hf.get t v h
  simp [rvSem, this]

theorem r1_cell_a {t : Tmp} {T : TypeId} {s : Nat} {a : Option Addr} {cs : List Value} (hx : look L t = some (.pointer a)) (hT : tshape P T = some (true, s)) (hr : RdA m H a s cs) :
    R1 P (.cell t T) L m H (.agg cs.toArray) := fun _ ac w hf hs => by
  obtain ⟨hl, hr⟩ := hr
  obtain ⟨g, o, rfl, hc⟩ := hr w hs
  have := hf.get t _ hx
  simp [rvSem, this, asAddr, run_loadVar_a hT hl hc]

theorem r1_cell_s {t : Tmp} {T : TypeId} {s : Nat} {a : Option Addr} {v : Value} (hx : look L t = some (.pointer a)) (hT : tshape P T = some (false, s)) (hr : RdS m H a v) :
    R1 P (.cell t T) L m H v := fun _ ac w hf hs => by
  obtain ⟨g, o, rfl, hc⟩ := hr w hs
  have := hf.get t _ hx
  simp [rvSem, this, asAddr, run_loadVar_s hT hc]

theorem res2 {r1 r2 : ResultVar} {v1 v2 : Value} (h1 : R1 P r1 L m H v1) (h2 : R1 P r2 L m H v2) : Res P [r1, r2] L m H (.tuple [v1, v2].toArray) := fun n a w fn hr hf hs => by
  rw [results_eq, hr]
  simp [h1 n a w hf hs, h2 n a w hf hs]

theorem res3 {r1 r2 r3 : ResultVar} {v1 v2 v3 : Value} (h1 : R1 P r1 L m H v1) (h2 : R1 P r2 L m H v2) (h3 : R1 P r3 L m H v3) : Res P [r1, r2, r3] L m H (.tuple [v1, v2, v3].toArray) := fun n a w fn hr hf hs => by
  rw [results_eq, hr]
  simp [h1 n a w hf hs, h2 n a w hf hs, h3 n a w hf hs]

/-- A closure. -/
def caps (L : Slots) := opvs L
theorem y_makeFunc {fn : Go.Fn} {cp : List Operand} {vs : List Value} (hc : opvs L cp = some vs) : Yl P n L m H ⟨d, .makeFunc fn [].toArray cp.toArray, ty, ps, af, gd⟩ (.func fn [].toArray vs.toArray) := fun ac hf w _ => by
  have : cp.toArray.map ac.eval = vs.toArray := by rw [List.map_toArray, hf.evals hc]
  simp only [execOp]
  rw [this]
  simp [Instr.makeFunc]
end
end Go.Aw
