/- Rules: memory. -/
import Derived.Test.YtafleomjmjjlbaaAw3
import Derived.Deep.AppendSrc
namespace Go.Aw
open Go

def cget : List Value → Nat → Option Value
  | [], _ => none
  | v :: _, 0 => some v
  | _ :: r, k + 1 => cget r k

theorem cget_eq : ∀ (l : List Value) (k : Nat), cget l k = l[k]?
  | [], k => by simp [cget]
  | v :: r, 0 => rfl
  | v :: r, k + 1 => by rw [cget, cget_eq r k]; simp

def ctake : List Value → Nat → Option (List Value)
  | _, 0 => some []
  | [], _ + 1 => none
  | v :: r, k + 1 => match ctake r k with
    | some x => some (v :: x)
    | none => none

def csub : List Value → Nat → Nat → Option (List Value)
  | l, 0, n => ctake l n
  | [], _ + 1, _ => none
  | _ :: r, o + 1, n => csub r o n

theorem ctake_spec : ∀ (l : List Value) (n : Nat) (x : List Value), ctake l n = some x → x.length = n ∧ ∀ (j : Nat) (v : Value), x[j]? = some v → l[j]? = some v
  | l, 0, x, h => by simp only [ctake, Option.some.injEq] at h; subst h; simp
  | [], n + 1, x, h => by simp [ctake] at h
  | v :: r, n + 1, x, h => by
    simp only [ctake] at h
    split at h
    · rename_i y hy
      cases h
      obtain ⟨h1, h2⟩ := ctake_spec r n y hy
      refine ⟨by simp [h1], fun j u hu => ?_⟩
      cases j with
      | zero => simpa using hu
      | succ j => simpa using h2 j u (by simpa using hu)
    · cases h

theorem csub_spec : ∀ (l : List Value) (o n : Nat) (x : List Value), csub l o n = some x → x.length = n ∧ ∀ (j : Nat) (v : Value), x[j]? = some v → l[o + j]? = some v
  | l, 0, n, x, h => by simpa [csub] using ctake_spec l n x (by simpa [csub] using h)
  | [], o + 1, n, x, h => by simp [csub] at h
  | v :: r, o + 1, n, x, h => by
    obtain ⟨h1, h2⟩ := csub_spec r o n x (by simpa [csub] using h)
    refine ⟨h1, fun j u hu => ?_⟩
    rw [show o + 1 + j = (o + j) + 1 by omega]
    simpa using h2 j u hu

/-- A row with some cells put in place of its own. -/
def cput : List Value → Nat → List Value → Option (List Value)
  | l, 0, [] => some l
  | [], 0, _ :: _ => none
  | _ :: r, 0, u :: us => match cput r 0 us with
    | some x => some (u :: x)
    | none => none
  | [], _ + 1, _ => none
  | v :: r, o + 1, us => match cput r o us with
    | some x => some (v :: x)
    | none => none

theorem cput_spec : ∀ (l : List Value) (o : Nat) (us x : List Value), cput l o us = some x → o + us.length ≤ l.length ∧ x = l.take o ++ us ++ l.drop (o + us.length)
  | l, 0, [], x, h => by
    simp only [cput, Option.some.injEq] at h; subst h; simp
  | [], 0, _ :: _, x, h => by simp [cput] at h
  | v :: r, 0, u :: us, x, h => by
    simp only [cput] at h
    split at h
    · rename_i y hy; cases h
      obtain ⟨h1, h2⟩ := cput_spec r 0 us y hy
      refine ⟨by simp at h1 ⊢; omega, ?_⟩
      rw [h2]; simp
    · cases h
  | [], o + 1, us, x, h => by simp [cput] at h
  | v :: r, o + 1, us, x, h => by
    simp only [cput] at h
    split at h
    · rename_i y hy; cases h
      obtain ⟨h1, h2⟩ := cput_spec r o us y hy
      refine ⟨by simp at h1 ⊢; omega, ?_⟩
      rw [h2, show o + 1 + us.length = (o + us.length) + 1 by omega]; simp
    · cases h

def hget : Hp → Nat → Option Item
  | [], _ => none
  | v :: _, 0 => some v
  | _ :: r, k + 1 => hget r k

def hset : Hp → Nat → Item → Hp
  | [], _, _ => []
  | _ :: r, 0, x => x :: r
  | v :: r, k + 1, x => v :: hset r k x

def hdel : Hp → Nat → Hp
  | [], _ => []
  | _ :: r, 0 => r
  | v :: r, k + 1 => v :: hdel r k

theorem hget_perm : ∀ {H : Hp} {i : Nat} {it : Item}, hget H i = some it → H.Perm (it :: hdel H i) ∧ ∀ x, (x :: hdel H i).Perm (hset H i x)
  | [], _, _, h => by simp [hget] at h
  | v :: r, 0, it, h => by simp only [hget, Option.some.injEq] at h; subst h; exact ⟨.refl _, fun _ => .refl _⟩
  | v :: r, k + 1, it, h => by
    obtain ⟨h1, h2⟩ := hget_perm (H := r) (i := k) (by simpa [hget] using h)
    refine ⟨(h1.cons v).trans (List.Perm.swap ..), fun x => ?_⟩
    exact (List.Perm.swap ..).trans ((h2 x).cons v)

theorem hget_mem {H : Hp} {i : Nat} {it : Item} (h : hget H i = some it) : it ∈ H := (hget_perm h).1.mem_iff.2 List.mem_cons_self

theorem St.write_at {m : Snap} {H : Hp} {w w' : World} {i : Nat} {it it' : Item} (h : St m H w) (hi : hget H i = some it) (hown : it'.own = it.own) (hh : it'.holds w')
    (hos : w'.os = w.os) (htape : w'.tape = w.tape) (hout : w'.output = w.output) (hk : ∀ k, k ∉ it.own → k < w.heap.size → w'.heap[k]? = w.heap[k]?) : St m (hset H i it') w' :=
  ((h.perm (hget_perm hi).1).write hown hh hos htape hout hk).perm ((hget_perm hi).2 it')

/-- Items dropped by their place. -/
theorem St.del {m : Snap} {H : Hp} {w : World} (h : St m H w) {i : Nat} {it : Item} (hi : hget H i = some it) : St m (hdel H i) w := (h.perm (hget_perm hi).1).tail

def fieldOff (P : Program) (s : TypeId) (f : Nat) : Option Nat :=
  match P.underlying s with
  | some (.struct fs) => match fs[f]? with
    | some fd => match P.info? fd.type with
      | some i => if i.size = 0 then none else some fd.offset
      | none => none
    | none => none
  | _ => none

/-- Is a type's variable a row of cells, and of how many. -/
def tshape (P : Program) (t : TypeId) : Option (Bool × Nat) :=
  match P.underlying t, P.info? t with
  | some (.struct _), some i => some (true, i.size)
  | some (.array _ _), some i => some (true, i.size)
  | some _, some i => some (false, i.size)
  | _, _ => none

/-- A slice type's elements: their type, and how many cells. -/
def tslice (P : Program) (t : TypeId) : Option (TypeId × Nat) :=
  match P.underlying t with
  | some (.slice e) => match P.info? e with
    | some i => some (e, i.size)
    | none => none
  | _ => none

def tarray (P : Program) (t : TypeId) : Option (Nat × Bool × Nat) :=
  match P.underlying t with
  | some (.array n e) => match tshape P e with
    | some (b, s) => some (n, b, s)
    | none => none
  | _ => none

def eadd (a : Option Addr) (j : Nat) : Option Addr := match a with
  | some x => some ⟨x.block, x.off + j, none⟩
  | none => none

theorem eadd_eadd (a : Option Addr) (j k : Nat) : eadd (eadd a j) k = eadd a (j + k) := by cases a <;> simp [eadd, Nat.add_assoc]

/-- A place that is one of a row's cells. -/
def IsAt (a : Option Addr) : Prop := ∃ g o, a = some ⟨g, o, none⟩

theorem IsAt.lit {g o : Nat} : IsAt (some ⟨g, o, none⟩) := ⟨g, o, rfl⟩
theorem IsAt.eadd {a : Option Addr} (h : IsAt a) (j : Nat) : IsAt (eadd a j) := by obtain ⟨g, o, rfl⟩ := h; exact ⟨g, o + j, rfl⟩

theorem addr_add (g o k : Nat) : (⟨g, o, none⟩ : Addr).add k = ⟨g, o + k, none⟩ := by unfold Addr.add; split <;> simp_all

/-- In the worlds of the state the place is one of a row's cells. -/
def At (m : Snap) (H : Hp) (a : Option Addr) : Prop := ∀ w, St m H w → IsAt a
theorem IsAt.at' {m : Snap} {H : Hp} {a : Option Addr} (h : IsAt a) : At m H a := fun _ _ => h
theorem At.lit {m : Snap} {H : Hp} {g o : Nat} : At m H (some ⟨g, o, none⟩) := fun _ _ => IsAt.lit
theorem At.eadd {m : Snap} {H : Hp} {a : Option Addr} (h : At m H a) {j : Nat} : At m H (eadd a j) := fun w hs => (h w hs).eadd j

def RdS (m : Snap) (H : Hp) (a : Option Addr) (v : Value) : Prop := ∀ w, St m H w → ∃ g o, a = some ⟨g, o, none⟩ ∧ w.cell? ⟨g, o, none⟩ = some v
def RdA (m : Snap) (H : Hp) (a : Option Addr) (s : Nat) (cs : List Value) : Prop := cs.length = s ∧ ∀ w, St m H w → ∃ g o, a = some ⟨g, o, none⟩ ∧ ∀ (j : Nat) (u : Value), cs[j]? = some u → w.cell? ⟨g, o + j, none⟩ = some u

def Snap.cell (m : Snap) (g o : Nat) : Option Value := match m.heap g with
  | some (.cells c _ _) => c[o]?
  | _ => none

theorem St.cell {m : Snap} {H : Hp} {w : World} (h : St m H w) {g o : Nat} {v : Value} (hc : m.cell g o = some v) : w.cell? ⟨g, o, none⟩ = some v := by
  unfold Snap.cell at hc
  split at hc
  · rename_i c e f hm
    have := h.frz g _ hm
    simp only [World.cell?, this]
    simpa using hc
  · cases hc

theorem Snap.le.cell {m m' : Snap} (h : m.le m') {g o : Nat} {v : Value} (hc : m.cell g o = some v) : m'.cell g o = some v := by
  unfold Snap.cell at hc ⊢
  split at hc
  · rename_i c e f hm
    rw [h.heap g _ hm]; exact hc
  · cases hc

/-- A slice whose elements (each a row of s cells) lie in memory that stays as it is. -/
structure Fz (m : Snap) (a : Option Addr) (n cap s : Nat) (cs : List (List Value)) : Prop where
  len : cs.length = n
  each : ∀ c ∈ cs, c.length = s
  le : n ≤ cap
  max : cap ≤ maxLen
  get : ∀ k c, cs[k]? = some c → ∃ g o, a = some ⟨g, o, none⟩ ∧ ∀ j v, c[j]? = some v → m.cell g (o + (k * s + j)) = some v

theorem Fz.mono {m m' : Snap} {a : Option Addr} {n cap s : Nat} {cs : List (List Value)} (h : Fz m a n cap s cs) (hm : m.le m') : Fz m' a n cap s cs :=
  ⟨h.len, h.each, h.le, h.max, fun k c hk => by
    obtain ⟨g, o, ha, hv⟩ := h.get k c hk
    exact ⟨g, o, ha, fun j v hj => hm.cell (hv j v hj)⟩⟩

theorem Fz.isAt {m : Snap} {a : Option Addr} {n cap s : Nat} {cs : List (List Value)} (h : Fz m a n cap s cs) {k : Nat} (hk : k < n) : IsAt a := by
  obtain ⟨g, o, ha, _⟩ := h.get k (cs[k]'(by rw [h.len]; exact hk)) (by simp)
  exact ⟨g, o, ha⟩

theorem RdS.blk {m : Snap} {H : Hp} {i b o : Nat} {cs : List Value} {T : TypeId} {fz : Nat × Nat} {v : Value} (hi : hget H i = some (.blk b (.cells cs.toArray T fz))) (hv : cget cs o = some v) : RdS m H (some ⟨b, o, none⟩) v :=
  fun w hs => ⟨b, o, rfl, by
    have : w.heap[b]? = some (.cells cs.toArray T fz) := hs.hold _ (hget_mem hi)
    simp only [World.cell?, this]
    rw [cget_eq] at hv
    simpa using hv⟩

theorem RdA.blk {m : Snap} {H : Hp} {i b o n : Nat} {cs r : List Value} {T : TypeId} {fz : Nat × Nat} (hi : hget H i = some (.blk b (.cells cs.toArray T fz))) (hv : csub cs o n = some r) : RdA m H (some ⟨b, o, none⟩) n r :=
  ⟨(csub_spec cs o n r hv).1, fun w hs => ⟨b, o, rfl, fun j u hu => by
    have : w.heap[b]? = some (.cells cs.toArray T fz) := hs.hold _ (hget_mem hi)
    simp only [World.cell?, this]
    simpa using (csub_spec cs o n r hv).2 j u hu⟩⟩

theorem RdS.fz {m : Snap} {H : Hp} {a : Option Addr} {n cap s k j : Nat} {cs : List (List Value)} {c : List Value} {v : Value} (h : Fz m a n cap s cs) (hk : cs[k]? = some c) (hj : cget c j = some v) : RdS m H (eadd a (k * s + j)) v := by
  obtain ⟨g, o, rfl, hv⟩ := h.get k c hk
  rw [cget_eq] at hj
  exact fun w hs => ⟨g, o + (k * s + j), rfl, hs.cell (hv j v hj)⟩

theorem RdA.fz {m : Snap} {H : Hp} {a : Option Addr} {n cap s k j l : Nat} {cs : List (List Value)} {c r : List Value} (h : Fz m a n cap s cs) (hk : cs[k]? = some c) (hj : csub c j l = some r) : RdA m H (eadd a (k * s + j)) l r := by
  obtain ⟨g, o, rfl, hv⟩ := h.get k c hk
  refine ⟨(csub_spec c j l r hj).1, fun w hs => ⟨g, o + (k * s + j), rfl, fun i u hu => hs.cell ?_⟩⟩
  rw [show o + (k * s + j) + i = o + (k * s + (j + i)) by omega]
  exact hv (j + i) u ((csub_spec c j l r hj).2 i u hu)

/-- The whole of an element. -/
theorem RdA.fz0 {m : Snap} {H : Hp} {a : Option Addr} {n cap s k : Nat} {cs : List (List Value)} {c : List Value} (h : Fz m a n cap s cs) (hk : cs[k]? = some c) : RdA m H (eadd a (k * s)) s c := by
  obtain ⟨g, o, rfl, hv⟩ := h.get k c hk
  refine ⟨h.each c (List.mem_of_getElem? hk), fun w hs => ⟨g, o + k * s, rfl, fun i u hu => hs.cell ?_⟩⟩
  rw [show o + k * s + i = o + (k * s + i) by omega]
  exact hv i u hu

theorem run_loadVar_s {P : Program} {t : TypeId} {s : Nat} (hT : tshape P t = some (false, s)) {w : World} {a : Addr} {v : Value} (hc : w.cell? a = some v) : (loadVar t a).run P w = .ok v w := by
  unfold tshape at hT
  unfold loadVar isAgg
  cases hu : P.underlying t with
  | none => simp [hu] at hT
  | some d =>
    cases hq : P.info? t with
    | none => cases d <;> simp [hu, hq] at hT
    | some i => cases d <;> simp only [hu, hq, Option.some.injEq, Prod.mk.injEq, Bool.true_eq_false, false_and] at hT <;> simp [run_underlying hu, hc]

theorem run_loadVar_a {P : Program} {t : TypeId} {s : Nat} (hT : tshape P t = some (true, s)) {w : World} {g o : Nat} {cs : List Value} (hl : cs.length = s) (hc : ∀ j u, cs[j]? = some u → w.cell? ⟨g, o + j, none⟩ = some u) :
    (loadVar t ⟨g, o, none⟩).run P w = .ok (.agg cs.toArray) w := by
  have hld : (loadCells ⟨g, o, none⟩ cs.length).run P w = .ok cs.toArray w := run_loadCells_list (P := P) w ⟨g, o, none⟩ cs (fun j v hv => by rw [addr_add]; exact hc j v hv)
  unfold tshape at hT
  unfold loadVar isAgg sizeOf typeInfo
  cases hu : P.underlying t with
  | none => simp [hu] at hT
  | some d =>
    cases hq : P.info? t with
    | none => cases d <;> simp [hu, hq] at hT
    | some i =>
      cases d <;> simp only [hu, hq, Option.some.injEq, Prod.mk.injEq, true_and, Bool.false_eq_true, false_and] at hT
      all_goals
        subst hT
        rw [hl] at hld
        simp [run_underlying hu, hq, hld]

section
variable {P : Program} {n : Nat} {Q : Post} {L : Slots} {m : Snap} {H : Hp} {ops : Array Oper} {rest : List Oper} {d : Option Tmp} {ty : TypeId} {ps : String} {af : Array Edge} {gd : Option (Nat × Bool)}

theorem y_fieldAddr {s : TypeId} {x : Operand} {f k : Nat} {a a' : Option Addr} (hx : opv L x = some (.pointer a)) (ha : At m H a) (hk : fieldOff P s f = some k) (he : eadd a k = a')
    :
    Yl P n L m H ⟨d, .fieldAddr s x f, ty, ps, af, gd⟩ (.pointer a') := by
  intro ac hf w hst
  obtain ⟨g, o, rfl⟩ := ha w hst
  unfold fieldOff at hk
  simp only [execOp, hf.eval hx, Instr.fieldAt]
  cases hu : P.underlying s with
  | none => simp [hu] at hk
  | some D =>
    cases D <;> simp only [hu, reduceCtorEq] at hk
    rename_i fs
    cases hfd : fs[f]? with
    | none => simp [hfd] at hk
    | some fd =>
      simp only [hfd] at hk
      cases hi : P.info? fd.type with
      | none => simp [hi] at hk
      | some i =>
        simp only [hi] at hk
        split at hk
        · cases hk
        · rename_i hne
          cases hk
          subst he
          simp [run_underlying hu, hfd, Instr.sureAddr, fieldPlace, sizeOf, typeInfo, hi, hne, addr_add, eadd]

theorem y_indexAddr_slice {t e : TypeId} {x ix : Operand} {s : Nat} {kd : IntKind} {k len cap : Nat} {a : Option Addr} (hx : opv L x = some (.slice a len cap)) (hi : opv L ix = some (.int kd (k : Int)))
    (ht : tslice P t = some (e, s)) (hk : k < len) (ha : At m H a) :
    Yl P n L m H ⟨d, .indexAddr t x ix, ty, ps, af, gd⟩ (.pointer (eadd a (k * s))) := by
  intro ac hf w hst
  obtain ⟨g, o, rfl⟩ := ha w hst
  unfold tslice at ht
  simp only [execOp, hf.eval hx, hf.eval hi, Instr.indexAt, asIntOf]
  cases hu : P.underlying t with
  | none => simp [hu] at ht
  | some D =>
    cases D <;> simp only [hu, reduceCtorEq] at ht
    rename_i e'
    cases hi : P.info? e' with
    | none => simp [hi] at ht
    | some i =>
      simp only [hi, Option.some.injEq, Prod.mk.injEq] at ht
      obtain ⟨rfl, rfl⟩ := ht
      simp [run_underlying hu, hk, sizeOf, typeInfo, hi, addr_add, eadd]

theorem tarray_spec {t : TypeId} {len s : Nat} {b : Bool} (ht : tarray P t = some (len, b, s)) : ∃ e i, P.underlying t = some (.array len e) ∧ tshape P e = some (b, s) ∧ P.info? e = some i ∧ i.size = s := by
  unfold tarray at ht
  cases hu : P.underlying t with
  | none => simp [hu] at ht
  | some D =>
    cases D <;> simp only [hu, reduceCtorEq] at ht
    rename_i l e
    cases hs : tshape P e with
    | none => simp [hs] at ht
    | some bs =>
      obtain ⟨b', s'⟩ := bs
      simp only [hs, Option.some.injEq, Prod.mk.injEq] at ht
      obtain ⟨rfl, rfl, rfl⟩ := ht
      have hs' := hs
      unfold tshape at hs
      cases hue : P.underlying e with
      | none => simp [hue] at hs
      | some D' =>
        cases hq : P.info? e with
        | none => cases D' <;> simp [hue, hq] at hs
        | some i =>
          refine ⟨e, i, rfl, hs', hq, ?_⟩
          cases D' <;> simp only [hue, hq, Option.some.injEq, Prod.mk.injEq] at hs <;> exact hs.2

theorem y_indexAddr_arr {t : TypeId} {x ix : Operand} {s : Nat} {b : Bool} {kd : IntKind} {k len : Nat} {a : Option Addr} (hx : opv L x = some (.pointer a)) (hi : opv L ix = some (.int kd (k : Int)))
    (ht : tarray P t = some (len, b, s)) (hk : k < len) (ha : At m H a) :
    Yl P n L m H ⟨d, .indexAddr t x ix, ty, ps, af, gd⟩ (.pointer (eadd a (k * s))) := by
  intro ac hf w hst
  obtain ⟨g, o, rfl⟩ := ha w hst
  obtain ⟨e, i, hu, _, hq, hs⟩ := tarray_spec ht
  simp only [execOp, hf.eval hx, hf.eval hi, Instr.indexAt, asIntOf]
  simp [run_underlying hu, hk, sizeOf, typeInfo, hq, hs, addr_add, eadd, Instr.sureAddr]

theorem y_load_s {t : TypeId} {x : Operand} {s : Nat} {a : Option Addr} {v : Value} (hx : opv L x = some (.pointer a)) (hT : tshape P t = some (false, s)) (hr : RdS m H a v)
    :
    Yl P n L m H ⟨d, .load t x, ty, ps, af, gd⟩ v := by
  intro ac hf w hs
  obtain ⟨g, o, rfl, hc⟩ := hr w hs
  simp [execOp, hf.eval hx, Instr.loadAt, Instr.sureAddr, run_loadVar_s hT hc]

theorem y_load_a {t : TypeId} {x : Operand} {s : Nat} {a : Option Addr} {cs : List Value} (hx : opv L x = some (.pointer a)) (hT : tshape P t = some (true, s)) (hr : RdA m H a s cs)
    :
    Yl P n L m H ⟨d, .load t x, ty, ps, af, gd⟩ (.agg cs.toArray) := by
  intro ac hf w hs
  obtain ⟨hl, hr⟩ := hr
  obtain ⟨g, o, rfl, hc⟩ := hr w hs
  simp [execOp, hf.eval hx, Instr.loadAt, Instr.sureAddr, run_loadVar_a hT hl hc]

theorem s_box_a {K : Slots → Snap → Hp → Prop} {t : TypeId} {x : Operand} {cs : List Value} (hd : dstOk n d = true) (hx : opv L x = some (.agg cs.toArray))
    (h : ∀ b, K (lput L d (.pointer (some ⟨b, 0, none⟩))) m (.blk b (.cells cs.toArray t) :: H)) : SP P n L m H ⟨d, .box t x, ty, ps, af, gd⟩ K :=
  s_value hd fun ac w hf hs => ⟨.pointer (some ⟨w.heap.size, 0, none⟩), m, _, _, by simp only [execOp, hf.eval hx]; rfl, hs.alloc (.cells cs.toArray t), h _⟩

theorem s_box_s {K : Slots → Snap → Hp → Prop} {t : TypeId} {x : Operand} {v : Value} (hd : dstOk n d = true) (hx : opv L x = some v) (h1 : v.cells = #[v])
    (h : ∀ b, K (lput L d (.pointer (some ⟨b, 0, none⟩))) m (.blk b (.cells [v].toArray t) :: H)) : SP P n L m H ⟨d, .box t x, ty, ps, af, gd⟩ K :=
  s_value hd fun ac w hf hs => ⟨.pointer (some ⟨w.heap.size, 0, none⟩), m, _, _, by
    simp only [execOp, hf.eval hx, Instr.box, newVar, newRow, h1]; rfl, hs.alloc (.cells [v].toArray t), h _⟩

/-- The cells of a type's zero. -/
def tzero (P : Program) (t : TypeId) : Option (List Value) := match P.info? t with
  | some i => match i.zero with
    | some z => some z.cells.toList
    | none => none
  | none => none

theorem s_alloc {K : Slots → Snap → Hp → Prop} {t : TypeId} {cs : List Value} (hd : dstOk n d = true) (hz : tzero P t = some cs)
    (h : ∀ b, K (lput L d (.pointer (some ⟨b, 0, none⟩))) m (.blk b (.cells cs.toArray t) :: H)) : SP P n L m H ⟨d, .alloc t, ty, ps, af, gd⟩ K := by
  refine s_value hd fun ac w hf hs => ⟨.pointer (some ⟨w.heap.size, 0, none⟩), m, _, w.alloc (.cells cs.toArray t), ?_, hs.alloc (.cells cs.toArray t), h _⟩
  unfold tzero at hz
  split at hz
  · rename_i i hi
    split at hz
    · rename_i z hz'
      cases hz
      simp [execOp, Instr.alloc, zeroValue, typeInfo, hi, hz', newVar, newRow]
    · cases hz
  · cases hz

theorem y_index_arr {t : TypeId} {x ix : Operand} {s : Nat} {kd : IntKind} {k len : Nat} {cs : List Value} {v : Value} (hx : opv L x = some (.agg cs.toArray)) (hi : opv L ix = some (.int kd (k : Int)))
    (ht : tarray P t = some (len, false, s)) (hk : k < len) (hv : cget cs (k * s) = some v) :
    Yl P n L m H ⟨d, .index t x ix, ty, ps, af, gd⟩ v := by
  intro ac hf w _
  obtain ⟨e, i, hu, hsh, hq, hs⟩ := tarray_spec ht
  rw [cget_eq] at hv
  have hag : (isAgg e).run P w = .ok false w := by
    unfold tshape at hsh
    unfold isAgg
    cases hue : P.underlying e with
    | none => simp [hue] at hsh
    | some D => cases D <;> simp only [hue, hq, Option.some.injEq, Prod.mk.injEq, Bool.true_eq_false, false_and] at hsh <;> simp [run_underlying hue]
  simp only [execOp, hf.eval hx, hf.eval hi, Instr.index, asIntOf]
  simp [run_underlying hu, hk, sizeOf, typeInfo, hq, hs, part, hag, hv]

theorem y_extract {x : Operand} {vs : List Value} {k : Nat} {v : Value} (hx : opv L x = some (.tuple vs.toArray)) (hv : cget vs k = some v) :
    Yl P n L m H ⟨d, .extract x k, ty, ps, af, gd⟩ v :=
  fun ac hf w _ => (by
    rw [cget_eq] at hv
    simp [execOp, hf.eval hx, Instr.extract, hv])

theorem y_len {t e : TypeId} {s : Nat} {x : Operand} {a : Option Addr} {len cap : Nat} (ht : tslice P t = some (e, s)) (hx : opv L x = some (.slice a len cap)) :
    Yl P n L m H ⟨d, .call ⟨.builtin .len, [x].toArray, [t].toArray⟩, ty, ps, af, gd⟩ (.int .i64 (len : Int)) :=
  fun ac hf w _ => (by
    unfold tslice at ht
    cases hu : P.underlying t with
    | none => simp [hu] at ht
    | some D =>
      cases D <;> simp only [hu, reduceCtorEq] at ht
      simp [execOp, resolve, invoke, builtin, Builtin.len_, run_underlying hu, hf.eval hx, goInt])
end
end Go.Aw
