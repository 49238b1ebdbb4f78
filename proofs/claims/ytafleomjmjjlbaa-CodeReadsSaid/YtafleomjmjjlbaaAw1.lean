/- The framework: an abstract state (slots, frozen memory, owned blocks) over the model's weakest preconditions, and its rules. -/
import Derived.Deep.Quiet
import Derived.Laws.AppendOwn
import Derived.Tactics
namespace Go.Aw
open Go

abbrev Slots := List (Nat × Value)

def look : Slots → Nat → Option Value
  | [], _ => none
  | (j, v) :: r, i => match Nat.beq j i with
    | true => some v
    | false => look r i

structure Fr (n : Nat) (a : Act) (L : Slots) : Prop where
  size : a.tmps.size = n
  defers : a.defers = []
  get : ∀ i v, look L i = some v → a.tmps[i]? = some v

theorem Fr.put {n : Nat} {a : Act} {L : Slots} (h : Fr n a L) {d : Nat} (hd : d < n) (v : Value) : Fr n (a.put (some d) v) ((d, v) :: L) := by
  refine ⟨by simpa [Act.put] using h.size, h.defers, fun i u hu => ?_⟩
  show (a.tmps.setIfInBounds d v)[i]? = some u
  rw [Array.getElem?_setIfInBounds]
  simp only [look] at hu
  by_cases e : d = i
  · subst e
    rw [Nat.beq_refl] at hu
    cases hu
    rw [if_pos rfl, if_pos (by rw [h.size]; exact hd)]
  · have : Nat.beq d i = false := by
      cases hb : Nat.beq d i with
      | false => rfl
      | true => exact absurd (Nat.eq_of_beq_eq_true hb) e
    rw [this] at hu
    rw [if_neg e]
    exact h.get i u hu

theorem Fr.put_none {n : Nat} {a : Act} {L : Slots} (h : Fr n a L) (v : Value) : Fr n (a.put none v) L := h

def opv (L : Slots) : Operand → Option Value
  | .tmp t => look L t
  | .const v => some v
  | .global g => some (.pointer (some ⟨g, 0, none⟩))
  | .func f => some (.func (.func f) #[] #[])

theorem Fr.eval {n : Nat} {a : Act} {L : Slots} (h : Fr n a L) {x : Operand} {v : Value} (hx : opv L x = some v) : a.eval x = v := by
  cases x with
  | tmp t =>
    have := h.get t v hx
    simp [Act.eval, Array.getD_eq_getD_getElem?, this]
  | const u => simpa [opv, Act.eval] using hx
  | global g => simpa [opv, Act.eval] using hx
  | func f => simpa [opv, Act.eval] using hx

/-- Each pair of the second list can be looked up in the first. -/
def Sub (L : Slots) : Slots → Prop
  | [] => True
  | (i, v) :: r => look L i = some v ∧ Sub L r

theorem Sub.get {L : Slots} : ∀ {L' : Slots}, Sub L L' → ∀ i v, look L' i = some v → look L i = some v
  | [], _, _, _, h => by simp [look] at h
  | (j, u) :: r, ⟨h1, h2⟩, i, v, h => by
    simp only [look] at h
    cases hb : Nat.beq j i with
    | true => rw [hb] at h; cases h; rw [← Nat.eq_of_beq_eq_true hb]; exact h1
    | false => rw [hb] at h; exact Sub.get h2 i v h

theorem look_app : ∀ (L1 L2 : Slots) (i : Nat) (v : Value), look L1 i = some v → look (L1 ++ L2) i = some v
  | [], _, _, _, h => by simp [look] at h
  | (j, u) :: r, L2, i, v, h => by
    simp only [look, List.cons_append] at h ⊢
    cases hb : Nat.beq j i with
    | true => rw [hb] at h; exact h
    | false => rw [hb] at h; exact look_app r L2 i v h

theorem Fr.weak {n : Nat} {a : Act} {L L' : Slots} (h : Fr n a L) (hs : Sub L L') : Fr n a L' := ⟨h.size, h.defers, fun i v hv => h.get i v (hs.get i v hv)⟩

/-- What is known of memory that stays as it is, and of the rest of the world. -/
structure Snap where
  heap : Nat → Option Obj
  os : Os
  tape : Nat → Question → Nat
  output : Array (Nat × ByteArray)

structure Snap.le (m m' : Snap) : Prop where
  heap : ∀ k o, m.heap k = some o → m'.heap k = some o
  os : m'.os = m.os
  tape : m'.tape = m.tape
  output : m'.output = m.output

theorem Snap.le.refl (m : Snap) : m.le m := ⟨fun _ _ h => h, rfl, rfl, rfl⟩
theorem Snap.le.trans {a b c : Snap} (h : a.le b) (k : b.le c) : a.le c := ⟨fun i o e => k.heap i o (h.heap i o e), k.os.trans h.os, k.tape.trans h.tape, k.output.trans h.output⟩

inductive Item where
  | blk (b : Nat) (o : Obj)
  | vec (a : Option Addr) (n cap : Nat) (e : TypeId) (size : Nat) (xs : List (List Value))

def Item.own : Item → List Nat
  | .blk b _ => [b]
  | .vec a _ _ _ _ _ => (a.map (·.block)).toList

def Item.holds (w : World) : Item → Prop
  | .blk b o => w.heap[b]? = some o
  | .vec a n cap e size xs => w.ownsRow 0 e size (.slice a n cap) n xs.flatten ∧ xs.length = n ∧ ∀ c ∈ xs, c.length = size

abbrev Hp := List Item
def owned (H : Hp) : List Nat := H.flatMap Item.own

structure St (m : Snap) (H : Hp) (w : World) : Prop where
  os : w.os = m.os
  tape : w.tape = m.tape
  output : w.output = m.output
  frz : ∀ k o, m.heap k = some o → w.heap[k]? = some o
  hold : ∀ it ∈ H, it.holds w
  nodup : (owned H).Nodup
  apart : ∀ k ∈ owned H, m.heap k = none

theorem Item.holds_lt {w : World} {it : Item} (h : it.holds w) : ∀ k ∈ it.own, k < w.heap.size := by
  intro k hk
  cases it with
  | blk b o =>
    simp only [Item.own, List.mem_singleton] at hk
    subst hk
    exact (Array.getElem?_eq_some_iff.1 h).1
  | vec a n cap e size xs =>
    have := World.ownsRow.lt h.1 k (by cases a <;> simp_all [Item.own, Value.ownBlock])
    exact this.2

theorem Item.holds_of {w w' : World} {it : Item} (h : it.holds w) (hk : ∀ k ∈ it.own, w'.heap[k]? = w.heap[k]?) : it.holds w' := by
  cases it with
  | blk b o => exact (hk b (by simp [Item.own])).trans h
  | vec a n cap e size xs =>
    refine ⟨⟨h.1.1, ?_⟩, h.2⟩
    rcases h.1.2 with hn | ⟨g, cap', cur, hv, hb, hgg, rest⟩
    · exact .inl hn
    · refine .inr ⟨g, cap', cur, hv, hb, (hk g ?_).trans hgg, rest⟩
      cases hv
      simp [Item.own]

theorem mem_owned {H : Hp} {k : Nat} : k ∈ owned H ↔ ∃ it ∈ H, k ∈ it.own := by simp [owned]

theorem St.lt {m : Snap} {H : Hp} {w : World} (h : St m H w) : ∀ k ∈ owned H, k < w.heap.size := by
  intro k hk
  obtain ⟨it, hi, ho⟩ := mem_owned.1 hk
  exact Item.holds_lt (h.hold it hi) k ho

theorem St.frz_lt {m : Snap} {H : Hp} {w : World} (h : St m H w) {k : Nat} {o : Obj} (hk : m.heap k = some o) : k < w.heap.size :=
  (Array.getElem?_eq_some_iff.1 (h.frz k o hk)).1

/-- A draw. -/
theorem St.drawn {m : Snap} {H : Hp} {w : World} (h : St m H w) (d : Nat) : St m H { w with drawn := d } :=
  ⟨h.os, h.tape, h.output, h.frz, fun it hi => Item.holds_of (h.hold it hi) fun _ _ => rfl, h.nodup, h.apart⟩

/-- A new block. -/
theorem St.alloc {m : Snap} {H : Hp} {w : World} (h : St m H w) (o : Obj) : St m (.blk w.heap.size o :: H) (w.alloc o) := by
  have hnew : (w.alloc o).heap[w.heap.size]? = some o := by
    show (w.heap.push o)[w.heap.size]? = some o
    rw [Array.getElem?_push, if_pos rfl]
  have hold : ∀ k, k < w.heap.size → (w.alloc o).heap[k]? = w.heap[k]? := fun k hk => by
    show (w.heap.push o)[k]? = _
    rw [Array.getElem?_push, if_neg (by omega)]
  refine ⟨h.os, h.tape, h.output, fun k u hk => (hold k (h.frz_lt hk)).trans (h.frz k u hk), ?_, ?_, ?_⟩
  · intro it hi
    rcases List.mem_cons.1 hi with rfl | hi
    · exact hnew
    · exact Item.holds_of (h.hold it hi) fun k hk => hold k (h.lt k (mem_owned.2 ⟨it, hi, hk⟩))
  · show (w.heap.size :: owned H).Nodup
    exact List.nodup_cons.2 ⟨fun hm => Nat.lt_irrefl _ (h.lt _ hm), h.nodup⟩
  · intro k hk
    rcases List.mem_cons.1 (show k ∈ w.heap.size :: owned H from hk) with rfl | hk
    · cases hh : m.heap w.heap.size with
      | none => rfl
      | some u => exact absurd (h.frz_lt hh) (Nat.lt_irrefl _)
    · exact h.apart k hk

/-- Items may be left out, or told in another order. -/
theorem St.sub {m : Snap} {H H' : Hp} {w : World} (h : St m H w) (hs : ∀ x ∈ H', x ∈ H) (hn : (owned H').Nodup) : St m H' w :=
  ⟨h.os, h.tape, h.output, h.frz, fun it hi => h.hold it (hs it hi), hn, fun k hk => by
    obtain ⟨it, hi, ho⟩ := mem_owned.1 hk
    exact h.apart k (mem_owned.2 ⟨it, hs it hi, ho⟩)⟩

theorem St.perm {m : Snap} {H H' : Hp} {w : World} (h : St m H w) (hp : H.Perm H') : St m H' w :=
  h.sub (fun it hi => hp.mem_iff.2 hi) ((hp.flatMap_right _).nodup_iff.1 h.nodup)

theorem St.tail {m : Snap} {it : Item} {H : Hp} {w : World} (h : St m (it :: H) w) : St m H w :=
  h.sub (fun _ hi => List.mem_cons_of_mem _ hi) (by have := h.nodup; simp only [owned, List.flatMap_cons] at this; exact (List.nodup_append.1 this).2.1)

theorem St.drop {m : Snap} {X H : Hp} {w : World} (h : St m (X ++ H) w) : St m H w := by
  induction X with
  | nil => exact h
  | cons x X ih => exact ih h.tail

/-- One owned block is written: all else stays. -/
theorem St.write {m : Snap} {it it' : Item} {H : Hp} {w w' : World} (h : St m (it :: H) w) (hown : it'.own = it.own) (hh : it'.holds w')
    (hos : w'.os = w.os) (htape : w'.tape = w.tape) (hout : w'.output = w.output) (hk : ∀ k, k ∉ it.own → k < w.heap.size → w'.heap[k]? = w.heap[k]?) : St m (it' :: H) w' := by
  have hn : ∀ k, k ∈ it.own → k ∉ owned H := by
    have := h.nodup
    simp only [owned, List.flatMap_cons, List.nodup_append] at this
    intro k h1 h2
    exact this.2.2 k h1 k h2 rfl
  have ha : owned (it' :: H) = owned (it :: H) := by simp [owned, hown]
  refine ⟨hos.trans h.os, htape.trans h.tape, hout.trans h.output, fun k o ho => ?_, ?_, ha ▸ h.nodup, ha ▸ h.apart⟩
  · have hx : k ∉ it.own := fun hm => by
      have := h.apart k (mem_owned.2 ⟨it, List.mem_cons_self, hm⟩)
      rw [this] at ho; cases ho
    exact (hk k hx (h.frz_lt ho)).trans (h.frz k o ho)
  · intro x hx
    rcases List.mem_cons.1 hx with rfl | hx
    · exact hh
    · exact Item.holds_of (h.hold x (List.mem_cons_of_mem _ hx)) fun k hko =>
        hk k (fun hm => hn k hm (mem_owned.2 ⟨x, hx, hko⟩)) (h.lt k (mem_owned.2 ⟨x, List.mem_cons_of_mem _ hx, hko⟩))

/-- A block is given up for good: it stays as it is from now on. -/
def Snap.add (m : Snap) (b : Nat) (o : Obj) : Snap := { m with heap := fun k => if k = b then some o else m.heap k }

theorem St.freeze {m : Snap} {b : Nat} {o : Obj} {H : Hp} {w : World} (h : St m (.blk b o :: H) w) : m.le (m.add b o) ∧ St (m.add b o) H w := by
  have hb : m.heap b = none := h.apart b (by simp [owned, Item.own])
  have hn := h.nodup
  simp only [owned, List.flatMap_cons, Item.own, List.singleton_append, List.nodup_cons] at hn
  refine ⟨⟨fun k u hk => ?_, rfl, rfl, rfl⟩, ⟨h.os, h.tape, h.output, fun k u hk => ?_, fun it hi => h.hold it (List.mem_cons_of_mem _ hi), hn.2, fun k hk => ?_⟩⟩
  · simp only [Snap.add]
    rw [if_neg (fun e => by rw [e, hb] at hk; cases hk)]; exact hk
  · simp only [Snap.add] at hk
    split at hk
    · rename_i e; subst e; cases hk; exact h.hold _ List.mem_cons_self
    · exact h.frz k u hk
  · simp only [Snap.add]
    rw [if_neg (fun e => hn.1 (by rw [e] at hk; exact hk))]
    exact h.apart k (by simp only [owned, List.flatMap_cons] at hk ⊢; exact List.mem_append_right _ hk)

/-- The abstract posts. -/
abbrev Post := Exit → Slots → Snap → Hp → Prop

def Lift (n : Nat) (Q : Post) : Exit → Act → World → Prop := fun e a w => ∃ L m H, Fr n a L ∧ St m H w ∧ Q e L m H

def RunC (P : Program) (n : Nat) (c : Code) (Q : Post) (L : Slots) (m : Snap) (H : Hp) : Prop :=
  ∀ a w, Fr n a L → St m H w → c.wp P (Lift n Q) a w

def Run (P : Program) (n : Nat) (ops : Array Oper) (Q : Post) (l : List Oper) (L : Slots) (m : Snap) (H : Hp) : Prop :=
  ∀ a w, Fr n a L → St m H w → wpList P ops (Lift n Q) l a w

def thenQ (K : Slots → Snap → Hp → Prop) (Q : Post) : Post
  | .normal, L, m, H => K L m H
  | e, L, m, H => Q e L m H

section
variable {P : Program} {n : Nat} {Q : Post} {L : Slots} {m : Snap} {H : Hp} {ops : Array Oper} {rest : List Oper}

theorem Lift.mono {Q Q' : Post} (h : ∀ e L m H, Q e L m H → Q' e L m H) {e : Exit} {a : Act} {w : World} (hq : Lift n Q e a w) : Lift n Q' e a w := by
  obtain ⟨L, m, H, h1, h2, h3⟩ := hq
  exact ⟨L, m, H, h1, h2, h _ _ _ _ h3⟩

theorem RunC.mono {c : Code} {Q' : Post} (hr : RunC P n c Q L m H) (h : ∀ e L m H, Q e L m H → Q' e L m H) : RunC P n c Q' L m H :=
  fun a w hf hs => wp_mono (hr a w hf hs) fun _ _ _ hq => hq.mono h

theorem c_seq {x y : Code} (h : ∀ K : Slots → Snap → Hp → Prop, (∀ L m H, RunC P n y Q L m H → K L m H) → RunC P n x (thenQ K Q) L m H) : RunC P n (.seq x y) Q L m H := by
  intro a w hf hs
  refine wp_seq (wp_mono (h _ (fun _ _ _ hk => hk) a w hf hs) ?_)
  intro e a' w' ⟨L', m', H', h1, h2, h3⟩
  cases e with
  | normal => exact h3 a' w' h1 h2
  | _ => exact ⟨L', m', H', h1, h2, h3⟩

theorem c_weak (L' : Slots) {c : Code} (hs : Sub L L') (h : RunC P n c Q L' m H) : RunC P n c Q L m H := fun a w hf hw => h a w (hf.weak hs) hw

theorem c_skip (h : Q .normal L m H) : RunC P n .skip Q L m H := fun _ _ hf hs => wp_skip ⟨L, m, H, hf, hs, h⟩
theorem c_ret (h : Q .ret L m H) : RunC P n .ret Q L m H := fun _ _ hf hs => wp_ret ⟨L, m, H, hf, hs, h⟩
theorem c_exit {id : Nat} (h : Q (.exit id) L m H) : RunC P n (.exit id) Q L m H := fun _ _ hf hs => wp_exit ⟨L, m, H, hf, hs, h⟩

theorem c_cond {c : Operand} {x y : Code} {t : Bool} (hc : opv L c = some (.bool t)) (h1 : t = true → RunC P n x Q L m H) (h2 : t = false → RunC P n y Q L m H) : RunC P n (.cond c x y) Q L m H := by
  intro a w hf hs
  refine wp_cond (hf.eval hc) ?_
  cases t with
  | true => exact h1 rfl a w hf hs
  | false => exact h2 rfl a w hf hs

def blockQ (id : Nat) (Q : Post) : Post
  | .exit i, L, m, H => if i = id then Q .normal L m H else Q (.exit i) L m H
  | e, L, m, H => Q e L m H

theorem c_block {id : Nat} {c : Code} (h : RunC P n c (blockQ id Q) L m H) : RunC P n (.block id c) Q L m H := by
  intro a w hf hs
  refine wp_block (wp_mono (h a w hf hs) ?_)
  intro e a' w' ⟨L', m', H', h1, h2, h3⟩
  cases e with
  | exit i =>
    simp only [blockQ] at h3
    simp only [Exit.inBlock]
    split
    · rename_i e; rw [if_pos e] at h3; exact ⟨L', m', H', h1, h2, h3⟩
    · rename_i e; rw [if_neg e] at h3; exact ⟨L', m', H', h1, h2, h3⟩
  | _ => exact ⟨L', m', H', h1, h2, h3⟩

/-- A loop: 'I k' holds with k rounds, at the most, to come. -/
theorem c_loop {c : Code} (I : Nat → Slots → Snap → Hp → Prop) (k : Nat) (h0 : I k L m H)
    (round : ∀ k L m H, I k L m H → RunC P n c (thenQ (fun L m H => ∃ j, j < k ∧ I j L m H) Q) L m H) : RunC P n (.loop c) Q L m H := by
  intro a w hf hs
  have key : ∀ (k : Nat) (L : Slots) (m : Snap) (H : Hp), I k L m H → ∀ a w, Fr n a L → St m H w → ∀ (b : Frame) (kk : List Go.Item) (cs : List Frame),
      ∃ e a' w', Lift n Q e a' w' ∧ Arrives P (lone (b.at a (.code c :: .inLoop c :: kk)) cs w) b kk cs e a' w' := by
    intro k
    induction k using Nat.strongRecOn with
    | _ k ih =>
      intro L m H hi a w hf hs b kk cs
      obtain ⟨e, a1, w1, ⟨L1, m1, H1, hf1, hs1, hq⟩, harr⟩ := round k L m H hi a w hf hs b (.inLoop c :: kk) cs
      cases e with
      | normal =>
        obtain ⟨j, hj, hi1⟩ := hq
        obtain ⟨e2, a2, w2, hq2, harr2⟩ := ih j hj L1 m1 H1 hi1 a1 w1 hf1 hs1 b kk cs
        exact ⟨e2, a2, w2, hq2, .of_steps (Steps.trans harr (.one step_inLoop)) harr2⟩
      | exit i => exact ⟨_, a1, w1, ⟨L1, m1, H1, hf1, hs1, hq⟩, .pass (x := .inLoop c) rfl (fun _ _ => .inl (by simp)) harr⟩
      | goto l => exact ⟨_, a1, w1, ⟨L1, m1, H1, hf1, hs1, hq⟩, .pass (x := .inLoop c) rfl (fun _ _ => .inl (by simp)) harr⟩
      | ret => exact ⟨_, a1, w1, ⟨L1, m1, H1, hf1, hs1, hq⟩, .pass (x := .inLoop c) rfl (fun _ _ => .inl (by simp)) harr⟩
      | panic ch => exact ⟨_, a1, w1, ⟨L1, m1, H1, hf1, hs1, hq⟩, .pass (x := .inLoop c) rfl (fun _ _ => .inl (by simp)) harr⟩
      | outgrown => exact ⟨_, a1, w1, ⟨L1, m1, H1, hf1, hs1, hq⟩, .pass (x := .inLoop c) rfl (fun _ _ => .inl (by simp)) harr⟩
  intro b kk cs
  obtain ⟨e, a', w', hq, harr⟩ := key k L m H h0 a w hf hs b kk cs
  exact ⟨e, a', w', hq, .of_steps (.one step_loop) harr⟩
end
end Go.Aw
