/- Part 1 of the words and walks that the proof behind it uses. -/
import Derived.Deep.Quiet
import Derived.Laws.AppendOwn
import Derived.Tactics
import Derived.Deep.AppendSrc
import Derived.OrdersHeld
import Derived.Laws.OwnMore
import Derived.DeepKeys
import Derived.Laws.StructEq
set_option linter.unusedVariables false
set_option linter.unusedSimpArgs false
set_option maxHeartbeats 1000000
namespace Go.Aw
open Go
abbrev Slots := List (Nat × Value)
def look : Slots → Nat → Option Value
  | [], _ => none
  | (j, v) :: r, i => match Nat.beq j i with
    | true => some v
    | false => look r i
structure Fr (n : Nat) (a : Act) (L : Slots) : Prop where
  size : a.tmps.size = n
  defers : a.defers = []
  get : ∀ i v, look L i = some v → a.tmps[i]? = some v
theorem Fr.put {n : Nat} {a : Act} {L : Slots} (h : Fr n a L) {d : Nat} (hd : d < n) (v : Value) : Fr n (a.put (some d) v) ((d, v) :: L) := by
  refine ⟨by simpa [Act.put] using h.size, h.defers, fun i u hu => ?_⟩
  show (a.tmps.setIfInBounds d v)[i]? = some u
  rw [Array.getElem?_setIfInBounds]
  simp only [look] at hu
  by_cases e : d = i
  · subst e
    rw [Nat.beq_refl] at hu
    cases hu
    rw [if_pos rfl, if_pos (by rw [h.size]; exact hd)]
  · have : Nat.beq d i = false := by
      cases hb : Nat.beq d i with
      | false => rfl
      | true => exact absurd (Nat.eq_of_beq_eq_true hb) e
    rw [this] at hu
    rw [if_neg e]
    exact h.get i u hu
def opv (L : Slots) : Operand → Option Value
  | .tmp t => look L t
  | .const v => some v
  | .global g => some (.pointer (some ⟨g, 0, none⟩))
  | .func f => some (.func (.func f) #[] #[])
theorem Fr.eval {n : Nat} {a : Act} {L : Slots} (h : Fr n a L) {x : Operand} {v : Value} (hx : opv L x = some v) : a.eval x = v := by
  cases x with
  | tmp t =>
    have := h.get t v hx
    simp [Act.eval, Array.getD_eq_getD_getElem?, this]
  | const u => simpa [opv, Act.eval] using hx
  | global g => simpa [opv, Act.eval] using hx
  | func f => simpa [opv, Act.eval] using hx
/-- Each pair of the second list can be looked up in the first. -/
def Sub (L : Slots) : Slots → Prop
  | [] => True
  | (i, v) :: r => look L i = some v ∧ Sub L r
theorem Sub.get {L : Slots} : ∀ {L' : Slots}, Sub L L' → ∀ i v, look L' i = some v → look L i = some v
  | [], _, _, _, h => by simp [look] at h
  | (j, u) :: r, ⟨h1, h2⟩, i, v, h => by
    simp only [look] at h
    cases hb : Nat.beq j i with
    | true => rw [hb] at h; cases h; rw [← Nat.eq_of_beq_eq_true hb]; exact h1
    | false => rw [hb] at h; exact Sub.get h2 i v h
theorem Fr.weak {n : Nat} {a : Act} {L L' : Slots} (h : Fr n a L) (hs : Sub L L') : Fr n a L' := ⟨h.size, h.defers, fun i v hv => h.get i v (hs.get i v hv)⟩
/-- What is known of memory that stays as it is, and of the rest of the world. -/
structure Snap where
  heap : Nat → Option Obj
  os : Os
  tape : Nat → Question → Nat
  output : Array (Nat × ByteArray)
structure Snap.le (m m' : Snap) : Prop where
  heap : ∀ k o, m.heap k = some o → m'.heap k = some o
  os : m'.os = m.os
  tape : m'.tape = m.tape
  output : m'.output = m.output
theorem Snap.le.refl (m : Snap) : m.le m := ⟨fun _ _ h => h, rfl, rfl, rfl⟩
theorem Snap.le.trans {a b c : Snap} (h : a.le b) (k : b.le c) : a.le c := ⟨fun i o e => k.heap i o (h.heap i o e), k.os.trans h.os, k.tape.trans h.tape, k.output.trans h.output⟩
inductive Item where
  | blk (b : Nat) (o : Obj)
  | vec (a : Option Addr) (n cap : Nat) (e : TypeId) (size : Nat) (xs : List (List Value))
def Item.own : Item → List Nat
  | .blk b _ => [b]
  | .vec a _ _ _ _ _ => (a.map (·.block)).toList
def Item.holds (w : World) : Item → Prop
  | .blk b o => w.heap[b]? = some o
  | .vec a n cap e size xs => w.ownsRow 0 e size (.slice a n cap) n xs.flatten ∧ xs.length = n ∧ ∀ c ∈ xs, c.length = size
abbrev Hp := List Item
def owned (H : Hp) : List Nat := H.flatMap Item.own
structure St (m : Snap) (H : Hp) (w : World) : Prop where
  os : w.os = m.os
  tape : w.tape = m.tape
  output : w.output = m.output
  frz : ∀ k o, m.heap k = some o → w.heap[k]? = some o
  hold : ∀ it ∈ H, it.holds w
  nodup : (owned H).Nodup
  apart : ∀ k ∈ owned H, m.heap k = none
theorem Item.holds_lt {w : World} {it : Item} (h : it.holds w) : ∀ k ∈ it.own, k < w.heap.size := by
  intro k hk
  cases it with
  | blk b o =>
    simp only [Item.own, List.mem_singleton] at hk
    subst hk
    exact (Array.getElem?_eq_some_iff.1 h).1
  | vec a n cap e size xs =>
    have := World.ownsRow.lt h.1 k (by cases a <;> simp_all [Item.own, Value.ownBlock])
    exact this.2
theorem Item.holds_of {w w' : World} {it : Item} (h : it.holds w) (hk : ∀ k ∈ it.own, w'.heap[k]? = w.heap[k]?) : it.holds w' := by
  cases it with
  | blk b o => exact (hk b (by simp [Item.own])).trans h
  | vec a n cap e size xs =>
    refine ⟨⟨h.1.1, ?_⟩, h.2⟩
    rcases h.1.2 with hn | ⟨g, cap', cur, hv, hb, hgg, rest⟩
    · exact .inl hn
    · refine .inr ⟨g, cap', cur, hv, hb, (hk g ?_).trans hgg, rest⟩
      cases hv
      simp [Item.own]
theorem mem_owned {H : Hp} {k : Nat} : k ∈ owned H ↔ ∃ it ∈ H, k ∈ it.own := by simp [owned]
theorem St.lt {m : Snap} {H : Hp} {w : World} (h : St m H w) : ∀ k ∈ owned H, k < w.heap.size := by
  intro k hk
  obtain ⟨it, hi, ho⟩ := mem_owned.1 hk
  exact Item.holds_lt (h.hold it hi) k ho
theorem St.frz_lt {m : Snap} {H : Hp} {w : World} (h : St m H w) {k : Nat} {o : Obj} (hk : m.heap k = some o) : k < w.heap.size :=
  (Array.getElem?_eq_some_iff.1 (h.frz k o hk)).1
/-- A draw. -/
theorem St.drawn {m : Snap} {H : Hp} {w : World} (h : St m H w) (d : Nat) : St m H { w with drawn := d } :=
  ⟨h.os, h.tape, h.output, h.frz, fun it hi => Item.holds_of (h.hold it hi) fun _ _ => rfl, h.nodup, h.apart⟩
/-- A new block. -/
theorem St.alloc {m : Snap} {H : Hp} {w : World} (h : St m H w) (o : Obj) : St m (.blk w.heap.size o :: H) (w.alloc o) := by
  have hnew : (w.alloc o).heap[w.heap.size]? = some o := by
    show (w.heap.push o)[w.heap.size]? = some o
    rw [Array.getElem?_push, if_pos rfl]
  have hold : ∀ k, k < w.heap.size → (w.alloc o).heap[k]? = w.heap[k]? := fun k hk => by
    show (w.heap.push o)[k]? = _
    rw [Array.getElem?_push, if_neg (by omega)]
  refine ⟨h.os, h.tape, h.output, fun k u hk => (hold k (h.frz_lt hk)).trans (h.frz k u hk), ?_, ?_, ?_⟩
  · intro it hi
    rcases List.mem_cons.1 hi with rfl | hi
    · exact hnew
    · exact Item.holds_of (h.hold it hi) fun k hk => hold k (h.lt k (mem_owned.2 ⟨it, hi, hk⟩))
  · show (w.heap.size :: owned H).Nodup
    exact List.nodup_cons.2 ⟨fun hm => Nat.lt_irrefl _ (h.lt _ hm), h.nodup⟩
  · intro k hk
    rcases List.mem_cons.1 (show k ∈ w.heap.size :: owned H from hk) with rfl | hk
    · cases hh : m.heap w.heap.size with
      | none => rfl
      | some u => exact absurd (h.frz_lt hh) (Nat.lt_irrefl _)
    · exact h.apart k hk
/-- Items may be left out, or told in another order. -/
theorem St.sub {m : Snap} {H H' : Hp} {w : World} (h : St m H w) (hs : ∀ x ∈ H', x ∈ H) (hn : (owned H').Nodup) : St m H' w :=
  ⟨h.os, h.tape, h.output, h.frz, fun it hi => h.hold it (hs it hi), hn, fun k hk => by
    obtain ⟨it, hi, ho⟩ := mem_owned.1 hk
    exact h.apart k (mem_owned.2 ⟨it, hs it hi, ho⟩)⟩
theorem St.perm {m : Snap} {H H' : Hp} {w : World} (h : St m H w) (hp : H.Perm H') : St m H' w :=
  h.sub (fun it hi => hp.mem_iff.2 hi) ((hp.flatMap_right _).nodup_iff.1 h.nodup)
theorem St.tail {m : Snap} {it : Item} {H : Hp} {w : World} (h : St m (it :: H) w) : St m H w :=
  h.sub (fun _ hi => List.mem_cons_of_mem _ hi) (by have := h.nodup; simp only [owned, List.flatMap_cons] at this; exact (List.nodup_append.1 this).2.1)
theorem St.drop {m : Snap} {X H : Hp} {w : World} (h : St m (X ++ H) w) : St m H w := by
  induction X with
  | nil => exact h
  | cons x X ih => exact ih h.tail
/-- One owned block is written: all else stays. -/
theorem St.write {m : Snap} {it it' : Item} {H : Hp} {w w' : World} (h : St m (it :: H) w) (hown : it'.own = it.own) (hh : it'.holds w')
    (hos : w'.os = w.os) (htape : w'.tape = w.tape) (hout : w'.output = w.output) (hk : ∀ k, k ∉ it.own → k < w.heap.size → w'.heap[k]? = w.heap[k]?) : St m (it' :: H) w' := by
  have hn : ∀ k, k ∈ it.own → k ∉ owned H := by
    have := h.nodup
    simp only [owned, List.flatMap_cons, List.nodup_append] at this
    intro k h1 h2
    exact this.2.2 k h1 k h2 rfl
  have ha : owned (it' :: H) = owned (it :: H) := by simp [owned, hown]
  refine ⟨hos.trans h.os, htape.trans h.tape, hout.trans h.output, fun k o ho => ?_, ?_, ha ▸ h.nodup, ha ▸ h.apart⟩
  · have hx : k ∉ it.own := fun hm => by
      have := h.apart k (mem_owned.2 ⟨it, List.mem_cons_self, hm⟩)
      rw [this] at ho; cases ho
    exact (hk k hx (h.frz_lt ho)).trans (h.frz k o ho)
  · intro x hx
    rcases List.mem_cons.1 hx with rfl | hx
    · exact hh
    · exact Item.holds_of (h.hold x (List.mem_cons_of_mem _ hx)) fun k hko =>
        hk k (fun hm => hn k hm (mem_owned.2 ⟨x, hx, hko⟩)) (h.lt k (mem_owned.2 ⟨x, List.mem_cons_of_mem _ hx, hko⟩))
/-- A block is given up for good: it stays as it is from now on. -/
def Snap.add (m : Snap) (b : Nat) (o : Obj) : Snap := { m with heap := fun k => if k = b then some o else m.heap k }
theorem St.freeze {m : Snap} {b : Nat} {o : Obj} {H : Hp} {w : World} (h : St m (.blk b o :: H) w) : m.le (m.add b o) ∧ St (m.add b o) H w := by
  have hb : m.heap b = none := h.apart b (by simp [owned, Item.own])
  have hn := h.nodup
  simp only [owned, List.flatMap_cons, Item.own, List.singleton_append, List.nodup_cons] at hn
  refine ⟨⟨fun k u hk => ?_, rfl, rfl, rfl⟩, ⟨h.os, h.tape, h.output, fun k u hk => ?_, fun it hi => h.hold it (List.mem_cons_of_mem _ hi), hn.2, fun k hk => ?_⟩⟩
  · simp only [Snap.add]
    rw [if_neg (fun e => by rw [e, hb] at hk; cases hk)]; exact hk
  · simp only [Snap.add] at hk
    split at hk
    · rename_i e; subst e; cases hk; exact h.hold _ List.mem_cons_self
    · exact h.frz k u hk
  · simp only [Snap.add]
    rw [if_neg (fun e => hn.1 (by rw [e] at hk; exact hk))]
    exact h.apart k (by simp only [owned, List.flatMap_cons] at hk ⊢; exact List.mem_append_right _ hk)
/-- The abstract posts. -/
abbrev Post := Exit → Slots → Snap → Hp → Prop
def Lift (n : Nat) (Q : Post) : Exit → Act → World → Prop := fun e a w => ∃ L m H, Fr n a L ∧ St m H w ∧ Q e L m H
def RunC (P : Program) (n : Nat) (c : Code) (Q : Post) (L : Slots) (m : Snap) (H : Hp) : Prop :=
  ∀ a w, Fr n a L → St m H w → c.wp P (Lift n Q) a w
def Run (P : Program) (n : Nat) (ops : Array Oper) (Q : Post) (l : List Oper) (L : Slots) (m : Snap) (H : Hp) : Prop :=
  ∀ a w, Fr n a L → St m H w → wpList P ops (Lift n Q) l a w
def thenQ (K : Slots → Snap → Hp → Prop) (Q : Post) : Post
  | .normal, L, m, H => K L m H
  | e, L, m, H => Q e L m H
section
variable {P : Program} {n : Nat} {Q : Post} {L : Slots} {m : Snap} {H : Hp} {ops : Array Oper} {rest : List Oper}
theorem Lift.mono {Q Q' : Post} (h : ∀ e L m H, Q e L m H → Q' e L m H) {e : Exit} {a : Act} {w : World} (hq : Lift n Q e a w) : Lift n Q' e a w := by
  obtain ⟨L, m, H, h1, h2, h3⟩ := hq
  exact ⟨L, m, H, h1, h2, h _ _ _ _ h3⟩
theorem RunC.mono {c : Code} {Q' : Post} (hr : RunC P n c Q L m H) (h : ∀ e L m H, Q e L m H → Q' e L m H) : RunC P n c Q' L m H :=
  fun a w hf hs => wp_mono (hr a w hf hs) fun _ _ _ hq => hq.mono h
theorem c_seq {x y : Code} (h : ∀ K : Slots → Snap → Hp → Prop, (∀ L m H, RunC P n y Q L m H → K L m H) → RunC P n x (thenQ K Q) L m H) : RunC P n (.seq x y) Q L m H := by
  intro a w hf hs
  refine wp_seq (wp_mono (h _ (fun _ _ _ hk => hk) a w hf hs) ?_)
  intro e a' w' ⟨L', m', H', h1, h2, h3⟩
  cases e with
  | normal => exact h3 a' w' h1 h2
  | _ => exact ⟨L', m', H', h1, h2, h3⟩
theorem c_weak (L' : Slots) {c : Code} (hs : Sub L L') (h : RunC P n c Q L' m H) : RunC P n c Q L m H := fun a w hf hw => h a w (hf.weak hs) hw
theorem c_skip (h : Q .normal L m H) : RunC P n .skip Q L m H := fun _ _ hf hs => wp_skip ⟨L, m, H, hf, hs, h⟩
theorem c_ret (h : Q .ret L m H) : RunC P n .ret Q L m H := fun _ _ hf hs => wp_ret ⟨L, m, H, hf, hs, h⟩
theorem c_exit {id : Nat} (h : Q (.exit id) L m H) : RunC P n (.exit id) Q L m H := fun _ _ hf hs => wp_exit ⟨L, m, H, hf, hs, h⟩
theorem c_cond {c : Operand} {x y : Code} {t : Bool} (hc : opv L c = some (.bool t)) (h1 : t = true → RunC P n x Q L m H) (h2 : t = false → RunC P n y Q L m H) : RunC P n (.cond c x y) Q L m H := by
  intro a w hf hs
  refine wp_cond (hf.eval hc) ?_
  cases t with
  | true => exact h1 rfl a w hf hs
  | false => exact h2 rfl a w hf hs
def blockQ (id : Nat) (Q : Post) : Post
  | .exit i, L, m, H => if i = id then Q .normal L m H else Q (.exit i) L m H
  | e, L, m, H => Q e L m H
theorem c_block {id : Nat} {c : Code} (h : RunC P n c (blockQ id Q) L m H) : RunC P n (.block id c) Q L m H := by
  intro a w hf hs
  refine wp_block (wp_mono (h a w hf hs) ?_)
  intro e a' w' ⟨L', m', H', h1, h2, h3⟩
  cases e with
  | exit i =>
    simp only [blockQ] at h3
    simp only [Exit.inBlock]
    split
    · rename_i e; rw [if_pos e] at h3; exact ⟨L', m', H', h1, h2, h3⟩
    · rename_i e; rw [if_neg e] at h3; exact ⟨L', m', H', h1, h2, h3⟩
  | _ => exact ⟨L', m', H', h1, h2, h3⟩
/-- A loop: 'I k' holds with k rounds, at the most, to come. -/
theorem c_loop {c : Code} (I : Nat → Slots → Snap → Hp → Prop) (k : Nat) (h0 : I k L m H)
    (round : ∀ k L m H, I k L m H → RunC P n c (thenQ (fun L m H => ∃ j, j < k ∧ I j L m H) Q) L m H) : RunC P n (.loop c) Q L m H := by
  intro a w hf hs
  have key : ∀ (k : Nat) (L : Slots) (m : Snap) (H : Hp), I k L m H → ∀ a w, Fr n a L → St m H w → ∀ (b : Frame) (kk : List Go.Item) (cs : List Frame),
      ∃ e a' w', Lift n Q e a' w' ∧ Arrives P (lone (b.at a (.code c :: .inLoop c :: kk)) cs w) b kk cs e a' w' := by
    intro k
    induction k using Nat.strongRecOn with
    | _ k ih =>
      intro L m H hi a w hf hs b kk cs
      obtain ⟨e, a1, w1, ⟨L1, m1, H1, hf1, hs1, hq⟩, harr⟩ := round k L m H hi a w hf hs b (.inLoop c :: kk) cs
      cases e with
      | normal =>
        obtain ⟨j, hj, hi1⟩ := hq
        obtain ⟨e2, a2, w2, hq2, harr2⟩ := ih j hj L1 m1 H1 hi1 a1 w1 hf1 hs1 b kk cs
        exact ⟨e2, a2, w2, hq2, .of_steps (Steps.trans harr (.one step_inLoop)) harr2⟩
      | exit i => exact ⟨_, a1, w1, ⟨L1, m1, H1, hf1, hs1, hq⟩, .pass (x := .inLoop c) rfl (fun _ _ => .inl (by simp)) harr⟩
      | goto l => exact ⟨_, a1, w1, ⟨L1, m1, H1, hf1, hs1, hq⟩, .pass (x := .inLoop c) rfl (fun _ _ => .inl (by simp)) harr⟩
      | ret => exact ⟨_, a1, w1, ⟨L1, m1, H1, hf1, hs1, hq⟩, .pass (x := .inLoop c) rfl (fun _ _ => .inl (by simp)) harr⟩
      | panic ch => exact ⟨_, a1, w1, ⟨L1, m1, H1, hf1, hs1, hq⟩, .pass (x := .inLoop c) rfl (fun _ _ => .inl (by simp)) harr⟩
      | outgrown => exact ⟨_, a1, w1, ⟨L1, m1, H1, hf1, hs1, hq⟩, .pass (x := .inLoop c) rfl (fun _ _ => .inl (by simp)) harr⟩
  intro b kk cs
  obtain ⟨e, a', w', hq, harr⟩ := key k L m H h0 a w hf hs b kk cs
  exact ⟨e, a', w', hq, .of_steps (.one step_loop) harr⟩
end
end Go.Aw
namespace Go.Aw
open Go
def lput (L : Slots) (d : Option Tmp) (v : Value) : Slots := match d with
  | some d => (d, v) :: L
  | none => L
def dstOk (n : Nat) (d : Option Tmp) : Bool := match d with
  | some d => Nat.blt d n
  | none => true
theorem Fr.lput {n : Nat} {a : Act} {L : Slots} (h : Fr n a L) {d : Option Tmp} (hd : dstOk n d = true) (v : Value) : Fr n (a.put d v) (lput L d v) := by
  cases d with
  | none => exact h
  | some d => exact h.put (by simpa [dstOk, Nat.blt_eq] using hd) v
section
variable {P : Program} {n : Nat} {Q : Post} {L : Slots} {m m' : Snap} {H H' : Hp} {ops : Array Oper} {rest : List Oper}
theorem r_nil (h : Q .normal L m H) : Run P n ops Q [] L m H := fun _ _ hf hs => ⟨L, m, H, hf, hs, h⟩
/-- An operation that only computes or reads: it yields 'v' and leaves the world. -/
def Yl (P : Program) (n : Nat) (L : Slots) (m : Snap) (H : Hp) (o : Oper) (v : Value) : Prop :=
  ∀ a, Fr n a L → ∀ w, St m H w → (execOp a.eval o).run P w = .ok (.value v) w
/-- One operation, whatever its guard: behind it K holds of the state. -/
def SP (P : Program) (n : Nat) (L : Slots) (m : Snap) (H : Hp) (o : Oper) (K : Slots → Snap → Hp → Prop) : Prop :=
  ∀ a w, Fr n a L → St m H w → ∀ (K' : Act → World → Prop) (Q' : Exit → Act → World → Prop), (∀ a' w' L' m' H', Fr n a' L' → St m' H' w' → K L' m' H' → K' a' w') → o.wp P a w K' Q'
theorem s_value {o : Oper} {K : Slots → Snap → Hp → Prop} (hd : dstOk n o.dst = true)
    (h : ∀ a w, Fr n a L → St m H w → ∃ v m' H' w', (execOp a.eval o).run P w = .ok (.value v) w' ∧ St m' H' w' ∧ K (lput L o.dst v) m' H') : SP P n L m H o K := by
  intro a w hf hs K' Q' hK
  obtain ⟨v, m', H', w', hx, hs', hr⟩ := h a w hf hs
  unfold Oper.wp
  rw [hx, Oper.upon_value]
  exact hK _ _ _ _ _ (hf.lput hd v) hs' hr
theorem s_skip {o : Oper} {K : Slots → Snap → Hp → Prop} (hd : dstOk n o.dst = true)
    (h : ∀ a w, Fr n a L → St m H w → ∃ m' H' w', (execOp a.eval o).run P w = .ok .skip w' ∧ St m' H' w' ∧ K (lput L o.dst undef) m' H') : SP P n L m H o K := by
  intro a w hf hs K' Q' hK
  obtain ⟨m', H', w', hx, hs', hr⟩ := h a w hf hs
  unfold Oper.wp
  rw [hx, Oper.upon_skip]
  exact hK _ _ _ _ _ (hf.lput hd undef) hs' hr
theorem s_y {o : Oper} {v : Value} {K : Slots → Snap → Hp → Prop} (hd : dstOk n o.dst = true) (hy : Yl P n L m H o v) (h : K (lput L o.dst v) m H) : SP P n L m H o K :=
  s_value hd fun a w hf hs => ⟨v, m, H, w, hy a hf w hs, hs, h⟩
theorem r_s {o : Oper} (hg : o.guard = none) (h : SP P n L m H o (fun L m H => Run P n ops Q rest L m H)) : Run P n ops Q (o :: rest) L m H := by
  intro a w hf hs
  exact wpList_plain hg fun K hK => h a w hf hs K _ fun a' w' L' m' H' h1 h2 h3 => hK _ _ (h3 a' w' h1 h2)
theorem r_y {o : Oper} {v : Value} (hg : o.guard = none) (hd : dstOk n o.dst = true) (hy : Yl P n L m H o v) (h : Run P n ops Q rest (lput L o.dst v) m H) : Run P n ops Q (o :: rest) L m H :=
  r_s hg (s_y hd hy h)
/-- What a guard names. -/
def gval (ops : Array Oper) (L : Slots) (j : Nat) : Option Value := ((ops[j]?).bind (·.dst)).bind (look L ·)
theorem yielded_of {a : Act} (hf : Fr n a L) {j : Nat} {b : Bool} (h : gval ops L j = some (.bool b)) : yielded ops a.tmps j = some b := by
  unfold gval at h
  unfold yielded
  cases hd : (ops[j]?).bind (·.dst) with
  | none => rw [hd] at h; cases h
  | some d =>
    rw [hd] at h
    simp only [Option.bind_some] at h ⊢
    rw [hf.get d _ h]
/-- A guarded operation whose guard says no. -/
theorem r_no {o : Oper} {j : Nat} {b t : Bool} (hg : o.guard = some (j, b)) (hd : dstOk n o.dst = true) (hj : gval ops L j = some (.bool t)) (hne : t ≠ b)
    (h : Run P n ops Q rest (lput L o.dst undef) m H) : Run P n ops Q (o :: rest) L m H := by
  intro a w hf hs
  unfold wpList
  have hy := yielded_of hf hj
  have : Region.wanted o (yielded ops a.tmps) = false := by
    simp only [Region.wanted, hg, hy]
    cases t <;> cases b <;> first | rfl | exact absurd rfl hne
  rw [if_neg (by rw [this]; simp)]
  exact h _ _ (hf.lput hd undef) hs
/-- A guarded operation whose guard says yes: as if it bore none. -/
theorem r_yes {d : Option Tmp} {op : Op} {ty : TypeId} {ps : String} {af : Array Edge} {j : Nat} {b : Bool} (hj : gval ops L j = some (.bool b))
    (h : SP P n L m H ⟨d, op, ty, ps, af, some (j, b)⟩ (fun L m H => Run P n ops Q rest L m H)) : Run P n ops Q (⟨d, op, ty, ps, af, some (j, b)⟩ :: rest) L m H := by
  intro a w hf hs
  unfold wpList
  have hy := yielded_of hf hj
  rw [if_pos (by simp [Region.wanted, hy])]
  exact .inl (h a w hf hs _ _ fun a' w' L' m' H' h1 h2 h3 => h3 a' w' h1 h2)
variable {d : Option Tmp} {ty : TypeId} {ps : String} {af : Array Edge} {gd : Option (Nat × Bool)}
theorem y_move {x : Operand} {v : Value} (hx : opv L x = some v) :
    Yl P n L m H ⟨d, .move x, ty, ps, af, gd⟩ v :=
  fun a hf w _ => (by simp only [execOp, hf.eval hx]; rfl)
theorem y_assign {x : Operand} {v : Value} (hx : opv L x = some v) :
    Yl P n L m H ⟨d, .assign x, ty, ps, af, gd⟩ v :=
  fun a hf w _ => (by simp only [execOp, hf.eval hx]; rfl)
theorem y_pick_t {c x y : Operand} {v : Value} (hc : opv L c = some (.bool true)) (hx : opv L x = some v) :
    Yl P n L m H ⟨d, .pick c x y, ty, ps, af, gd⟩ v :=
  fun a hf w _ => (by simp only [execOp, hf.eval hc, hf.eval hx]; rfl)
theorem y_pick_f {c x y : Operand} {v : Value} (hc : opv L c = some (.bool false)) (hy : opv L y = some v) :
    Yl P n L m H ⟨d, .pick c x y, ty, ps, af, gd⟩ v :=
  fun a hf w _ => (by simp only [execOp, hf.eval hc, hf.eval hy]; rfl)
theorem y_not {t ty' : TypeId} {x : Operand} {b : Bool} (hx : opv L x = some (.bool b)) :
    Yl P n L m H ⟨d, .unOp .not t x, ty', ps, af, gd⟩ (.bool (!b)) :=
  fun a hf w _ => (by simp only [execOp, hf.eval hx]; rfl)
/-- The outcome of an operation on two integers of one kind. -/
def iop (op : BinOp) (k : IntKind) (a b : Int) : Option Value := match op with
  | .add => some (.int k (k.wrap (a + b)))
  | .sub => some (.int k (k.wrap (a - b)))
  | .mul => some (.int k (k.wrap (a * b)))
  | .eql => some (.bool (a == b))
  | .neq => some (.bool (a != b))
  | .lss => some (.bool (decide (a < b)))
  | .leq => some (.bool (decide (a ≤ b)))
  | .gtr => some (.bool (decide (a > b)))
  | .geq => some (.bool (decide (a ≥ b)))
  | .and => some (.int k (k.wrap (BitVec.ofInt k.bits a &&& BitVec.ofInt k.bits b).toNat))
  | .or => some (.int k (k.wrap (BitVec.ofInt k.bits a ||| BitVec.ofInt k.bits b).toNat))
  | .xor => some (.int k (k.wrap (BitVec.ofInt k.bits a ^^^ BitVec.ofInt k.bits b).toNat))
  | .andNot => some (.int k (k.wrap (BitVec.ofInt k.bits a &&& ~~~(BitVec.ofInt k.bits b)).toNat))
  | .quo => if b = 0 then none else some (.int k (k.wrap (a.tdiv b)))
  | .rem => if b = 0 then none else some (.int k (a.tmod b))
  | _ => none
theorem run_iop {op : BinOp} {k : IntKind} {a b : Int} {v : Value} (h : iop op k a b = some v) (t : TypeId) (x y : Operand) (w : World) :
    (do eqGuard op t x y (.int k a) (.int k b); binOp op t (.int k a) (.int k b) : Sem Value).run P w = .ok v w := by
  have hg : (eqGuard op t x y (.int k a) (.int k b)).run P w = .ok () w := by
    unfold eqGuard
    cases op <;> rfl
  rw [Sem.run_bind, hg, Result.andThen_ok]
  cases op <;> simp only [iop, Option.some.injEq, reduceCtorEq] at h <;> (try (split at h)) <;> (try cases h) <;> simp_all [binOp, Op.intArith, Op.intCmp, Op.intBits, Op.intDiv]
theorem y_iop {op : BinOp} {t t' : TypeId} {x y : Operand} {k : IntKind} {a b : Int} {v : Value} (hx : opv L x = some (.int k a)) (hy : opv L y = some (.int k b))
    (hv : iop op k a b = some v) :
    Yl P n L m H ⟨d, .binOp op t x y t', ty, ps, af, gd⟩ v :=
  fun a hf w _ => (by
    simp only [execOp, hf.eval hx, hf.eval hy]
    rw [Sem.run_bind, run_iop hv]; rfl)
end
end Go.Aw
namespace Go.Aw
open Go
def opvs (L : Slots) : List Operand → Option (List Value)
  | [] => some []
  | x :: r => match opv L x with
    | none => none
    | some v => match opvs L r with
      | none => none
      | some vs => some (v :: vs)
theorem Fr.evals {n : Nat} {a : Act} {L : Slots} (hf : Fr n a L) : ∀ {aas : List Operand} {vs : List Value}, opvs L aas = some vs → aas.map a.eval = vs
  | [], vs, h => by simp only [opvs, Option.some.injEq] at h; rw [← h]; rfl
  | x :: r, vs, h => by
    simp only [opvs] at h
    cases hx : opv L x with
    | none => simp [hx] at h
    | some v =>
      cases hr : opvs L r with
      | none => simp [hx, hr] at h
      | some us =>
        simp only [hx, hr, Option.some.injEq] at h
        rw [← h, List.map_cons, hf.eval hx, Fr.evals hf hr]
/-- A contract: from every world of this kind the call hands back a value. -/
def Fn (P : Program) (f : FuncId) (args : List Value) (m : Snap) (H : Hp) (R : Value → Snap → Hp → Prop) : Prop :=
  ∀ w, St m H w → Calls P f args.toArray w fun e w' => ∃ v m' H', e = .returned v ∧ m.le m' ∧ St m' H' w' ∧ R v m' H'
theorem Fn.mono {P : Program} {f : FuncId} {args : List Value} {m : Snap} {H : Hp} {R R' : Value → Snap → Hp → Prop} (h : Fn P f args m H R)
    (hr : ∀ v m' H', m.le m' → R v m' H' → R' v m' H') : Fn P f args m H R' :=
  fun w hs => (h w hs).mono fun _ _ ⟨v, m', H', h1, h2, h3, h4⟩ => ⟨v, m', H', h1, h2, h3, hr _ _ _ h2 h4⟩
section
variable {P : Program} {n : Nat} {Q : Post} {L : Slots} {m : Snap} {H : Hp} {ops : Array Oper} {rest : List Oper} {d : Option Tmp} {ty : TypeId} {ps : String} {af : Array Edge} {gd : Option (Nat × Bool)}
def runs (P : Program) (f : FuncId) : Prop := ∀ (args : Array Value) (w : World), (callFunc f args).run P w = .ok (.enter f args) w
theorem s_call {K : Slots → Snap → Hp → Prop} {f : FuncId} {fx : Operand} {first cap : List Value} {aas : List Operand} {ats : Array TypeId} {vs : List Value} {R : Value → Snap → Hp → Prop} (hd : dstOk n d = true) (hc : runs P f)
    (hx : opv L fx = some (.func (.func f) first.toArray cap.toArray)) (has : opvs L aas = some vs) (hF : Fn P f (first ++ vs ++ cap) m H R)
    (h : ∀ v m' H', m.le m' → R v m' H' → K (lput L d v) m' H') :
    SP P n L m H ⟨d, .call ⟨.value fx, aas.toArray, ats⟩, ty, ps, af, gd⟩ K := by
  intro a w hf hs K' Q' hK
  have hrun : (execOp a.eval ⟨d, .call ⟨.value fx, aas.toArray, ats⟩, ty, ps, af, gd⟩).run P w = .ok (.enter f (first ++ vs ++ cap).toArray) w := by
    have e : (first.toArray ++ (aas.toArray.map a.eval) ++ cap.toArray : Array Value) = (first ++ vs ++ cap).toArray := by
      rw [List.map_toArray, hf.evals has]; simp
    simp only [execOp, resolve, hf.eval hx, Deferred.ofValue, Sem.run_bind, Sem.run_pure, Result.andThen_ok, invoke]
    rw [e, hc]
  unfold Oper.wp
  rw [hrun, Oper.upon_enter]
  refine (hF w hs).mono ?_
  rintro e w' ⟨v, m', H', rfl, hm, hs', hR⟩
  exact hK _ _ _ _ _ (hf.lput hd v) hs' (h v m' H' hm hR)
theorem s_call0 {K : Slots → Snap → Hp → Prop} {f : FuncId} {aas : List Operand} {ats : Array TypeId} {vs : List Value} {R : Value → Snap → Hp → Prop} (hd : dstOk n d = true) (hc : runs P f)
    (has : opvs L aas = some vs) (hF : Fn P f vs m H R)
    (h : ∀ v m' H', m.le m' → R v m' H' → K (lput L d v) m' H') :
    SP P n L m H ⟨d, .call ⟨.value (.func f), aas.toArray, ats⟩, ty, ps, af, gd⟩ K :=
  s_call (first := []) (cap := []) hd hc rfl has (by simpa using hF) h
theorem c_region {id : Nat} {l : List Oper} (h : Run P n l.toArray Q l L m H) : RunC P n (.region id l.toArray false) Q L m H :=
  fun a w hf hs => wp_region_lit (h a w hf hs)
def resv (rs : List ResultVar) (L : Slots) : Option Value := match rs with
  | [.tmp t] => look L t
  | [] => some (.tuple #[])
  | [.tmp t, .tmp u] => match look L t, look L u with
    | some a, some b => some (.tuple #[a, b])
    | _, _ => none
  | [.tmp t, .tmp u, .tmp x] => match look L t, look L u, look L x with
    | some a, some b, some c => some (.tuple #[a, b, c])
    | _, _, _ => none
  | _ => none
theorem run_resv {fn : Func} {rs : List ResultVar} (hr : fn.results = rs.toArray) {a : Act} (hf : Fr n a L) {v : Value} (h : resv rs L = some v) (w : World) : (results fn a.tmps).run P w = .ok v w := by
  have hget : ∀ t u, look L t = some u → a.tmps.getD t undef = u := fun t u ht => by
    have := hf.get t u ht
    simp [Array.getD_eq_getD_getElem?, this]
  unfold resv at h
  split at h
  · rename_i t; rw [results_tmp hr, hget t _ h]
  · cases h; rw [results_none hr]
  · rename_i t u
    split at h
    · rename_i x y hx hy; cases h; rw [results_tmp2 hr, hget t _ hx, hget u _ hy]
    · cases h
  · rename_i t u s
    split at h
    · rename_i x y z hx hy hz; cases h
      have e1 := hget t _ hx
      have e2 := hget u _ hy
      have e3 := hget s _ hz
      simp only [Array.getD_eq_getD_getElem?] at e1 e2 e3
      simp [results, hr, e1, e2, e3]
    · cases h
  · cases h
def slots0 : Nat → List Value → Slots
  | _, [] => []
  | k, v :: r => (k, v) :: slots0 (k + 1) r
theorem look_slots0 : ∀ (args : List Value) (k i : Nat) (v : Value), look (slots0 k args) i = some v → k ≤ i ∧ args[i - k]? = some v
  | [], _, _, _, h => by simp [slots0, look] at h
  | u :: r, k, i, v, h => by
    simp only [slots0, look] at h
    cases hb : Nat.beq k i with
    | true =>
      rw [hb] at h; cases h
      have := Nat.eq_of_beq_eq_true hb
      subst this
      simp
    | false =>
      rw [hb] at h
      obtain ⟨h1, h2⟩ := look_slots0 r (k + 1) i v h
      refine ⟨by omega, ?_⟩
      rw [show i - k = (i - (k + 1)) + 1 by omega]
      simpa using h2
end
end Go.Aw
namespace Go.Aw
open Go
def cget : List Value → Nat → Option Value
  | [], _ => none
  | v :: _, 0 => some v
  | _ :: r, k + 1 => cget r k
theorem cget_eq : ∀ (l : List Value) (k : Nat), cget l k = l[k]?
  | [], k => by simp [cget]
  | v :: r, 0 => rfl
  | v :: r, k + 1 => by rw [cget, cget_eq r k]; simp
def ctake : List Value → Nat → Option (List Value)
  | _, 0 => some []
  | [], _ + 1 => none
  | v :: r, k + 1 => match ctake r k with
    | some x => some (v :: x)
    | none => none
def csub : List Value → Nat → Nat → Option (List Value)
  | l, 0, n => ctake l n
  | [], _ + 1, _ => none
  | _ :: r, o + 1, n => csub r o n
theorem ctake_spec : ∀ (l : List Value) (n : Nat) (x : List Value), ctake l n = some x → x.length = n ∧ ∀ (j : Nat) (v : Value), x[j]? = some v → l[j]? = some v
  | l, 0, x, h => by simp only [ctake, Option.some.injEq] at h; subst h; simp
  | [], n + 1, x, h => by simp [ctake] at h
  | v :: r, n + 1, x, h => by
    simp only [ctake] at h
    split at h
    · rename_i y hy
      cases h
      obtain ⟨h1, h2⟩ := ctake_spec r n y hy
      refine ⟨by simp [h1], fun j u hu => ?_⟩
      cases j with
      | zero => simpa using hu
      | succ j => simpa using h2 j u (by simpa using hu)
    · cases h
theorem csub_spec : ∀ (l : List Value) (o n : Nat) (x : List Value), csub l o n = some x → x.length = n ∧ ∀ (j : Nat) (v : Value), x[j]? = some v → l[o + j]? = some v
  | l, 0, n, x, h => by simpa [csub] using ctake_spec l n x (by simpa [csub] using h)
  | [], o + 1, n, x, h => by simp [csub] at h
  | v :: r, o + 1, n, x, h => by
    obtain ⟨h1, h2⟩ := csub_spec r o n x (by simpa [csub] using h)
    refine ⟨h1, fun j u hu => ?_⟩
    rw [show o + 1 + j = (o + j) + 1 by omega]
    simpa using h2 j u hu
/-- A row with some cells put in place of its own. -/
def cput : List Value → Nat → List Value → Option (List Value)
  | l, 0, [] => some l
  | [], 0, _ :: _ => none
  | _ :: r, 0, u :: us => match cput r 0 us with
    | some x => some (u :: x)
    | none => none
  | [], _ + 1, _ => none
  | v :: r, o + 1, us => match cput r o us with
    | some x => some (v :: x)
    | none => none
theorem cput_spec : ∀ (l : List Value) (o : Nat) (us x : List Value), cput l o us = some x → o + us.length ≤ l.length ∧ x = l.take o ++ us ++ l.drop (o + us.length)
  | l, 0, [], x, h => by
    simp only [cput, Option.some.injEq] at h; subst h; simp
  | [], 0, _ :: _, x, h => by simp [cput] at h
  | v :: r, 0, u :: us, x, h => by
    simp only [cput] at h
    split at h
    · rename_i y hy; cases h
      obtain ⟨h1, h2⟩ := cput_spec r 0 us y hy
      refine ⟨by simp at h1 ⊢; omega, ?_⟩
      rw [h2]; simp
    · cases h
  | [], o + 1, us, x, h => by simp [cput] at h
  | v :: r, o + 1, us, x, h => by
    simp only [cput] at h
    split at h
    · rename_i y hy; cases h
      obtain ⟨h1, h2⟩ := cput_spec r o us y hy
      refine ⟨by simp at h1 ⊢; omega, ?_⟩
      rw [h2, show o + 1 + us.length = (o + us.length) + 1 by omega]; simp
    · cases h
def hget : Hp → Nat → Option Item
  | [], _ => none
  | v :: _, 0 => some v
  | _ :: r, k + 1 => hget r k
def hset : Hp → Nat → Item → Hp
  | [], _, _ => []
  | _ :: r, 0, x => x :: r
  | v :: r, k + 1, x => v :: hset r k x
def hdel : Hp → Nat → Hp
  | [], _ => []
  | _ :: r, 0 => r
  | v :: r, k + 1 => v :: hdel r k
theorem hget_perm : ∀ {H : Hp} {i : Nat} {it : Item}, hget H i = some it → H.Perm (it :: hdel H i) ∧ ∀ x, (x :: hdel H i).Perm (hset H i x)
  | [], _, _, h => by simp [hget] at h
  | v :: r, 0, it, h => by simp only [hget, Option.some.injEq] at h; subst h; exact ⟨.refl _, fun _ => .refl _⟩
  | v :: r, k + 1, it, h => by
    obtain ⟨h1, h2⟩ := hget_perm (H := r) (i := k) (by simpa [hget] using h)
    refine ⟨(h1.cons v).trans (List.Perm.swap ..), fun x => ?_⟩
    exact (List.Perm.swap ..).trans ((h2 x).cons v)
theorem hget_mem {H : Hp} {i : Nat} {it : Item} (h : hget H i = some it) : it ∈ H := (hget_perm h).1.mem_iff.2 List.mem_cons_self
theorem St.write_at {m : Snap} {H : Hp} {w w' : World} {i : Nat} {it it' : Item} (h : St m H w) (hi : hget H i = some it) (hown : it'.own = it.own) (hh : it'.holds w')
    (hos : w'.os = w.os) (htape : w'.tape = w.tape) (hout : w'.output = w.output) (hk : ∀ k, k ∉ it.own → k < w.heap.size → w'.heap[k]? = w.heap[k]?) : St m (hset H i it') w' :=
  ((h.perm (hget_perm hi).1).write hown hh hos htape hout hk).perm ((hget_perm hi).2 it')
/-- Items dropped by their place. -/
theorem St.del {m : Snap} {H : Hp} {w : World} (h : St m H w) {i : Nat} {it : Item} (hi : hget H i = some it) : St m (hdel H i) w := (h.perm (hget_perm hi).1).tail
def fieldOff (P : Program) (s : TypeId) (f : Nat) : Option Nat :=
  match P.underlying s with
  | some (.struct fs) => match fs[f]? with
    | some fd => match P.info? fd.type with
      | some i => if i.size = 0 then none else some fd.offset
      | none => none
    | none => none
  | _ => none
/-- Is a type's variable a row of cells, and of how many. -/
def tshape (P : Program) (t : TypeId) : Option (Bool × Nat) :=
  match P.underlying t, P.info? t with
  | some (.struct _), some i => some (true, i.size)
  | some (.array _ _), some i => some (true, i.size)
  | some _, some i => some (false, i.size)
  | _, _ => none
/-- A slice type's elements: their type, and how many cells. -/
def tslice (P : Program) (t : TypeId) : Option (TypeId × Nat) :=
  match P.underlying t with
  | some (.slice e) => match P.info? e with
    | some i => some (e, i.size)
    | none => none
  | _ => none
def tarray (P : Program) (t : TypeId) : Option (Nat × Bool × Nat) :=
  match P.underlying t with
  | some (.array n e) => match tshape P e with
    | some (b, s) => some (n, b, s)
    | none => none
  | _ => none
def eadd (a : Option Addr) (j : Nat) : Option Addr := match a with
  | some x => some ⟨x.block, x.off + j, none⟩
  | none => none
theorem eadd_eadd (a : Option Addr) (j k : Nat) : eadd (eadd a j) k = eadd a (j + k) := by cases a <;> simp [eadd, Nat.add_assoc]
/-- A place that is one of a row's cells. -/
def IsAt (a : Option Addr) : Prop := ∃ g o, a = some ⟨g, o, none⟩
theorem IsAt.lit {g o : Nat} : IsAt (some ⟨g, o, none⟩) := ⟨g, o, rfl⟩
theorem IsAt.eadd {a : Option Addr} (h : IsAt a) (j : Nat) : IsAt (eadd a j) := by obtain ⟨g, o, rfl⟩ := h; exact ⟨g, o + j, rfl⟩
theorem addr_add (g o k : Nat) : (⟨g, o, none⟩ : Addr).add k = ⟨g, o + k, none⟩ := by unfold Addr.add; split <;> simp_all
/-- In the worlds of the state the place is one of a row's cells. -/
def At (m : Snap) (H : Hp) (a : Option Addr) : Prop := ∀ w, St m H w → IsAt a
theorem At.lit {m : Snap} {H : Hp} {g o : Nat} : At m H (some ⟨g, o, none⟩) := fun _ _ => IsAt.lit
theorem At.eadd {m : Snap} {H : Hp} {a : Option Addr} (h : At m H a) {j : Nat} : At m H (eadd a j) := fun w hs => (h w hs).eadd j
def RdS (m : Snap) (H : Hp) (a : Option Addr) (v : Value) : Prop := ∀ w, St m H w → ∃ g o, a = some ⟨g, o, none⟩ ∧ w.cell? ⟨g, o, none⟩ = some v
def RdA (m : Snap) (H : Hp) (a : Option Addr) (s : Nat) (cs : List Value) : Prop := cs.length = s ∧ ∀ w, St m H w → ∃ g o, a = some ⟨g, o, none⟩ ∧ ∀ (j : Nat) (u : Value), cs[j]? = some u → w.cell? ⟨g, o + j, none⟩ = some u
def Snap.cell (m : Snap) (g o : Nat) : Option Value := match m.heap g with
  | some (.cells c _ _) => c[o]?
  | _ => none
theorem St.cell {m : Snap} {H : Hp} {w : World} (h : St m H w) {g o : Nat} {v : Value} (hc : m.cell g o = some v) : w.cell? ⟨g, o, none⟩ = some v := by
  unfold Snap.cell at hc
  split at hc
  · rename_i c e f hm
    have := h.frz g _ hm
    simp only [World.cell?, this]
    simpa using hc
  · cases hc
theorem Snap.le.cell {m m' : Snap} (h : m.le m') {g o : Nat} {v : Value} (hc : m.cell g o = some v) : m'.cell g o = some v := by
  unfold Snap.cell at hc ⊢
  split at hc
  · rename_i c e f hm
    rw [h.heap g _ hm]; exact hc
  · cases hc
/-- A slice whose elements (each a row of s cells) lie in memory that stays as it is. -/
structure Fz (m : Snap) (a : Option Addr) (n cap s : Nat) (cs : List (List Value)) : Prop where
  len : cs.length = n
  each : ∀ c ∈ cs, c.length = s
  le : n ≤ cap
  max : cap ≤ maxLen
  get : ∀ k c, cs[k]? = some c → ∃ g o, a = some ⟨g, o, none⟩ ∧ ∀ j v, c[j]? = some v → m.cell g (o + (k * s + j)) = some v
theorem Fz.mono {m m' : Snap} {a : Option Addr} {n cap s : Nat} {cs : List (List Value)} (h : Fz m a n cap s cs) (hm : m.le m') : Fz m' a n cap s cs :=
  ⟨h.len, h.each, h.le, h.max, fun k c hk => by
    obtain ⟨g, o, ha, hv⟩ := h.get k c hk
    exact ⟨g, o, ha, fun j v hj => hm.cell (hv j v hj)⟩⟩
theorem Fz.isAt {m : Snap} {a : Option Addr} {n cap s : Nat} {cs : List (List Value)} (h : Fz m a n cap s cs) {k : Nat} (hk : k < n) : IsAt a := by
  obtain ⟨g, o, ha, _⟩ := h.get k (cs[k]'(by rw [h.len]; exact hk)) (by simp)
  exact ⟨g, o, ha⟩
theorem RdS.blk {m : Snap} {H : Hp} {i b o : Nat} {cs : List Value} {T : TypeId} {fz : Nat × Nat} {v : Value} (hi : hget H i = some (.blk b (.cells cs.toArray T fz))) (hv : cget cs o = some v) : RdS m H (some ⟨b, o, none⟩) v :=
  fun w hs => ⟨b, o, rfl, by
    have : w.heap[b]? = some (.cells cs.toArray T fz) := hs.hold _ (hget_mem hi)
    simp only [World.cell?, this]
    rw [cget_eq] at hv
    simpa using hv⟩
theorem RdA.blk {m : Snap} {H : Hp} {i b o n : Nat} {cs r : List Value} {T : TypeId} {fz : Nat × Nat} (hi : hget H i = some (.blk b (.cells cs.toArray T fz))) (hv : csub cs o n = some r) : RdA m H (some ⟨b, o, none⟩) n r :=
  ⟨(csub_spec cs o n r hv).1, fun w hs => ⟨b, o, rfl, fun j u hu => by
    have : w.heap[b]? = some (.cells cs.toArray T fz) := hs.hold _ (hget_mem hi)
    simp only [World.cell?, this]
    simpa using (csub_spec cs o n r hv).2 j u hu⟩⟩
theorem RdS.fz {m : Snap} {H : Hp} {a : Option Addr} {n cap s k j : Nat} {cs : List (List Value)} {c : List Value} {v : Value} (h : Fz m a n cap s cs) (hk : cs[k]? = some c) (hj : cget c j = some v) : RdS m H (eadd a (k * s + j)) v := by
  obtain ⟨g, o, rfl, hv⟩ := h.get k c hk
  rw [cget_eq] at hj
  exact fun w hs => ⟨g, o + (k * s + j), rfl, hs.cell (hv j v hj)⟩
theorem RdA.fz {m : Snap} {H : Hp} {a : Option Addr} {n cap s k j l : Nat} {cs : List (List Value)} {c r : List Value} (h : Fz m a n cap s cs) (hk : cs[k]? = some c) (hj : csub c j l = some r) : RdA m H (eadd a (k * s + j)) l r := by
  obtain ⟨g, o, rfl, hv⟩ := h.get k c hk
  refine ⟨(csub_spec c j l r hj).1, fun w hs => ⟨g, o + (k * s + j), rfl, fun i u hu => hs.cell ?_⟩⟩
  rw [show o + (k * s + j) + i = o + (k * s + (j + i)) by omega]
  exact hv (j + i) u ((csub_spec c j l r hj).2 i u hu)
/-- The whole of an element. -/
theorem RdA.fz0 {m : Snap} {H : Hp} {a : Option Addr} {n cap s k : Nat} {cs : List (List Value)} {c : List Value} (h : Fz m a n cap s cs) (hk : cs[k]? = some c) : RdA m H (eadd a (k * s)) s c := by
  obtain ⟨g, o, rfl, hv⟩ := h.get k c hk
  refine ⟨h.each c (List.mem_of_getElem? hk), fun w hs => ⟨g, o + k * s, rfl, fun i u hu => hs.cell ?_⟩⟩
  rw [show o + k * s + i = o + (k * s + i) by omega]
  exact hv i u hu
theorem run_loadVar_s {P : Program} {t : TypeId} {s : Nat} (hT : tshape P t = some (false, s)) {w : World} {a : Addr} {v : Value} (hc : w.cell? a = some v) : (loadVar t a).run P w = .ok v w := by
  unfold tshape at hT
  unfold loadVar isAgg
  cases hu : P.underlying t with
  | none => simp [hu] at hT
  | some d =>
    cases hq : P.info? t with
    | none => cases d <;> simp [hu, hq] at hT
    | some i => cases d <;> simp only [hu, hq, Option.some.injEq, Prod.mk.injEq, Bool.true_eq_false, false_and] at hT <;> simp [run_underlying hu, hc]
theorem run_loadVar_a {P : Program} {t : TypeId} {s : Nat} (hT : tshape P t = some (true, s)) {w : World} {g o : Nat} {cs : List Value} (hl : cs.length = s) (hc : ∀ j u, cs[j]? = some u → w.cell? ⟨g, o + j, none⟩ = some u) :
    (loadVar t ⟨g, o, none⟩).run P w = .ok (.agg cs.toArray) w := by
  have hld : (loadCells ⟨g, o, none⟩ cs.length).run P w = .ok cs.toArray w := run_loadCells_list (P := P) w ⟨g, o, none⟩ cs (fun j v hv => by rw [addr_add]; exact hc j v hv)
  unfold tshape at hT
  unfold loadVar isAgg sizeOf typeInfo
  cases hu : P.underlying t with
  | none => simp [hu] at hT
  | some d =>
    cases hq : P.info? t with
    | none => cases d <;> simp [hu, hq] at hT
    | some i =>
      cases d <;> simp only [hu, hq, Option.some.injEq, Prod.mk.injEq, true_and, Bool.false_eq_true, false_and] at hT
      all_goals
        subst hT
        rw [hl] at hld
        simp [run_underlying hu, hq, hld]
section
variable {P : Program} {n : Nat} {Q : Post} {L : Slots} {m : Snap} {H : Hp} {ops : Array Oper} {rest : List Oper} {d : Option Tmp} {ty : TypeId} {ps : String} {af : Array Edge} {gd : Option (Nat × Bool)}
theorem y_fieldAddr {s : TypeId} {x : Operand} {f k : Nat} {a a' : Option Addr} (hx : opv L x = some (.pointer a)) (ha : At m H a) (hk : fieldOff P s f = some k) (he : eadd a k = a')
    :
    Yl P n L m H ⟨d, .fieldAddr s x f, ty, ps, af, gd⟩ (.pointer a') := by
  intro ac hf w hst
  obtain ⟨g, o, rfl⟩ := ha w hst
  unfold fieldOff at hk
  simp only [execOp, hf.eval hx, Instr.fieldAt]
  cases hu : P.underlying s with
  | none => simp [hu] at hk
  | some D =>
    cases D <;> simp only [hu, reduceCtorEq] at hk
    rename_i fs
    cases hfd : fs[f]? with
    | none => simp [hfd] at hk
    | some fd =>
      simp only [hfd] at hk
      cases hi : P.info? fd.type with
      | none => simp [hi] at hk
      | some i =>
        simp only [hi] at hk
        split at hk
        · cases hk
        · rename_i hne
          cases hk
          subst he
          simp [run_underlying hu, hfd, Instr.sureAddr, fieldPlace, sizeOf, typeInfo, hi, hne, addr_add, eadd]
theorem y_indexAddr_slice {t e : TypeId} {x ix : Operand} {s : Nat} {kd : IntKind} {k len cap : Nat} {a : Option Addr} (hx : opv L x = some (.slice a len cap)) (hi : opv L ix = some (.int kd (k : Int)))
    (ht : tslice P t = some (e, s)) (hk : k < len) (ha : At m H a) :
    Yl P n L m H ⟨d, .indexAddr t x ix, ty, ps, af, gd⟩ (.pointer (eadd a (k * s))) := by
  intro ac hf w hst
  obtain ⟨g, o, rfl⟩ := ha w hst
  unfold tslice at ht
  simp only [execOp, hf.eval hx, hf.eval hi, Instr.indexAt, asIntOf]
  cases hu : P.underlying t with
  | none => simp [hu] at ht
  | some D =>
    cases D <;> simp only [hu, reduceCtorEq] at ht
    rename_i e'
    cases hi : P.info? e' with
    | none => simp [hi] at ht
    | some i =>
      simp only [hi, Option.some.injEq, Prod.mk.injEq] at ht
      obtain ⟨rfl, rfl⟩ := ht
      simp [run_underlying hu, hk, sizeOf, typeInfo, hi, addr_add, eadd]
theorem tarray_spec {t : TypeId} {len s : Nat} {b : Bool} (ht : tarray P t = some (len, b, s)) : ∃ e i, P.underlying t = some (.array len e) ∧ tshape P e = some (b, s) ∧ P.info? e = some i ∧ i.size = s := by
  unfold tarray at ht
  cases hu : P.underlying t with
  | none => simp [hu] at ht
  | some D =>
    cases D <;> simp only [hu, reduceCtorEq] at ht
    rename_i l e
    cases hs : tshape P e with
    | none => simp [hs] at ht
    | some bs =>
      obtain ⟨b', s'⟩ := bs
      simp only [hs, Option.some.injEq, Prod.mk.injEq] at ht
      obtain ⟨rfl, rfl, rfl⟩ := ht
      have hs' := hs
      unfold tshape at hs
      cases hue : P.underlying e with
      | none => simp [hue] at hs
      | some D' =>
        cases hq : P.info? e with
        | none => cases D' <;> simp [hue, hq] at hs
        | some i =>
          refine ⟨e, i, rfl, hs', hq, ?_⟩
          cases D' <;> simp only [hue, hq, Option.some.injEq, Prod.mk.injEq] at hs <;> exact hs.2
theorem y_indexAddr_arr {t : TypeId} {x ix : Operand} {s : Nat} {b : Bool} {kd : IntKind} {k len : Nat} {a : Option Addr} (hx : opv L x = some (.pointer a)) (hi : opv L ix = some (.int kd (k : Int)))
    (ht : tarray P t = some (len, b, s)) (hk : k < len) (ha : At m H a) :
    Yl P n L m H ⟨d, .indexAddr t x ix, ty, ps, af, gd⟩ (.pointer (eadd a (k * s))) := by
  intro ac hf w hst
  obtain ⟨g, o, rfl⟩ := ha w hst
  obtain ⟨e, i, hu, _, hq, hs⟩ := tarray_spec ht
  simp only [execOp, hf.eval hx, hf.eval hi, Instr.indexAt, asIntOf]
  simp [run_underlying hu, hk, sizeOf, typeInfo, hq, hs, addr_add, eadd, Instr.sureAddr]
theorem y_load_s {t : TypeId} {x : Operand} {s : Nat} {a : Option Addr} {v : Value} (hx : opv L x = some (.pointer a)) (hT : tshape P t = some (false, s)) (hr : RdS m H a v)
    :
    Yl P n L m H ⟨d, .load t x, ty, ps, af, gd⟩ v := by
  intro ac hf w hs
  obtain ⟨g, o, rfl, hc⟩ := hr w hs
  simp [execOp, hf.eval hx, Instr.loadAt, Instr.sureAddr, run_loadVar_s hT hc]
theorem y_load_a {t : TypeId} {x : Operand} {s : Nat} {a : Option Addr} {cs : List Value} (hx : opv L x = some (.pointer a)) (hT : tshape P t = some (true, s)) (hr : RdA m H a s cs)
    :
    Yl P n L m H ⟨d, .load t x, ty, ps, af, gd⟩ (.agg cs.toArray) := by
  intro ac hf w hs
  obtain ⟨hl, hr⟩ := hr
  obtain ⟨g, o, rfl, hc⟩ := hr w hs
  simp [execOp, hf.eval hx, Instr.loadAt, Instr.sureAddr, run_loadVar_a hT hl hc]
theorem s_box_a {K : Slots → Snap → Hp → Prop} {t : TypeId} {x : Operand} {cs : List Value} (hd : dstOk n d = true) (hx : opv L x = some (.agg cs.toArray))
    (h : ∀ b, K (lput L d (.pointer (some ⟨b, 0, none⟩))) m (.blk b (.cells cs.toArray t) :: H)) : SP P n L m H ⟨d, .box t x, ty, ps, af, gd⟩ K :=
  s_value hd fun ac w hf hs => ⟨.pointer (some ⟨w.heap.size, 0, none⟩), m, _, _, by simp only [execOp, hf.eval hx]; rfl, hs.alloc (.cells cs.toArray t), h _⟩
/-- The cells of a type's zero. -/
def tzero (P : Program) (t : TypeId) : Option (List Value) := match P.info? t with
  | some i => match i.zero with
    | some z => some z.cells.toList
    | none => none
  | none => none
theorem s_alloc {K : Slots → Snap → Hp → Prop} {t : TypeId} {cs : List Value} (hd : dstOk n d = true) (hz : tzero P t = some cs)
    (h : ∀ b, K (lput L d (.pointer (some ⟨b, 0, none⟩))) m (.blk b (.cells cs.toArray t) :: H)) : SP P n L m H ⟨d, .alloc t, ty, ps, af, gd⟩ K := by
  refine s_value hd fun ac w hf hs => ⟨.pointer (some ⟨w.heap.size, 0, none⟩), m, _, w.alloc (.cells cs.toArray t), ?_, hs.alloc (.cells cs.toArray t), h _⟩
  unfold tzero at hz
  split at hz
  · rename_i i hi
    split at hz
    · rename_i z hz'
      cases hz
      simp [execOp, Instr.alloc, zeroValue, typeInfo, hi, hz', newVar, newRow]
    · cases hz
  · cases hz
theorem y_index_arr {t : TypeId} {x ix : Operand} {s : Nat} {kd : IntKind} {k len : Nat} {cs : List Value} {v : Value} (hx : opv L x = some (.agg cs.toArray)) (hi : opv L ix = some (.int kd (k : Int)))
    (ht : tarray P t = some (len, false, s)) (hk : k < len) (hv : cget cs (k * s) = some v) :
    Yl P n L m H ⟨d, .index t x ix, ty, ps, af, gd⟩ v := by
  intro ac hf w _
  obtain ⟨e, i, hu, hsh, hq, hs⟩ := tarray_spec ht
  rw [cget_eq] at hv
  have hag : (isAgg e).run P w = .ok false w := by
    unfold tshape at hsh
    unfold isAgg
    cases hue : P.underlying e with
    | none => simp [hue] at hsh
    | some D => cases D <;> simp only [hue, hq, Option.some.injEq, Prod.mk.injEq, Bool.true_eq_false, false_and] at hsh <;> simp [run_underlying hue]
  simp only [execOp, hf.eval hx, hf.eval hi, Instr.index, asIntOf]
  simp [run_underlying hu, hk, sizeOf, typeInfo, hq, hs, part, hag, hv]
theorem y_extract {x : Operand} {vs : List Value} {k : Nat} {v : Value} (hx : opv L x = some (.tuple vs.toArray)) (hv : cget vs k = some v) :
    Yl P n L m H ⟨d, .extract x k, ty, ps, af, gd⟩ v :=
  fun ac hf w _ => (by
    rw [cget_eq] at hv
    simp [execOp, hf.eval hx, Instr.extract, hv])
theorem y_len {t e : TypeId} {s : Nat} {x : Operand} {a : Option Addr} {len cap : Nat} (ht : tslice P t = some (e, s)) (hx : opv L x = some (.slice a len cap)) :
    Yl P n L m H ⟨d, .call ⟨.builtin .len, [x].toArray, [t].toArray⟩, ty, ps, af, gd⟩ (.int .i64 (len : Int)) :=
  fun ac hf w _ => (by
    unfold tslice at ht
    cases hu : P.underlying t with
    | none => simp [hu] at ht
    | some D =>
      cases D <;> simp only [hu, reduceCtorEq] at ht
      simp [execOp, resolve, invoke, builtin, Builtin.len_, run_underlying hu, hf.eval hx, goInt])
end
end Go.Aw
namespace Go.Aw
open Go
section
variable {P : Program} {n : Nat} {Q : Post} {L : Slots} {m : Snap} {H : Hp} {ops : Array Oper} {rest : List Oper} {d : Option Tmp} {ty : TypeId} {ps : String} {af : Array Edge} {gd : Option (Nat × Bool)}
/-- What a function hands back. -/
def Res (P : Program) (rs : List ResultVar) (L : Slots) (m : Snap) (H : Hp) (v : Value) : Prop :=
  ∀ (n : Nat) (a : Act) (w : World) (fn : Func), fn.results = rs.toArray → Fr n a L → St m H w → (results fn a.tmps).run P w = .ok v w
theorem res_tmps {rs : List ResultVar} {v : Value} (h : resv rs L = some v) : Res P rs L m H v := fun _ _ w _ hr hf _ => run_resv hr hf h w
theorem res_cell_a {t : Tmp} {T : TypeId} {s : Nat} {a : Option Addr} {cs : List Value} (hx : look L t = some (.pointer a)) (hT : tshape P T = some (true, s)) (hr : RdA m H a s cs) :
    Res P [.cell t T] L m H (.agg cs.toArray) := fun _ ac w fn hres hf hs => by
  obtain ⟨hl, hr⟩ := hr
  obtain ⟨g, o, rfl, hc⟩ := hr w hs
  have := hf.get t _ hx
  have e : ac.tmps.getD t undef = .pointer (some ⟨g, o, none⟩) := by simp [Array.getD_eq_getD_getElem?, this]
  simp only [Array.getD_eq_getD_getElem?] at e
  simp [results, hres, e, asAddr, run_loadVar_a hT hl hc]
def endQ (P : Program) (rs : List ResultVar) (m : Snap) (R : Value → Snap → Hp → Prop) : Post := fun e L' m' H' =>
  match e with
  | .normal | .ret => m.le m' ∧ ∃ v, Res P rs L' m' H' v ∧ ∀ w, St m' H' w → ∃ m2 H2, m'.le m2 ∧ St m2 H2 w ∧ R v m2 H2
  | _ => False
theorem fn_end {f : FuncId} {fn : Func} {c : Code} {args : List Value} {rs : List ResultVar} {R : Value → Snap → Hp → Prop} (hf : P.funcs[f]? = some fn) (hb : fn.body = some c) (hr : fn.results = rs.toArray)
    (hn : Nat.ble args.length fn.ntmps = true) (h : RunC P fn.ntmps c (endQ P rs m R) (slots0 0 args) m H) : Fn P f args m H R := by
  intro w hs
  refine calls_of_wp hf hb ?_
  have hle : args.length ≤ fn.ntmps := Nat.le_of_ble_eq_true hn
  have hfr : Fr fn.ntmps { tmps := args.toArray ++ Array.replicate (fn.ntmps - args.toArray.size) undef, defers := [] } (slots0 0 args) := by
    refine ⟨by simp; omega, rfl, fun i v hv => ?_⟩
    obtain ⟨_, h2⟩ := look_slots0 args 0 i v hv
    simp only [Nat.sub_zero] at h2
    have hi : i < args.length := (List.getElem?_eq_some_iff.1 h2).1
    rw [Array.getElem?_append, if_pos (by simpa using hi)]
    simpa using h2
  refine wp_mono (h _ w hfr hs) ?_
  rintro e a' w' ⟨L', m', H', hf', hs', hq⟩
  cases e <;> simp only [endQ] at hq
  all_goals
    obtain ⟨hm, v, hv, hE⟩ := hq
    obtain ⟨m2, H2, hm2, hs2, hR⟩ := hE w' hs'
    exact ⟨hf'.defers, v, hv _ _ _ _ hr hf' hs', v, m2, H2, rfl, hm.trans hm2, hs2, hR⟩
/-- A store: what becomes of the place. -/
theorem run_store_row {t T : TypeId} {b o : Nat} {sh : Bool} {s : Nat} {v : Value} {us cs cs' : List Value} (hT : tshape P t = some (sh, s)) (hv : v.cells = us.toArray) (hl : us.length = s) (h1 : ∀ u ∈ us, u.oneCell' = true)
    (hp : cput cs o us = some cs') {w : World} (hw : w.heap[b]? = some (.cells cs.toArray T (0, 0))) :
    (storeVar t ⟨b, o, none⟩ v).run P w = .ok () (w.setRow b cs'.toArray) := by
  obtain ⟨hle, hx⟩ := cput_spec cs o us cs' hp
  have hst := run_storeCells_at P b o T us 0 cs.toArray w hw (by simpa using hle) h1
  simp only [Nat.add_zero] at hst
  rw [← hx] at hst
  unfold tshape at hT
  unfold storeVar sizeOf typeInfo
  cases hu : P.underlying t with
  | none => simp [hu] at hT
  | some D =>
    cases hq : P.info? t with
    | none => cases D <;> simp [hu, hq] at hT
    | some i =>
      have hs : i.size = s := by cases D <;> simp only [hu, hq, Option.some.injEq, Prod.mk.injEq] at hT <;> exact hT.2
      simp [hq, hv, hs, hl, hst]
theorem s_store {K : Slots → Snap → Hp → Prop} {t T : TypeId} {x y : Operand} {b o i : Nat} {sh : Bool} {s : Nat} {v : Value} {us cs cs' : List Value} (hd : dstOk n d = true) (hx : opv L x = some (.pointer (some ⟨b, o, none⟩))) (hy : opv L y = some v)
    (hT : tshape P t = some (sh, s)) (hv : v.cells = us.toArray) (hl : us.length = s) (h1 : ∀ u ∈ us, u.oneCell' = true)
    (hi : hget H i = some (.blk b (.cells cs.toArray T (0, 0)))) (hp : cput cs o us = some cs')
    (h : K (lput L d undef) m (hset H i (.blk b (.cells cs'.toArray T (0, 0))))) : SP P n L m H ⟨d, .store t x y, ty, ps, af, gd⟩ K := by
  refine s_skip hd fun ac w hf hs => ⟨m, _, w.setRow b cs'.toArray, ?_, ?_, h⟩
  · have hw : w.heap[b]? = some (.cells cs.toArray T (0, 0)) := hs.hold _ (hget_mem hi)
    simp [execOp, hf.eval hx, hf.eval hy, Instr.storeAt, Instr.sureAddr, run_store_row hT hv hl h1 hp hw]
  · have hw : w.heap[b]? = some (.cells cs.toArray T (0, 0)) := hs.hold _ (hget_mem hi)
    refine hs.write_at hi rfl (setRow_heap w b _ _ _ _ hw) rfl rfl rfl fun k hk _ => setRow_other w b k _ ?_
    simpa [Item.own] using hk
/-- Parts of a value that is built. -/
def opps (L : Slots) : List (Nat × Operand) → Option (List (Nat × Value))
  | [] => some []
  | (i, x) :: r => match opv L x with
    | none => none
    | some v => match opps L r with
      | none => none
      | some vs => some ((i, v) :: vs)
theorem Fr.parts {a : Act} (hf : Fr n a L) : ∀ {aas : List (Nat × Operand)} {vs : List (Nat × Value)}, opps L aas = some vs → aas.map (fun p => (p.1, a.eval p.2)) = vs
  | [], vs, h => by simp only [opps, Option.some.injEq] at h; rw [← h]; rfl
  | (i, x) :: r, vs, h => by
    simp only [opps] at h
    cases hx : opv L x with
    | none => simp [hx] at h
    | some v =>
      cases hr : opps L r with
      | none => simp [hx, hr] at h
      | some us =>
        simp only [hx, hr, Option.some.injEq] at h
        rw [← h, List.map_cons, hf.eval hx, Fr.parts hf hr]
theorem y_build {t : TypeId} {aas : List (Nat × Operand)} {vs : List (Nat × Value)} {v : Value} (hp : opps L aas = some vs) (hb : ∀ w, (Instr.build t vs.toArray).run P w = .ok v w)
    :
    Yl P n L m H ⟨d, .build t aas.toArray, ty, ps, af, gd⟩ v :=
  fun ac hf w _ => (by
    have : (aas.toArray.map fun (p : Nat × Operand) => (p.1, ac.eval p.2)) = vs.toArray := by rw [List.map_toArray, hf.parts hp]
    simp only [execOp]
    rw [this, Sem.run_bind, hb]; rfl)
theorem s_buildSlice {K : Slots → Snap → Hp → Prop} {t e : TypeId} {len : Nat} {aas : List (Nat × Operand)} {vs : List (Nat × Value)} {cs : List Value} (hd : dstOk n d = true) (hp : opps L aas = some vs)
    (hb : ∀ w, (Instr.buildSlice t len vs.toArray).run P w = .ok (.slice (some ⟨w.heap.size, 0, none⟩) len len) (w.alloc (.cells cs.toArray e)))
    (h : ∀ b, K (lput L d (.slice (some ⟨b, 0, none⟩) len len)) m (.blk b (.cells cs.toArray e) :: H)) : SP P n L m H ⟨d, .buildSlice t len aas.toArray, ty, ps, af, gd⟩ K :=
  s_value hd fun ac w hf hs => ⟨.slice (some ⟨w.heap.size, 0, none⟩) len len, m, _, w.alloc (.cells cs.toArray e), by
    have : (aas.toArray.map fun (p : Nat × Operand) => (p.1, ac.eval p.2)) = vs.toArray := by rw [List.map_toArray, hf.parts hp]
    simp only [execOp]
    rw [this, Sem.run_bind, hb]; rfl, hs.alloc (.cells cs.toArray e), h _⟩
theorem y_index_arr_a {t : TypeId} {x ix : Operand} {s : Nat} {kd : IntKind} {k len : Nat} {cs r : List Value} (hx : opv L x = some (.agg cs.toArray)) (hi : opv L ix = some (.int kd (k : Int)))
    (ht : tarray P t = some (len, true, s)) (hk : k < len) (hv : csub cs (k * s) s = some r) :
    Yl P n L m H ⟨d, .index t x ix, ty, ps, af, gd⟩ (.agg r.toArray) := by
  intro ac hf w _
  obtain ⟨e, i, hu, hsh, hq, hs⟩ := tarray_spec ht
  obtain ⟨h1, h2⟩ := csub_spec cs (k * s) s r hv
  have hag : (isAgg e).run P w = .ok true w := by
    unfold tshape at hsh
    unfold isAgg
    cases hue : P.underlying e with
    | none => simp [hue] at hsh
    | some D => cases D <;> simp only [hue, hq, Option.some.injEq, Prod.mk.injEq, Bool.false_eq_true, false_and] at hsh <;> simp [run_underlying hue]
  have hex : List.take s (List.drop (k * s) cs) = r := by
    apply List.ext_getElem?
    intro j
    by_cases hj : j < s
    · have := h2 j (r[j]'(by omega)) (by simp)
      rw [List.getElem?_take_of_lt (by omega), List.getElem?_drop, this]
      simp
    · rw [List.getElem?_take_eq_none (by omega), List.getElem?_eq_none (by omega)]
  simp only [execOp, hf.eval hx, hf.eval hi, Instr.index, asIntOf]
  simp [run_underlying hu, hk, sizeOf, typeInfo, hq, hs, part, hag, hex]
/-- A field of a value. -/
theorem y_field {t : TypeId} {x : Operand} {f : Nat} {u v : Value} (hx : opv L x = some u) (hb : ∀ w, (Instr.field t u f).run P w = .ok v w)
    :
    Yl P n L m H ⟨d, .field t x f, ty, ps, af, gd⟩ v :=
  fun ac hf w _ => (by
    simp only [execOp, hf.eval hx]
    rw [Sem.run_bind, hb]; rfl)
/-- x << y, x >> y of known count. -/
def sop (op : BinOp) (k : IntKind) (a b : Int) : Option Value := if b < 0 then none else match op with
  | .shl => some (.int k (k.wrap (a * 2 ^ (min b.toNat k.bits))))
  | .shr => some (.int k (a.fdiv (2 ^ (min b.toNat k.bits))))
  | _ => none
theorem y_shift {op : BinOp} {t t' : TypeId} {x y : Operand} {k k' : IntKind} {a b : Int} {v : Value} (hx : opv L x = some (.int k a)) (hy : opv L y = some (.int k' b))
    (hv : sop op k a b = some v) :
    Yl P n L m H ⟨d, .binOp op t x y t', ty, ps, af, gd⟩ v :=
  fun ac hf w _ => (by
    have hop : op = .shl ∨ op = .shr := by
      unfold sop at hv
      split at hv
      · cases hv
      · cases op <;> simp_all
    simp only [execOp, hf.eval hx, hf.eval hy]
    have hg : (eqGuard op t x y (.int k a) (.int k' b)).run P w = .ok () w := by
      unfold eqGuard
      rcases hop with rfl | rfl <;> rfl
    rw [Sem.run_bind, Sem.run_bind, hg, Result.andThen_ok]
    unfold sop at hv
    split at hv
    · cases hv
    · rename_i hb
      rcases hop with rfl | rfl <;> (simp only [Option.some.injEq] at hv; subst hv; simp [binOp, Op.shift, hb]))
theorem y_conv_int {src dst : TypeId} {x : Operand} {k k' : IntKind} {a c : Int} (hx : opv L x = some (.int k a)) (hs : (P.underlying src).isSome = true) (ht : P.underlying dst = some (.int k'))
    (hc : k'.wrap a = c) :
    Yl P n L m H ⟨d, .convert src dst x, ty, ps, af, gd⟩ (.int k' c) :=
  fun ac hf w _ => (by
    obtain ⟨D, hD⟩ := Option.isSome_iff_exists.1 hs
    simp [execOp, convert, hf.eval hx, run_underlying hD, run_underlying ht, Conv.intToInt, hc])
/-- A comparison (or whatever operation) of values of other kinds: told by a closed fact. -/
theorem y_bin {op : BinOp} {t t' : TypeId} {x y : Operand} {u1 u2 v : Value} (hx : opv L x = some u1) (hy : opv L y = some u2)
    (hv : ∀ w, St m H w → (do eqGuard op t x y u1 u2; binOp op t u1 u2 : Sem Value).run P w = .ok v w) :
    Yl P n L m H ⟨d, .binOp op t x y t', ty, ps, af, gd⟩ v :=
  fun ac hf w hs => (by
    simp only [execOp, hf.eval hx, hf.eval hy]
    rw [Sem.run_bind, hv w hs]; rfl)
theorem r_ent {l : List Oper} (m' : Snap) (H' : Hp) (he : ∀ w, St m H w → St m' H' w) (h : Run P n ops Q l L m' H') : Run P n ops Q l L m H := fun a w hf hs => h a w hf (he w hs)
end
end Go.Aw
namespace Go.Aw
open Go
def hdrop (H : Hp) : Nat → Hp
  | 0 => H
  | k + 1 => hdrop H.tail k
theorem St.hdrop {m : Snap} {w : World} : ∀ {H : Hp} (k : Nat), St m H w → St m (hdrop H k) w
  | _, 0, h => h
  | [], k + 1, h => St.hdrop (H := []) k h
  | _ :: r, k + 1, h => St.hdrop (H := r) k h.tail
section
variable {P : Program} {n : Nat} {Q : Post} {L : Slots} {m : Snap} {H : Hp} {ops : Array Oper} {rest : List Oper} {d : Option Tmp} {ty : TypeId} {ps : String} {af : Array Edge} {gd : Option (Nat × Bool)}
theorem e_ret {rs : List ResultVar} {m0 : Snap} {R : Value → Snap → Hp → Prop} {v : Value} (k : Nat) (hm : m0.le m) (hv : Res P rs L m H v) (hR : R v m (hdrop H k)) :
    endQ P rs m0 R .ret L m H := ⟨hm, v, hv, fun _ hs => ⟨m, _, Snap.le.refl m, hs.hdrop k, hR⟩⟩
theorem c_ifk {c : Operand} {x y : Code} {t b : Bool} (hc : opv L c = some (.bool t)) (ht : t = b) (h : RunC P n (if b then x else y) Q L m H) : RunC P n (.cond c x y) Q L m H := by
  subst ht
  refine c_cond hc (fun e => ?_) (fun e => ?_)
  · subst e; exact h
  · subst e; exact h
theorem c_ift {c : Operand} {x y : Code} {t : Bool} (hc : opv L c = some (.bool t)) (ht : t = true) (h : RunC P n x Q L m H) : RunC P n (.cond c x y) Q L m H := c_ifk (b := true) hc ht h
theorem c_iff {c : Operand} {x y : Code} {t : Bool} (hc : opv L c = some (.bool t)) (ht : t = false) (h : RunC P n y Q L m H) : RunC P n (.cond c x y) Q L m H := c_ifk (b := false) hc ht h
theorem r_split {j : Nat} {t : Bool} {l : List Oper} (_hj : gval ops L j = some (.bool t)) (h1 : t = true → Run P n ops Q l L m H) (h2 : t = false → Run P n ops Q l L m H) : Run P n ops Q l L m H := by
  cases t
  · exact h2 rfl
  · exact h1 rfl
theorem r_sg {op : Op} {j : Nat} {b t : Bool} (hj : gval ops L j = some (.bool t)) (ht : t = b)
    (h : SP P n L m H ⟨d, op, ty, ps, af, some (j, b)⟩ (fun L m H => Run P n ops Q rest L m H)) : Run P n ops Q (⟨d, op, ty, ps, af, some (j, b)⟩ :: rest) L m H := r_yes (ht ▸ hj) h
theorem r_yg {op : Op} {j : Nat} {b t : Bool} {v : Value} (hj : gval ops L j = some (.bool t)) (ht : t = b) (hd : dstOk n d = true) (hy : Yl P n L m H ⟨d, op, ty, ps, af, some (j, b)⟩ v)
    (h : Run P n ops Q rest (lput L d v) m H) : Run P n ops Q (⟨d, op, ty, ps, af, some (j, b)⟩ :: rest) L m H := r_sg hj ht (s_y hd hy h)
theorem r_no' {op : Op} {j : Nat} {b t : Bool} (hd : dstOk n d = true) (hj : gval ops L j = some (.bool t)) (ht : t = !b)
    (h : Run P n ops Q rest (lput L d undef) m H) : Run P n ops Q (⟨d, op, ty, ps, af, some (j, b)⟩ :: rest) L m H := r_no rfl hd hj (by subst ht; cases b <;> simp) h
theorem y_pickt {c x y : Operand} {t : Bool} {v : Value} (hc : opv L c = some (.bool t)) (ht : t = true) (hx : opv L x = some v) : Yl P n L m H ⟨d, .pick c x y, ty, ps, af, gd⟩ v := y_pick_t (ht ▸ hc) hx
theorem y_pickf {c x y : Operand} {t : Bool} {v : Value} (hc : opv L c = some (.bool t)) (ht : t = false) (hx : opv L y = some v) : Yl P n L m H ⟨d, .pick c x y, ty, ps, af, gd⟩ v := y_pick_f (ht ▸ hc) hx
theorem c_loopw {c : Code} (I : Nat → Slots → Snap → Hp → Prop) (k : Nat) (h0 : ∃ L', Sub L L' ∧ I k L' m H)
    (round : ∀ k L m H, I k L m H → RunC P n c (thenQ (fun L m H => ∃ j L', j < k ∧ Sub L L' ∧ I j L' m H) Q) L m H) : RunC P n (.loop c) Q L m H := by
  refine c_loop (fun k L m H => ∃ L', Sub L L' ∧ I k L' m H) k h0 ?_
  rintro k L m H ⟨L1, hs1, hi1⟩
  refine c_weak L1 hs1 ?_
  refine (round k L1 m H hi1).mono ?_
  intro e L2 m2 H2 hq
  cases e with
  | normal => obtain ⟨j, L3, hj, h3, h4⟩ := hq; exact ⟨j, hj, L3, h3, h4⟩
  | _ => exact hq
theorem c_loopx {α : Type} {c : Code} (S : α → Slots) (G : α → Hp) (I : Nat → α → Snap → Prop) (k : Nat) (x0 : α) (hs : Sub L (S x0)) (hH : H = G x0) (hI : I k x0 m)
    (round : ∀ k x m, I k x m → RunC P n c (thenQ (fun L m H => ∃ j y, j < k ∧ Sub L (S y) ∧ H = G y ∧ I j y m) Q) (S x) m (G x)) : RunC P n (.loop c) Q L m H := by
  refine c_loopw (fun k L m H => ∃ x, L = S x ∧ H = G x ∧ I k x m) k ⟨_, hs, x0, rfl, hH, hI⟩ ?_
  rintro k _ m _ ⟨x, rfl, rfl, hI⟩
  refine (round k x m hI).mono ?_
  intro e L2 m2 H2 hq
  cases e with
  | normal => obtain ⟨j, y, hj, h3, h4, h5⟩ := hq; exact ⟨j, _, hj, h3, y, rfl, h4, h5⟩
  | _ => exact hq
/-- Sums of counters. -/
theorem wrap_nat {k : IntKind} {a : Nat} (h : (a : Int) ≤ 9223372036854775807) (hk : k = .i64) : k.wrap (a : Int) = (a : Int) := by
  subst hk
  simp only [IntKind.wrap, IntKind.bits, IntKind.signed]
  have : (a : Int) % 2 ^ 64 = a := by omega
  simp only [this]
  have h2 : ¬ ((a : Int) ≥ 2 ^ (64 - 1)) := by omega
  simp
  omega
theorem y_inc {t t' : TypeId} {x : Operand} {a : Nat} (hx : opv L x = some (.int .i64 (a : Int))) (hb : a < 9223372036854775807) :
    Yl P n L m H ⟨d, .binOp .add t x (.const (.int .i64 1)) t', ty, ps, af, gd⟩ (.int .i64 ((a + 1 : Nat) : Int)) :=
  y_iop hx rfl (by
    show some (Value.int .i64 (IntKind.i64.wrap ((a : Int) + 1))) = _
    rw [show ((a : Int) + 1) = ((a + 1 : Nat) : Int) by omega, wrap_nat (by omega) rfl])
end
/-- 64-bit words. -/
abbrev W := BitVec 64
def wv (x : W) : Value := .int .u64 (x.toNat : Int)
theorem wrap_u64 (x : W) : IntKind.u64.wrap (x.toNat : Int) = (x.toNat : Int) := by
  have := x.isLt
  simp only [IntKind.wrap, IntKind.bits, IntKind.signed]
  simp
  omega
theorem wrap_u64_nat (x : Nat) : IntKind.u64.wrap (x : Int) = ((x % 2 ^ 64 : Nat) : Int) := by
  simp only [IntKind.wrap, IntKind.bits, IntKind.signed]
  simp
theorem ofInt_w (x : W) : BitVec.ofInt IntKind.u64.bits (x.toNat : Int) = x := by
  show BitVec.ofInt 64 (x.toNat : Int) = x
  rw [BitVec.ofInt_natCast, BitVec.ofNat_toNat]
  simp
def wop (op : BinOp) (a b : W) : Option Value := match op with
  | .and => some (wv (a &&& b))
  | .or => some (wv (a ||| b))
  | .xor => some (wv (a ^^^ b))
  | .andNot => some (wv (a &&& ~~~b))
  | .eql => some (.bool (a == b))
  | .neq => some (.bool (a != b))
  | .lss => some (.bool (decide (a < b)))
  | .gtr => some (.bool (decide (b < a)))
  | _ => none
theorem wop_iop {op : BinOp} {a b : W} {v : Value} (h : wop op a b = some v) : iop op .u64 (a.toNat : Int) (b.toNat : Int) = some v := by
  have heq : ((a.toNat : Int) == (b.toNat : Int)) = (a == b) := by
    rw [Bool.eq_iff_iff, beq_iff_eq, beq_iff_eq, Int.ofNat_inj, BitVec.toNat_inj]
  cases op <;> simp only [wop, reduceCtorEq, Option.some.injEq] at h <;> subst h
  case eql => simp only [iop, heq]
  case neq => simp only [iop, bne, heq]
  case lss => simp [iop, BitVec.lt_def]
  case gtr => simp [iop, BitVec.lt_def]
  case and => show some (Value.int .u64 (IntKind.u64.wrap _)) = _; rw [ofInt_w, ofInt_w]; exact congrArg (fun z => some (Value.int .u64 z)) (wrap_u64 _)
  case or => show some (Value.int .u64 (IntKind.u64.wrap _)) = _; rw [ofInt_w, ofInt_w]; exact congrArg (fun z => some (Value.int .u64 z)) (wrap_u64 _)
  case xor => show some (Value.int .u64 (IntKind.u64.wrap _)) = _; rw [ofInt_w, ofInt_w]; exact congrArg (fun z => some (Value.int .u64 z)) (wrap_u64 _)
  case andNot => show some (Value.int .u64 (IntKind.u64.wrap _)) = _; rw [ofInt_w, ofInt_w]; exact congrArg (fun z => some (Value.int .u64 z)) (wrap_u64 _)
section
variable {P : Program} {n : Nat} {Q : Post} {L : Slots} {m : Snap} {H : Hp} {ops : Array Oper} {rest : List Oper} {d : Option Tmp} {ty : TypeId} {ps : String} {af : Array Edge} {gd : Option (Nat × Bool)}
theorem y_wop {op : BinOp} {t t' : TypeId} {x y : Operand} {a b : W} {v : Value} (hx : opv L x = some (wv a)) (hy : opv L y = some (wv b)) (hv : wop op a b = some v) :
    Yl P n L m H ⟨d, .binOp op t x y t', ty, ps, af, gd⟩ v :=
  y_iop hx hy (wop_iop hv)
/-- A word shifted by a count that is an int. -/
theorem y_wshr {t t' : TypeId} {x y : Operand} {k' : IntKind} {a : W} {b : Nat} (hx : opv L x = some (wv a)) (hy : opv L y = some (.int k' (b : Int))) :
    Yl P n L m H ⟨d, .binOp .shr t x y t', ty, ps, af, gd⟩ (wv (a >>> b)) :=
  y_shift hx hy (by
    have hb : ¬ ((b : Int) < 0) := by omega
    simp only [sop, if_neg hb, wv, Option.some.injEq, Value.int.injEq, true_and, Int.toNat_natCast]
    rw [BitVec.toNat_ushiftRight, Nat.shiftRight_eq_div_pow]
    show (a.toNat : Int).fdiv (2 ^ (min b 64)) = _
    have hc : ((2 : Int) ^ (min b 64)) = ((2 ^ (min b 64) : Nat) : Int) := by simp
    rw [hc, ← Int.ofNat_fdiv]
    congr 1
    rcases Nat.le_total b 64 with h64 | h64
    · rw [Nat.min_eq_left h64]
    · rw [Nat.min_eq_right h64]
      have hlt := a.isLt
      rw [Nat.div_eq_of_lt hlt, Nat.div_eq_of_lt (Nat.lt_of_lt_of_le hlt (Nat.pow_le_pow_right (by omega) h64))])
theorem y_wshl {t t' : TypeId} {x y : Operand} {k' : IntKind} {a : W} {b : Nat} (hx : opv L x = some (wv a)) (hy : opv L y = some (.int k' (b : Int))) (hb64 : b ≤ 64) :
    Yl P n L m H ⟨d, .binOp .shl t x y t', ty, ps, af, gd⟩ (wv (a <<< b)) :=
  y_shift hx hy (by
    have hb : ¬ ((b : Int) < 0) := by omega
    simp only [sop, if_neg hb, wv, Option.some.injEq, Value.int.injEq, true_and, Int.toNat_natCast]
    rw [BitVec.toNat_shiftLeft, Nat.shiftLeft_eq]
    show IntKind.u64.wrap ((a.toNat : Int) * 2 ^ (min b 64)) = _
    rw [Nat.min_eq_left hb64]
    have hc : (a.toNat : Int) * 2 ^ b = ((a.toNat * 2 ^ b : Nat) : Int) := by simp
    rw [hc, wrap_u64_nat])
end
end Go.Aw
namespace Go.Aw
open Go
/-- Where the parts of a struct or an array lie: offset and size. -/
def bplaces (P : Program) (t : TypeId) : List Nat → Option (List (Nat × Nat))
  | [] => some []
  | i :: r => match P.underlying t with
    | some (.struct fs) => match fs[i]? with
      | some f => match P.info? f.type with
        | some inf => match bplaces P t r with
          | some x => some ((f.offset, inf.size) :: x)
          | none => none
        | none => none
      | none => none
    | some (.array _ e) => match P.info? e with
      | some inf => match bplaces P t r with
        | some x => some ((i * inf.size, inf.size) :: x)
        | none => none
      | none => none
    | _ => none
def fillp : List Value → List (Nat × Nat) → List (Nat × Value) → Option (List Value)
  | z, [], [] => some z
  | z, (o, s) :: ps, (_, v) :: vs => match v.cells.toList with
    | us => if us.length = s then match cput z o us with
      | some z' => fillp z' ps vs
      | none => none
      else none
  | _, _, _ => none
theorem foldl_put : ∀ (us : List Value) (k off : Nat) (cells : List Value), off + k + us.length ≤ cells.length →
    (us.zipIdx k).foldl (fun (cs : Array Value) (p : Value × Nat) => cs.setIfInBounds (off + p.2) p.1) cells.toArray = (cells.take (off + k) ++ us ++ cells.drop (off + k + us.length)).toArray
  | [], k, off, cells, _ => by simp
  | u :: us, k, off, cells, h => by
    simp only [List.length_cons] at h
    simp only [List.zipIdx_cons, List.foldl_cons]
    rw [List.setIfInBounds_toArray]
    rw [foldl_put us (k + 1) off (cells.set (off + k) u) (by simp; omega)]
    congr 1
    have e : off + (k + 1) = off + k + 1 := by omega
    rw [e, List.take_succ_eq_append_getElem (by simp; omega)]
    rw [List.getElem_set_self, List.take_set_of_le (by omega)]
    rw [List.drop_set_of_lt (by omega)]
    simp only [List.length_cons, List.append_assoc, List.cons_append, List.nil_append]
    rw [show off + k + 1 + us.length = off + k + (us.length + 1) by omega]
theorem fill_of {place : Nat → Option (Nat × Nat)} : ∀ (vs : List (Nat × Value)) (pl : List (Nat × Nat)) (z r : List Value), pl.length = vs.length → (∀ (k i : Nat) (v : Value) (q : Nat × Nat), vs[k]? = some (i, v) → pl[k]? = some q → place i = some q) →
    fillp z pl vs = some r → Instr.fill place z.toArray vs = some r.toArray
  | [], pl, z, r, hl, _, h => by
    cases pl with
    | nil => simp only [fillp, Option.some.injEq] at h; subst h; rfl
    | cons _ _ => simp at hl
  | (i, v) :: vs, [], z, r, hl, _, _ => by simp at hl
  | (i, v) :: vs, (o, s) :: pl, z, r, hl, hp, h => by
    simp only [fillp] at h
    split at h
    · rename_i hlen
      split at h
      · rename_i z' hz
        obtain ⟨h1, h2⟩ := cput_spec _ _ _ _ hz
        have hpi := hp 0 i v (o, s) rfl rfl
        have hlen' : v.cells.size = s := by simpa using hlen
        have hle : o + v.cells.size ≤ z.length := by simpa using h1
        unfold Instr.fill
        simp only [hpi]
        rw [if_neg (by simp; omega)]
        have hf := foldl_put v.cells.toList 0 o z (by simpa using h1)
        have hc : v.cells.zipIdx.foldl (fun (cs : Array Value) (p : Value × Nat) => cs.setIfInBounds (o + p.2) p.1) z.toArray = z'.toArray := by
          rw [← Array.foldl_toList, Array.toList_zipIdx, hf, h2]
          simp
        have := fill_of vs pl z' r (by simpa using hl) (fun k i v q h1 h2 => hp (k + 1) i v q (by simpa using h1) (by simpa using h2)) h
        refine Eq.trans (congrArg (fun q => Instr.fill place q vs) ?_) this
        exact hc
      · cases h
    · cases h
theorem bplaces_spec {P : Program} {t : TypeId} : ∀ {is : List Nat} {pl : List (Nat × Nat)}, bplaces P t is = some pl → pl.length = is.length ∧ ∀ (k i : Nat) (q : Nat × Nat), is[k]? = some i → pl[k]? = some q →
    (∃ fs f inf, P.underlying t = some (.struct fs) ∧ fs[i]? = some f ∧ P.info? f.type = some inf ∧ q = (f.offset, inf.size)) ∨ (∃ n e inf, P.underlying t = some (.array n e) ∧ P.info? e = some inf ∧ q = (i * inf.size, inf.size))
  | [], pl, h => by simp only [bplaces, Option.some.injEq] at h; subst h; simp
  | i :: r, pl, h => by
    simp only [bplaces] at h
    cases hu : P.underlying t with
    | none => simp [hu] at h
    | some D =>
      cases D <;> simp only [hu, reduceCtorEq] at h
      case struct fs =>
        split at h
        · rename_i f hf
          split at h
          · rename_i inf hi
            split at h
            · rename_i x hx
              cases h
              obtain ⟨h1, h2⟩ := bplaces_spec hx
              refine ⟨by simp [h1], fun k i' q hk hq => ?_⟩
              cases k with
              | zero =>
                simp only [List.getElem?_cons_zero, Option.some.injEq] at hk hq
                subst hk; subst hq
                exact .inl ⟨fs, f, inf, rfl, hf, hi, rfl⟩
              | succ k => have := h2 k i' q (by simpa using hk) (by simpa using hq); rwa [hu] at this
            · cases h
          · cases h
        · cases h
      case array n e =>
        split at h
        · rename_i inf hi
          split at h
          · rename_i x hx
            cases h
            obtain ⟨h1, h2⟩ := bplaces_spec hx
            refine ⟨by simp [h1], fun k i' q hk hq => ?_⟩
            cases k with
            | zero =>
              simp only [List.getElem?_cons_zero, Option.some.injEq] at hk hq
              subst hk; subst hq
              exact .inr ⟨n, e, inf, rfl, hi, rfl⟩
            | succ k => have := h2 k i' q (by simpa using hk) (by simpa using hq); rwa [hu] at this
          · cases h
        · cases h
theorem mapM_run {α β : Type} {P : Program} {w : World} (f : α → Sem β) (g : α → β) (l : Array α) (h : ∀ x ∈ l, (f x).run P w = .ok (g x) w) : (l.mapM f).run P w = .ok (l.map g) w := by
  obtain ⟨l⟩ := l
  simp only [List.mapM_toArray, List.map_toArray]
  have key : ∀ (l : List α), (∀ x ∈ l, (f x).run P w = .ok (g x) w) → (l.mapM f).run P w = .ok (l.map g) w := by
    intro l
    induction l with
    | nil => intro _; rfl
    | cons x l ih =>
      intro h
      rw [List.mapM_cons, Sem.run_bind, h x (by simp), Result.andThen_ok, Sem.run_bind, ih (fun y hy => h y (by simp [hy]))]
      rfl
  have := key l (fun x hx => h x (by simpa using hx))
  simp [this]
/-- Every field of the struct has a size that is known (checked by the kernel). -/
def fieldsKnown (P : Program) (t : TypeId) : Bool := match P.underlying t with
  | some (.struct fs) => fs.all fun f => (P.info? f.type).isSome
  | some (.array _ e) => (P.info? e).isSome
  | _ => false
theorem run_build {P : Program} {t : TypeId} {vs : List (Nat × Value)} {z r : List Value} {pl : List (Nat × Nat)} (hz : tzero P t = some z) (hk : fieldsKnown P t = true) (hpl : bplaces P t (vs.map (·.1)) = some pl) (hf : fillp z pl vs = some r)
    (w : World) : (Instr.build t vs.toArray).run P w = .ok (.agg r.toArray) w := by
  obtain ⟨h1, h2⟩ := bplaces_spec hpl
  unfold tzero at hz
  split at hz
  case h_2 => cases hz
  rename_i inf hinf
  split at hz
  case h_2 => cases hz
  rename_i zv hzv
  cases hz
  unfold fieldsKnown at hk
  unfold Instr.build zeroValue typeInfo
  simp only [Sem.run_bind]
  cases hu : P.underlying t with
  | none => simp [hu] at hk
  | some D =>
    cases D <;> simp only [hu, Bool.false_eq_true] at hk
    case struct fs =>
      have hm : (fs.mapM fun f => (Prod.mk f.offset <$> sizeOf f.type : Sem (Nat × Nat))).run P w = .ok (fs.map fun f => (f.offset, ((P.info? f.type).map (·.size)).getD 0)) w := by
        refine mapM_run _ _ fs fun f hf => ?_
        have := (Array.all_eq_true_iff_forall_mem.1 hk) f hf
        obtain ⟨i, hi⟩ := Option.isSome_iff_exists.1 this
        simp [sizeOf, typeInfo, hi]
      have hfill : Instr.fill (fun i => (fs.map fun f => (f.offset, ((P.info? f.type).map (·.size)).getD 0))[i]?) zv.cells.toList.toArray vs = some r.toArray := by
        refine fill_of vs pl _ r (by simpa using h1) (fun k i v q hk hq => ?_) hf
        rcases h2 k i q (by simp [hk]) hq with ⟨fs', f, i', hu', hf', hi', rfl⟩ | ⟨_, _, _, hu', _⟩
        · rw [hu] at hu'; cases hu'
          simp [hf', hi']
        · rw [hu] at hu'; cases hu'
      simp only [Array.toArray_toList, Array.getElem?_map] at hfill
      simp [hinf, hzv, run_underlying hu, hm, hfill]
    case array n e =>
      obtain ⟨i, hi⟩ := Option.isSome_iff_exists.1 hk
      have hfill : Instr.fill (fun j => some (j * i.size, i.size)) zv.cells.toList.toArray vs = some r.toArray := by
        refine fill_of vs pl _ r (by simpa using h1) (fun k j v q hk hq => ?_) hf
        rcases h2 k j q (by simp [hk]) hq with ⟨_, _, _, hu', _⟩ | ⟨n', e', i', hu', hi', rfl⟩
        · rw [hu] at hu'; cases hu'
        · rw [hu] at hu'; cases hu'
          rw [hi] at hi'; cases hi'
          rfl
      simp only [Array.toArray_toList] at hfill
      simp [hinf, hzv, run_underlying hu, sizeOf, typeInfo, hi, hfill]
section
variable {P : Program} {n : Nat} {Q : Post} {L : Slots} {m : Snap} {H : Hp} {ops : Array Oper} {rest : List Oper} {d : Option Tmp} {ty : TypeId} {ps : String} {af : Array Edge} {gd : Option (Nat × Bool)}
theorem y_bld {t : TypeId} {aas : List (Nat × Operand)} {vs : List (Nat × Value)} {is : List Nat} {z r : List Value} {pl : List (Nat × Nat)} (hp : opps L aas = some vs) (hz : tzero P t = some z) (hk : fieldsKnown P t = true)
    (hpl : bplaces P t is = some pl) (his : vs.map (·.1) = is) (hf : fillp z pl vs = some r) :
    Yl P n L m H ⟨d, .build t aas.toArray, ty, ps, af, gd⟩ (.agg r.toArray) :=
  y_build hp (run_build hz hk (his ▸ hpl) hf)
/-- A field: its place, and its shape. -/
def fieldSh (P : Program) (t : TypeId) (f : Nat) : Option (Nat × Bool × Nat) := match P.underlying t with
  | some (.struct fs) => match fs[f]? with
    | some fd => match tshape P fd.type with
      | some (b, s) => some (fd.offset, b, s)
      | none => none
    | none => none
  | _ => none
theorem tshape_spec {t : TypeId} {b : Bool} {s : Nat} (h : tshape P t = some (b, s)) (w : World) : (isAgg t).run P w = .ok b w ∧ (sizeOf t).run P w = .ok s w := by
  unfold tshape at h
  unfold isAgg sizeOf typeInfo
  cases hu : P.underlying t with
  | none => simp [hu] at h
  | some D =>
    cases hq : P.info? t with
    | none => cases D <;> simp [hu, hq] at h
    | some i => cases D <;> simp only [hu, hq, Option.some.injEq, Prod.mk.injEq] at h <;> obtain ⟨rfl, rfl⟩ := h <;> simp [run_underlying hu, hq]
theorem fieldSh_spec {t : TypeId} {f o s : Nat} {b : Bool} (h : fieldSh P t f = some (o, b, s)) : ∃ fs fd, P.underlying t = some (.struct fs) ∧ fs[f]? = some fd ∧ tshape P fd.type = some (b, s) ∧ fd.offset = o := by
  unfold fieldSh at h
  cases hu : P.underlying t with
  | none => simp [hu] at h
  | some D =>
    cases D <;> simp only [hu, reduceCtorEq] at h
    rename_i fs
    cases hfd : fs[f]? with
    | none => simp [hfd] at h
    | some fd =>
      cases hs : tshape P fd.type with
      | none => simp [hfd, hs] at h
      | some bs =>
        simp only [hfd, hs, Option.some.injEq, Prod.mk.injEq] at h
        obtain ⟨rfl, rfl, rfl⟩ := h
        exact ⟨fs, fd, rfl, hfd, hs, rfl⟩
theorem y_fld_s {t : TypeId} {x : Operand} {f o s : Nat} {cs : List Value} {v : Value} (hx : opv L x = some (.agg cs.toArray)) (hf : fieldSh P t f = some (o, false, s)) (hv : cget cs o = some v) :
    Yl P n L m H ⟨d, .field t x f, ty, ps, af, gd⟩ v :=
  y_field hx (fun w => by
    obtain ⟨fs, fd, hu, hfd, hs, rfl⟩ := fieldSh_spec hf
    rw [cget_eq] at hv
    simp [Instr.field, run_underlying hu, hfd, asAgg, part, (tshape_spec hs w).1, hv])
end
end Go.Aw
namespace Go.Aw
open Go
def NP (Q : Exit → Act → World → Prop) : Exit → Act → World → Prop
  | .panic _, _, _ => False
  | e, a, w => Q e a w
theorem NP.imp {Q : Exit → Act → World → Prop} : ∀ (e : Exit) (a : Act) (w : World), NP Q e a w → Q e a w := fun e a w h => by
  cases e <;> first | exact h | exact (h : False).elim
/-- The worlds in which the frozen memory and these items are as they were. -/
def Cls (m : Snap) (X : Hp) (w : World) : Prop := ∃ m' H', m.le m' ∧ (∀ it ∈ X, it ∈ H') ∧ St m' H' w
def AG (P : Program) (n : Nat) (ops : Array Oper) (Q : Post) (S : World → Prop) (fuel : Nat) (listed : Array Bool) (L : Slots) (m : Snap) (H : Hp) : Prop :=
  ∀ a w, Fr n a L → St m H w → wpAnyH P .any ops (NP (Lift n Q)) S fuel listed a w
section
variable {P : Program} {n : Nat} {Q : Post} {L : Slots} {m m0 : Snap} {H X : Hp} {ops : Array Oper} {fuel : Nat} {listed listed' : Array Bool}
theorem c_draw {id : Nat} {l : List Oper} (X : Hp) (hm : P.follows .mixedOrders = true) (h : m.le m → AG P n l.toArray Q (Cls m X) l.length (Array.replicate l.length false) L m H) : RunC P n (.region id l.toArray true) Q L m H := by
  intro a w hf hs
  refine Code.wp_mono NP.imp ?_
  refine wp_region_held (S := Cls m X) hm ?_
  have := h (Snap.le.refl m) a { w with drawn := w.drawn + 1 } hf (hs.drawn _)
  simpa using this
theorem alln {H : Hp} : ∀ it ∈ ([] : Hp), it ∈ H := fun _ h => by cases h
theorem allc {H X : Hp} {a : Item} (h : a ∈ H) (hr : ∀ it ∈ X, it ∈ H) : ∀ it ∈ a :: X, it ∈ H := fun it hi => by
  rcases List.mem_cons.1 hi with rfl | hi
  · exact h
  · exact hr it hi
/-- One that only reads is taken at once. -/
theorem g_y {i : Nat} {o : Oper} {v : Value} (ho : ops[i]? = some o) (hns : Region.noSelect ops = true) (hf : Region.free .any ops listed i = true) (hr : (Region.ready .any ops listed).contains i = true) (hl : listed.setIfInBounds i true = listed')
    (hg : o.guard = none) (hd : dstOk n o.dst = true) (hm : m0.le m) (hX : ∀ it ∈ X, it ∈ H) (hy : ∀ m' H', m0.le m' → (∀ it ∈ X, it ∈ H') → Yl P n L m' H' o v)
    (h : AG P n ops Q (Cls m0 X) fuel listed' (lput L o.dst v) m H) : AG P n ops Q (Cls m0 X) (fuel + 1) listed L m H := by
  subst hl
  intro a w hfr hs
  refine wpAnyH_take (v := v) ho hns hf hr (fun c a w h => h) (.inl ⟨by simp [Region.wanted, hg], fun w' hw' => ?_⟩) ⟨m, H, hm, hX, hs⟩ (h _ _ (hfr.lput hd v) hs)
  obtain ⟨m', H', h1, h2, h3⟩ := hw'
  exact hy m' H' h1 h2 a hfr w' h3
theorem g_yg {i : Nat} {o : Oper} {v : Value} {j : Nat} {b t : Bool} (ho : ops[i]? = some o) (hns : Region.noSelect ops = true) (hf : Region.free .any ops listed i = true) (hr : (Region.ready .any ops listed).contains i = true) (hl : listed.setIfInBounds i true = listed')
    (hg : o.guard = some (j, b)) (hj : gval ops L j = some (.bool t)) (ht : t = b) (hd : dstOk n o.dst = true) (hm : m0.le m) (hX : ∀ it ∈ X, it ∈ H) (hy : ∀ m' H', m0.le m' → (∀ it ∈ X, it ∈ H') → Yl P n L m' H' o v)
    (h : AG P n ops Q (Cls m0 X) fuel listed' (lput L o.dst v) m H) : AG P n ops Q (Cls m0 X) (fuel + 1) listed L m H := by
  subst hl; subst ht
  intro a w hfr hs
  have hy' := yielded_of hfr hj
  refine wpAnyH_take (v := v) ho hns hf hr (fun c a w h => h) (.inl ⟨by simp [Region.wanted, hg, hy'], fun w' hw' => ?_⟩) ⟨m, H, hm, hX, hs⟩ (h _ _ (hfr.lput hd v) hs)
  obtain ⟨m', H', h1, h2, h3⟩ := hw'
  exact hy m' H' h1 h2 a hfr w' h3
theorem g_no {i : Nat} {o : Oper} {j : Nat} {b t : Bool} (ho : ops[i]? = some o) (hns : Region.noSelect ops = true) (hf : Region.free .any ops listed i = true) (hr : (Region.ready .any ops listed).contains i = true) (hl : listed.setIfInBounds i true = listed')
    (hg : o.guard = some (j, b)) (hj : gval ops L j = some (.bool t)) (ht : t = !b) (hd : dstOk n o.dst = true) (hm : m0.le m) (hX : ∀ it ∈ X, it ∈ H)
    (h : AG P n ops Q (Cls m0 X) fuel listed' (lput L o.dst undef) m H) : AG P n ops Q (Cls m0 X) (fuel + 1) listed L m H := by
  subst hl; subst ht
  intro a w hfr hs
  have hy' := yielded_of hfr hj
  exact wpAnyH_take (v := undef) ho hns hf hr (fun c a w h => h) (.inr ⟨by simp [Region.wanted, hg, hy'], rfl⟩) ⟨m, H, hm, hX, hs⟩ (h _ _ (hfr.lput hd undef) hs)
theorem yielded_undef {a : Act} (hf : Fr n a L) {j : Nat} (h : gval ops L j = some undef) : yielded ops a.tmps j = none := by
  unfold gval at h
  unfold yielded
  cases hd : (ops[j]?).bind (·.dst) with
  | none => rfl
  | some d =>
    rw [hd] at h
    simp only [Option.bind_some] at h ⊢
    rw [hf.get d _ h]
    rfl
theorem g_nou {i : Nat} {o : Oper} {j : Nat} {b : Bool} (ho : ops[i]? = some o) (hns : Region.noSelect ops = true) (hf : Region.free .any ops listed i = true) (hr : (Region.ready .any ops listed).contains i = true) (hl : listed.setIfInBounds i true = listed')
    (hg : o.guard = some (j, b)) (hj : gval ops L j = some undef) (hd : dstOk n o.dst = true) (hm : m0.le m) (hX : ∀ it ∈ X, it ∈ H)
    (h : AG P n ops Q (Cls m0 X) fuel listed' (lput L o.dst undef) m H) : AG P n ops Q (Cls m0 X) (fuel + 1) listed L m H := by
  subst hl
  intro a w hfr hs
  have hy' := yielded_undef hfr hj
  exact wpAnyH_take (v := undef) ho hns hf hr (fun c a w h => h) (.inr ⟨by simp [Region.wanted, hg, hy'], rfl⟩) ⟨m, H, hm, hX, hs⟩ (h _ _ (hfr.lput hd undef) hs)
theorem r_nou {rest : List Oper} {d : Option Tmp} {op : Op} {ty : TypeId} {ps : String} {af : Array Edge} {j : Nat} {b : Bool} (hd : dstOk n d = true) (hj : gval ops L j = some undef)
    (h : Run P n ops Q rest (lput L d undef) m H) : Run P n ops Q (⟨d, op, ty, ps, af, some (j, b)⟩ :: rest) L m H := by
  intro a w hf hs
  unfold wpList
  have hy := yielded_undef hf hj
  rw [if_neg (by simp [Region.wanted, hy])]
  exact h _ _ (hf.lput hd undef) hs
theorem g_split {j : Nat} {t : Bool} {S : World → Prop} (_hj : gval ops L j = some (.bool t)) (h1 : t = true → AG P n ops Q S fuel listed L m H) (h2 : t = false → AG P n ops Q S fuel listed L m H) : AG P n ops Q S fuel listed L m H := by
  cases t
  · exact h2 rfl
  · exact h1 rfl
/-- One with an effect, that alone may come up. -/
theorem g_s {i : Nat} {o : Oper} (ho : ops[i]? = some o) (hr : Region.ready .any ops listed = [i]) (hl : listed.setIfInBounds i true = listed') (hg : o.guard = none)
    (h : SP P n L m H o (fun L' m' H' => (m0.le m' ∧ (∀ it ∈ X, it ∈ H')) ∧ AG P n ops Q (Cls m0 X) fuel listed' L' m' H')) : AG P n ops Q (Cls m0 X) (fuel + 1) listed L m H := by
  subst hl
  intro a w hfr hs
  refine wpAnyH_all hr (by simp) ?_
  intro k hk
  simp only [List.mem_singleton] at hk
  subst hk
  unfold wpOp
  simp only [ho]
  rw [if_pos (by simp [Region.wanted, hg])]
  refine .inl (h a w hfr hs _ _ fun a' w' L' m' H' h1 h2 h3 => ⟨⟨m', H', h3.1.1, h3.1.2, h2⟩, h3.2 a' w' h1 h2⟩)
/-- The same where a guard says yes. -/
theorem g_sg {i : Nat} {o : Oper} {j : Nat} {b t : Bool} (ho : ops[i]? = some o) (hr : Region.ready .any ops listed = [i]) (hl : listed.setIfInBounds i true = listed') (hg : o.guard = some (j, b)) (hj : gval ops L j = some (.bool t)) (ht : t = b)
    (h : SP P n L m H o (fun L' m' H' => (m0.le m' ∧ (∀ it ∈ X, it ∈ H')) ∧ AG P n ops Q (Cls m0 X) fuel listed' L' m' H')) : AG P n ops Q (Cls m0 X) (fuel + 1) listed L m H := by
  subst hl; subst ht
  intro a w hfr hs
  have hy' := yielded_of hfr hj
  refine wpAnyH_all hr (by simp) ?_
  intro k hk
  simp only [List.mem_singleton] at hk
  subst hk
  unfold wpOp
  simp only [ho]
  rw [if_pos (by simp [Region.wanted, hg, hy'])]
  refine .inl (h a w hfr hs _ _ fun a' w' L' m' H' h1 h2 h3 => ⟨⟨m', H', h3.1.1, h3.1.2, h2⟩, h3.2 a' w' h1 h2⟩)
/-- Several with effects may come up: each of them in turn. -/
def Each (P : Program) (n : Nat) (ops : Array Oper) (Q : Post) (m0 : Snap) (X : Hp) (fuel : Nat) (listed : Array Bool) (L : Slots) (m : Snap) (H : Hp) : List Nat → Prop
  | [] => True
  | i :: r => (∃ o, ops[i]? = some o ∧ o.guard = none ∧ SP P n L m H o (fun L' m' H' => (m0.le m' ∧ (∀ it ∈ X, it ∈ H')) ∧ AG P n ops Q (Cls m0 X) fuel (listed.setIfInBounds i true) L' m' H')) ∧ Each P n ops Q m0 X fuel listed L m H r
theorem g_each {rs : List Nat} (hr : Region.ready .any ops listed = rs) (hne : rs ≠ []) (h : Each P n ops Q m0 X fuel listed L m H rs) : AG P n ops Q (Cls m0 X) (fuel + 1) listed L m H := by
  intro a w hfr hs
  refine wpAnyH_all hr hne ?_
  have key : ∀ rs, Each P n ops Q m0 X fuel listed L m H rs → ∀ i ∈ rs, wpOp P ops (NP (Lift n Q)) i (fun a' w' => Cls m0 X w' ∧ wpAnyH P .any ops (NP (Lift n Q)) (Cls m0 X) fuel (listed.setIfInBounds i true) a' w') a w := by
    intro rs
    induction rs with
    | nil => intro _ i hi; cases hi
    | cons k r ih =>
      rintro ⟨⟨o, ho, hg, hsp⟩, hr⟩ i hi
      rcases List.mem_cons.1 hi with rfl | hi
      · unfold wpOp
        simp only [ho]
        rw [if_pos (by simp [Region.wanted, hg])]
        exact .inl (hsp a w hfr hs _ _ fun a' w' L' m' H' h1 h2 h3 => ⟨⟨m', H', h3.1.1, h3.1.2, h2⟩, h3.2 a' w' h1 h2⟩)
      · exact ih hr i hi
  exact key rs h
theorem g_done {S : World → Prop} (hr : Region.ready .any ops listed = []) (h : Q .normal L m H) : AG P n ops Q S fuel listed L m H := fun _ _ hf hs =>
  wpAnyH_done hr ⟨L, m, H, hf, hs, h⟩ fuel
/-- What is read is read in each world of the class. -/
theorem RdS.mem {b o : Nat} {cs : List Value} {T : TypeId} {fz : Nat × Nat} {v : Value} (hi : Item.blk b (.cells cs.toArray T fz) ∈ H) (hv : cget cs o = some v) : RdS m H (some ⟨b, o, none⟩) v :=
  fun w hs => ⟨b, o, rfl, by
    have : w.heap[b]? = some (.cells cs.toArray T fz) := hs.hold _ hi
    simp only [World.cell?, this]
    rw [cget_eq] at hv
    simpa using hv⟩
theorem RdA.mem {b o s : Nat} {cs r : List Value} {T : TypeId} {fz : Nat × Nat} (hi : Item.blk b (.cells cs.toArray T fz) ∈ H) (hv : csub cs o s = some r) : RdA m H (some ⟨b, o, none⟩) s r :=
  ⟨(csub_spec cs o s r hv).1, fun w hs => ⟨b, o, rfl, fun j u hu => by
    have : w.heap[b]? = some (.cells cs.toArray T fz) := hs.hold _ hi
    simp only [World.cell?, this]
    simpa using (csub_spec cs o s r hv).2 j u hu⟩⟩
end
end Go.Aw
namespace Go.Aw
open Go
def Head := Fin 12 → W
def Head.at (h : Head) (k : Nat) : W := h (Fin.ofNat 12 k)
def encHead (h : Head) : List Value := [wv (h 0), wv (h 1), wv (h 2), wv (h 3), wv (h 4), wv (h 5), wv (h 6), wv (h 7), wv (h 8), wv (h 9), wv (h 10), wv (h 11)]
theorem cget_head (h : Head) (k : Nat) (hk : k < 12) : cget (encHead h) (k * 1) = some (wv (h.at k)) := by
  match k, hk with
  | 0, _ | 1, _ | 2, _ | 3, _ | 4, _ | 5, _ | 6, _ | 7, _ | 8, _ | 9, _ | 10, _ | 11, _ => rfl
structure Cube where
  value : Head
  care : Head
def encCube (c : Cube) : List Value := encHead c.value ++ encHead c.care
theorem cget_value (c : Cube) (k : Nat) (hk : k < 12) : cget (encCube c) (0 + k * 1) = some (wv (c.value.at k)) := by
  match k, hk with
  | 0, _ | 1, _ | 2, _ | 3, _ | 4, _ | 5, _ | 6, _ | 7, _ | 8, _ | 9, _ | 10, _ | 11, _ => rfl
theorem cget_care (c : Cube) (k : Nat) (hk : k < 12) : cget (encCube c) (12 + k * 1) = some (wv (c.care.at k)) := by
  match k, hk with
  | 0, _ | 1, _ | 2, _ | 3, _ | 4, _ | 5, _ | 6, _ | 7, _ | 8, _ | 9, _ | 10, _ | 11, _ => rfl
/-- A constant word. -/
theorem opv_wc {L : Slots} (c : W) : opv L (.const (.int .u64 (c.toNat : Int))) = some (wv c) := rfl
def there (n : Int) : Bool := decide (0 ≤ n) && decide (n < 12)
theorem there_spec {n : Int} (h : (!there n) = false) : ∃ k : Nat, k < 12 ∧ n = (k : Int) := by
  simp [there] at h
  exact ⟨n.toNat, by omega, by omega⟩
def size12 : List Nat := [16, 48, 48, 16, 12, 4, 32, 32, 8, 8, 12, 12]
def hsz (n : Int) : Nat := if there n then size12.getD n.toNat 0 else 0
theorem hsz_nat {k : Nat} (h : k < 12) : hsz (k : Int) = size12.getD k 0 := by
  have : there (k : Int) = true := by simp [there]; omega
  simp [hsz, this]
def fits (n : Int) (x : W) : Bool := (x >>> hsz n) == 0
def headSound (h : Head) : Bool := (List.range 12).all fun i => fits (i : Int) (h.at i)
def cubeSound (c : Cube) : Bool := headSound c.care && (List.range 12).all fun i => (c.value.at i &&& ~~~(c.care.at i)) == 0
theorem all_range_succ (f : Nat → Bool) (i : Nat) : (List.range (i + 1)).all f = ((List.range i).all f && f i) := by simp [List.range_succ]
theorem all_range_false {f : Nat → Bool} {i n : Nat} (h : f i = false) (hi : i < n) : (List.range n).all f = false := by
  simp only [List.all_eq_false, List.mem_range, Bool.not_eq_true]
  exact ⟨i, hi, h⟩
/-- A slice's head. -/
structure Sl where
  a : Option Addr
  n : Nat
  cap : Nat
def Sl.v (s : Sl) : Value := .slice s.a s.n s.cap
def Sl.ok (s : Sl) : Prop := s.a = none → s.cap = 0
end Go.Aw
namespace Go.Aw
open Go
theorem length_flatten {cs : List (List Value)} {s : Nat} (h : ∀ c ∈ cs, c.length = s) : cs.flatten.length = cs.length * s := by
  induction cs with
  | nil => simp
  | cons c r ih =>
    rw [List.flatten_cons, List.length_append, ih (fun x hx => h x (List.mem_cons_of_mem _ hx)), h c List.mem_cons_self, List.length_cons, Nat.add_mul, Nat.one_mul, Nat.add_comm]
theorem getElem?_flatten {s : Nat} : ∀ {cs : List (List Value)}, (∀ c ∈ cs, c.length = s) → ∀ {k j : Nat} {c : List Value} {v : Value}, cs[k]? = some c → c[j]? = some v → cs.flatten[k * s + j]? = some v
  | [], _, k, j, c, v, hk, _ => by simp at hk
  | x :: r, h, k, j, c, v, hk, hj => by
    have hx := h x List.mem_cons_self
    rw [List.flatten_cons]
    cases k with
    | zero =>
      simp only [List.getElem?_cons_zero, Option.some.injEq] at hk
      subst hk
      have : j < x.length := (List.getElem?_eq_some_iff.1 hj).1
      rw [Nat.zero_mul, Nat.zero_add, List.getElem?_append_left this]
      exact hj
    | succ k =>
      have e : (k + 1) * s + j = x.length + (k * s + j) := by rw [hx, Nat.add_mul, Nat.one_mul]; omega
      rw [e, List.getElem?_append_right (by omega), Nat.add_sub_cancel_left]
      exact getElem?_flatten (fun y hy => h y (List.mem_cons_of_mem _ hy)) (by simpa using hk) hj
/-- A source of elements that are appended. -/
structure Src (m : Snap) (H : Hp) (v : Value) (k s : Nat) (news : List (List Value)) : Prop where
  len : news.length = k
  each : ∀ c ∈ news, c.length = s
  one : ∀ c ∈ news, ∀ u ∈ c, u.oneCell' = true
  get : (k = 0 ∧ v = .slice none 0 0) ∨ ∃ a c, v = .slice (some a) k c ∧ ∀ w, St m H w → ∀ (j : Nat) (u : Value), news.flatten[j]? = some u → w.cell? (a.add j) = some u
def tbytes (P : Program) (t : TypeId) : Option Nat := (P.info? t).map (·.bytes)
theorem Src.blk {m : Snap} {H : Hp} {i b k c s : Nat} {cs : List Value} {T : TypeId} {fz : Nat × Nat} {news : List (List Value)} (hi : hget H i = some (.blk b (.cells cs.toArray T fz)))
    (hl : news.length = k) (he : ∀ c ∈ news, c.length = s) (h1 : ∀ c ∈ news, ∀ u ∈ c, u.oneCell' = true) (hf : news.flatten = cs) : Src m H (.slice (some ⟨b, 0, none⟩) k c) k s news :=
  ⟨hl, he, h1, .inr ⟨⟨b, 0, none⟩, c, rfl, fun w hs j u hu => by
    have : w.heap[b]? = some (.cells cs.toArray T fz) := hs.hold _ (hget_mem hi)
    rw [addr_add]
    simp only [World.cell?, this]
    rw [hf] at hu
    simpa using hu⟩⟩
/-- One element. -/
theorem Src.one' {m : Snap} {H : Hp} {i b c s : Nat} {cs : List Value} {T : TypeId} {fz : Nat × Nat} (hi : hget H i = some (.blk b (.cells cs.toArray T fz))) (hl : cs.length = s) (h1 : ∀ u ∈ cs, u.oneCell' = true) :
    Src m H (.slice (some ⟨b, 0, none⟩) 1 c) 1 s [cs] :=
  Src.blk hi rfl (by simpa using hl) (by simpa using h1) (by simp)
theorem flatten_index {s : Nat} : ∀ {cs : List (List Value)}, (∀ c ∈ cs, c.length = s) → ∀ {j : Nat} {u : Value}, cs.flatten[j]? = some u → ∃ (k i : Nat) (c : List Value), cs[k]? = some c ∧ c[i]? = some u ∧ j = k * s + i
  | [], _, j, u, h => by simp at h
  | x :: r, h, j, u, hj => by
    have hx := h x List.mem_cons_self
    rw [List.flatten_cons] at hj
    by_cases hlt : j < x.length
    · rw [List.getElem?_append_left hlt] at hj
      exact ⟨0, j, x, by simp, hj, by simp⟩
    · rw [List.getElem?_append_right (by omega)] at hj
      obtain ⟨k, i, c, h1, h2, h3⟩ := flatten_index (fun y hy => h y (List.mem_cons_of_mem _ hy)) hj
      exact ⟨k + 1, i, c, by simpa using h1, h2, by rw [Nat.add_mul, Nat.one_mul]; omega⟩
theorem Src.fz {m : Snap} {H : Hp} {a : Option Addr} {n cap s : Nat} {cs : List (List Value)} (h : Fz m a n cap s cs) (h1 : ∀ c ∈ cs, ∀ u ∈ c, u.oneCell' = true) (hnil : a = none → cap = 0) : Src m H (.slice a n cap) n s cs := by
  refine ⟨h.len, h.each, h1, ?_⟩
  cases a with
  | none =>
    have hc := hnil rfl
    have hn : n = 0 := by have := h.le; omega
    subst hc; subst hn
    exact .inl ⟨rfl, rfl⟩
  | some a =>
    refine .inr ⟨a, cap, rfl, fun w hs j u hu => ?_⟩
    obtain ⟨k, i, c, hk, hi, rfl⟩ := flatten_index h.each hu
    obtain ⟨g, o, ha, hv⟩ := h.get k c hk
    cases ha
    rw [addr_add]
    exact hs.cell (hv i u hi)
/-- A slice of the call's own gets another row: the old one is forgotten. -/
theorem St.regrow {m : Snap} {H : Hp} {w w' : World} {i : Nat} {a a' : Option Addr} {n n' cap cap' s : Nat} {e : TypeId} {cs cs' : List (List Value)} (h : St m H w) (hi : hget H i = some (.vec a n cap e s cs))
    (hg : w.grownBy w' (a.map (·.block))) (hown : ∀ k, (a'.map (·.block)) = some k → some k = a.map (·.block) ∨ w.heap.size ≤ k) (hh : Item.holds w' (.vec a' n' cap' e s cs')) : St m (hset H i (.vec a' n' cap' e s cs')) w' := by
  have hp := (hget_perm hi).1
  have h2 := h.perm hp
  have ht := h2.tail
  refine St.perm (H := .vec a' n' cap' e s cs' :: hdel H i) ?_ ((hget_perm hi).2 _)
  have hfar : ∀ k ∈ owned (hdel H i), some k ≠ a.map (·.block) := by
    intro k hk e
    have hnd := h2.nodup
    simp only [owned, List.flatMap_cons, List.nodup_append] at hnd
    refine hnd.2.2 k ?_ k hk rfl
    simp [Item.own, ← e]
  have hkeep : ∀ k, k < w.heap.size → some k ≠ a.map (·.block) → w'.heap[k]? = w.heap[k]? := hg.block
  have hfz : ∀ k o, m.heap k = some o → some k ≠ a.map (·.block) := by
    intro k o hk e
    have := h2.apart k (by simp [owned, Item.own, ← e])
    rw [this] at hk; cases hk
  refine ⟨hg.os.trans h.os, hg.tape.trans h.tape, hg.output.trans h.output, fun k o hk => (hkeep k (h.frz_lt hk) (hfz k o hk)).trans (h.frz k o hk), ?_, ?_, ?_⟩
  · intro x hx
    rcases List.mem_cons.1 hx with rfl | hx
    · exact hh
    · exact Item.holds_of (ht.hold x hx) fun k hk => hkeep k (ht.lt k (mem_owned.2 ⟨x, hx, hk⟩)) (hfar k (mem_owned.2 ⟨x, hx, hk⟩))
  · have hnd := ht.nodup
    show (owned (Item.vec a' n' cap' e s cs' :: hdel H i)).Nodup
    simp only [owned, List.flatMap_cons, Item.own] at hnd ⊢
    cases ha : a' with
    | none => simpa using hnd
    | some x =>
      simp only [Option.map_some, Option.toList_some, List.singleton_append, List.nodup_cons]
      refine ⟨fun hm => ?_, hnd⟩
      rcases hown x.block (by simp [ha]) with h3 | h3
      · exact hfar x.block hm h3
      · have := ht.lt x.block hm; omega
  · intro k hk
    simp only [owned, List.flatMap_cons, Item.own, List.mem_append] at hk
    rcases hk with hk | hk
    · have hk' : a'.map (·.block) = some k := by cases a' <;> simp_all
      rcases hown k hk' with h3 | h3
      · exact h2.apart k (by simp [owned, Item.own, ← h3])
      · cases hm : m.heap k with
        | none => rfl
        | some o => have := h.frz_lt hm; omega
    · exact ht.apart k hk
section
variable {P : Program} {n : Nat} {Q : Post} {L : Slots} {m : Snap} {H : Hp} {ops : Array Oper} {rest : List Oper} {d : Option Tmp} {ty : TypeId} {ps : String} {af : Array Edge} {gd : Option (Nat × Bool)}
/-- Zero's cells are as many as the type has. -/
def zeroOk (P : Program) (t : TypeId) : Bool := match P.info? t with
  | some i => match i.zero with
    | some z => z.cells.size == i.size && Nat.blt 0 i.size
    | none => false
  | none => false
theorem s_append {K : Slots → Snap → Hp → Prop} {t e : TypeId} {x y : Operand} {i len cap k s B : Nat} {a : Option Addr} {cs news : List (List Value)} {v : Value} (hd : dstOk n d = true)
    (hx : opv L x = some (.slice a len cap)) (hy : opv L y = some v) (ht : tslice P t = some (e, s)) (hz : zeroOk P e = true) (hB : tbytes P e = some B)
    (hi : hget H i = some (.vec a len cap e s cs)) (hs : Src m H v k s news) (hfit : (len + k) * B ≤ 140737488355328) (hlen : len + k ≤ maxLen)
    (h : ∀ a' cap', K (lput L d (.slice a' (len + k) cap')) m (hset H i (.vec a' (len + k) cap' e s (cs ++ news)))) :
    SP P n L m H ⟨d, .call ⟨.builtin .append, [x, y].toArray, [t, t].toArray⟩, ty, ps, af, gd⟩ K := by
  refine s_value hd fun ac w hf hst => ?_
  have hhold : Item.holds w (.vec a len cap e s cs) := hst.hold _ (hget_mem hi)
  obtain ⟨hown, hcl, hce⟩ := hhold
  -- the types
  unfold tslice at ht
  cases hu : P.underlying t with
  | none => simp [hu] at ht
  | some D =>
    cases D <;> simp only [hu, reduceCtorEq] at ht
    rename_i e'
    cases hinf : P.info? e' with
    | none => simp [hinf] at ht
    | some inf =>
      simp only [hinf, Option.some.injEq, Prod.mk.injEq] at ht
      obtain ⟨rfl, rfl⟩ := ht
      unfold zeroOk at hz
      simp only [hinf] at hz
      cases hzv : inf.zero with
      | none => simp [hzv] at hz
      | some z =>
        simp only [hzv, Bool.and_eq_true, beq_iff_eq, Nat.blt_eq] at hz
        have hBy : inf.bytes = B := by simpa [tbytes, hinf] using hB
        have hexec : ∀ v' w', (Builtin.append_ #[t, t] ty #[.slice a len cap, v]).run P w = .ok v' w' →
            (execOp ac.eval ⟨d, .call ⟨.builtin .append, [x, y].toArray, [t, t].toArray⟩, ty, ps, af, gd⟩).run P w = .ok (.value v') w' := by
          intro v' w' hr
          simp [execOp, resolve, invoke, builtin, hf.eval hx, hf.eval hy, hr]
        rcases hs.get with ⟨rfl, rfl⟩ | ⟨sa, c, rfl, hcell⟩
        · have hn : news = [] := List.eq_nil_of_length_eq_zero hs.len
          subst hn
          have hr := run_append_owned_none (P := P) (w := w) 0 t ty e' inf inf.size hu hinf (.slice a len cap) len cs.flatten hown
          refine ⟨_, m, _, w, hexec _ _ hr, ?_, h a cap⟩
          have hself : Item.holds w (.vec a (len + 0) cap e' inf.size (cs ++ [])) := by simpa using ⟨hown, hcl, hce⟩
          refine hst.regrow hi (w' := w) ⟨rfl, rfl, rfl, Nat.le_refl _, fun _ _ _ => rfl⟩ (fun k hk => .inl hk.symm) hself
        · have hfl : news.flatten.length = k * inf.size := by rw [length_flatten hs.each, hs.len]
          have hone : ∀ u ∈ news.flatten, u.oneCell' = true := fun u hu => by obtain ⟨l, hl, hul⟩ := List.mem_flatten.1 hu; exact hs.one l hl u hul
          have hlast : (cs ++ news).length = len + k ∧ ∀ l ∈ cs ++ news, l.length = inf.size := ⟨by rw [List.length_append, hcl, hs.len], fun l hl => by
            rcases List.mem_append.1 hl with h1 | h1
            · exact hce l h1
            · exact hs.each l h1⟩
          by_cases hroom : len + k ≤ cap
          · rcases hown.2 with ⟨hv, h0⟩ | ⟨g, cap', cur, hv, _⟩
            · cases hv
              have hk : k = 0 := by omega
              subst hk
              have hn : news = [] := List.eq_nil_of_length_eq_zero hs.len
              subst hn
              have hr : (Builtin.append_ #[t, t] ty #[.slice none 0 0, .slice (some sa) 0 c]).run P w = .ok (.slice none 0 0) w := by
                simp [Builtin.append_, run_underlying hu, sizeOf, typeInfo, hinf, Builtin.lenOf, Builtin.firstCells, loadCells, loadCellsFrom]
              refine ⟨_, m, _, w, hexec _ _ hr, ?_, h none 0⟩
              have hself : Item.holds w (.vec none 0 0 e' inf.size (cs ++ [])) := by simpa using ⟨hown, hcl, hce⟩
              exact hst.regrow hi (w' := w) ⟨rfl, rfl, rfl, Nat.le_refl _, fun _ _ _ => rfl⟩ (fun k hk => .inl hk.symm) hself
            · cases hv
              obtain ⟨w', hr, hown', hgrow⟩ := run_append_fits (P := P) w 0 t ty e' inf inf.size hu hinf rfl g len cap cs.flatten hown sa k c news.flatten hfl (hcell w hst) hone hroom
              refine ⟨_, m, _, w', hexec _ _ hr, ?_, h _ cap⟩
              exact hst.regrow hi hgrow (fun q hq => .inl hq.symm) ⟨by rw [List.flatten_append]; exact hown', hlast⟩
          · have hsrc : Go.Src P inf.size t (.slice (some sa) k c) k news.flatten w := Src.ofSlice w hu sa k c news.flatten hfl (hcell w hst) hone
            have holds : (Builtin.firstCells inf.size len (.slice a len cap)).run P w.drew = .ok cs.flatten.toArray w.drew := by
              rcases hown.2 with ⟨hv, h0⟩ | ⟨g, cap', cur, hv, _⟩
              · cases hv
                have : cs = [] := List.eq_nil_of_length_eq_zero hcl
                subst this
                exact run_firstCells_none _ _ _ _ _
              · cases hv
                refine run_firstCells_some _ _ _ _ _ _ _ (by rw [length_flatten hce, hcl]) fun j u hj => ?_
                rw [addr_add]
                have hlt : j < len * inf.size := by
                  have := (List.getElem?_eq_some_iff.1 hj).1
                  rwa [length_flatten hce, hcl] at this
                have := hown.cellAt j hlt
                simp only [Nat.zero_add]
                show w.cell? _ = _
                rw [this, hj]
            have hfit' : Builtin.nextslicecap (len + k) cap * inf.bytes ≤ 281474976710656 := growslice_fits (by omega) (by rw [hBy]; exact hfit)
            have hml : maxLen = 9223372036854775807 := rfl
            have hr := run_append_grow_src (P := P) w t t ty e' inf z hu hinf hzv a len cap cs.flatten holds _ k news.flatten hsrc (by omega) (by omega) hfit'
            refine ⟨_, m, _, _, hexec _ _ hr, ?_, h _ _⟩
            have hge := grownCap_ge w (len + k) cap e'
            have hcm := grownCap_le_maxLen w (len + k) cap e' hlen
            refine hst.regrow hi (w' := w.drew.alloc _) ⟨rfl, rfl, rfl, by simp, fun k hk _ => heap_alloc_old w.drew _ k hk⟩ (fun q hq => ?_) ⟨⟨?_, .inr ⟨w.heap.size, _, _, rfl, Nat.zero_le _, heap_alloc_new w.drew _, hge, hcm, ?_, ?_⟩⟩, hlast⟩
            · simp only [Option.map_some, Option.some.injEq] at hq
              exact .inr (by omega)
            · rw [length_flatten hlast.2, hlast.1]
            · rw [Array.size_append, size_zeroCells, hz.1, List.size_toArray, ← List.flatten_append, length_flatten hlast.2, hlast.1, ← Nat.add_mul]
              congr 1
              omega
            · rw [Array.toList_append, List.toList_toArray, ← List.flatten_append, List.take_append_of_le_length (by rw [length_flatten hlast.2, hlast.1]; exact Nat.le_refl _)]
              exact List.take_of_length_le (by rw [length_flatten hlast.2, hlast.1]; exact Nat.le_refl _)
end
end Go.Aw
namespace Go.Aw
open Go
section
variable {P : Program} {n : Nat} {Q : Post} {L : Slots} {m : Snap} {H : Hp} {ops : Array Oper} {rest : List Oper} {d : Option Tmp} {ty : TypeId} {ps : String} {af : Array Edge} {gd : Option (Nat × Bool)}
theorem vec_cell {w : World} {a : Option Addr} {len cap s : Nat} {e : TypeId} {cs : List (List Value)} (h : Item.holds w (.vec a len cap e s cs)) {k : Nat} {c : List Value} (hk : cs[k]? = some c) (_hs0 : 0 < s) :
    ∃ g, a = some ⟨g, 0, none⟩ ∧ ∀ (j : Nat) (v : Value), c[j]? = some v → w.cell? ⟨g, k * s + j, none⟩ = some v := by
  obtain ⟨hown, hl, he⟩ := h
  have hk' : k < len := by have := (List.getElem?_eq_some_iff.1 hk).1; omega
  rcases hown.2 with ⟨hv, h0⟩ | ⟨g, cap', cur, hv, _⟩
  · omega
  · cases hv
    refine ⟨g, rfl, fun j v hj => ?_⟩
    have hfl := getElem?_flatten he hk hj
    have hlt : k * s + j < len * s := by
      have := (List.getElem?_eq_some_iff.1 hfl).1
      rwa [length_flatten he, hl] at this
    rw [hown.cellAt (k * s + j) hlt, hfl]
theorem At.vec {i : Nat} {a : Option Addr} {len cap s k : Nat} {e : TypeId} {cs : List (List Value)} (hi : hget H i = some (.vec a len cap e s cs)) (hk : k < len) : At m H a := fun w hs => by
  have h : Item.holds w (.vec a len cap e s cs) := hs.hold _ (hget_mem hi)
  rcases h.1.2 with ⟨hv, h0⟩ | ⟨g, cap', cur, hv, _⟩
  · omega
  · cases hv; exact IsAt.lit
theorem At.fz {a : Option Addr} {len cap s k : Nat} {cs : List (List Value)} (h : Fz m a len cap s cs) (hk : k < len) : At m H a := fun _ _ => h.isAt hk
theorem RdS.vec {i : Nat} {a : Option Addr} {len cap s k j : Nat} {e : TypeId} {cs : List (List Value)} {c : List Value} {v : Value} (hi : hget H i = some (.vec a len cap e s cs)) (hs0 : Nat.blt 0 s = true) (hk : cs[k]? = some c) (hj : cget c j = some v) :
    RdS m H (eadd a (k * s + j)) v := fun w hs => by
  obtain ⟨g, rfl, hc⟩ := vec_cell (hs.hold _ (hget_mem hi)) hk (by simpa [Nat.blt_eq] using hs0)
  rw [cget_eq] at hj
  exact ⟨g, 0 + (k * s + j), rfl, by rw [Nat.zero_add]; exact hc j v hj⟩
theorem RdA.vec {i : Nat} {a : Option Addr} {len cap s k j l : Nat} {e : TypeId} {cs : List (List Value)} {c r : List Value} (hi : hget H i = some (.vec a len cap e s cs)) (hs0 : Nat.blt 0 s = true) (hk : cs[k]? = some c) (hj : csub c j l = some r) :
    RdA m H (eadd a (k * s + j)) l r := ⟨(csub_spec c j l r hj).1, fun w hs => by
  obtain ⟨g, rfl, hc⟩ := vec_cell (hs.hold _ (hget_mem hi)) hk (by simpa [Nat.blt_eq] using hs0)
  exact ⟨g, 0 + (k * s + j), rfl, fun q u hu => by
    rw [show 0 + (k * s + j) + q = k * s + (j + q) by omega]
    exact hc (j + q) u ((csub_spec c j l r hj).2 q u hu)⟩⟩
theorem RdA.vec0 {i : Nat} {a : Option Addr} {len cap s k : Nat} {e : TypeId} {cs : List (List Value)} {c : List Value} (hi : hget H i = some (.vec a len cap e s cs)) (hs0 : Nat.blt 0 s = true) (hk : cs[k]? = some c) (hl : c.length = s) :
    RdA m H (eadd a (k * s)) s c := ⟨hl, fun w hs => by
  obtain ⟨g, rfl, hc⟩ := vec_cell (hs.hold _ (hget_mem hi)) hk (by simpa [Nat.blt_eq] using hs0)
  exact ⟨g, 0 + k * s, rfl, fun q u hu => by
    rw [show 0 + k * s + q = k * s + q by omega]
    exact hc q u hu⟩⟩
/-- The nil slice owns no row. -/
theorem St.nilvec {w : World} (h : St m H w) (e : TypeId) (s : Nat) : St m (.vec none 0 0 e s [] :: H) w :=
  ⟨h.os, h.tape, h.output, h.frz, fun it hi => by
    rcases List.mem_cons.1 hi with rfl | hi
    · exact ⟨World.ownsRow_nil w 0 e s, rfl, fun c hc => by cases hc⟩
    · exact h.hold it hi, by simpa [owned, Item.own] using h.nodup, fun k hk => h.apart k (by simpa [owned, Item.own] using hk)⟩
theorem r_nilvec (e : TypeId) (s : Nat) {l : List Oper} (h : Run P n ops Q l L m (.vec none 0 0 e s [] :: H)) : Run P n ops Q l L m H := fun a w hf hs => h a w hf (hs.nilvec e s)
/-- A block that is a whole row is a slice's. -/
theorem St.toVec {w : World} {i b k s : Nat} {cs : List Value} {e : TypeId} {news : List (List Value)} (h : St m H w) (hi : hget H i = some (.blk b (.cells cs.toArray e (0, 0)))) (hl : news.length = k) (he : ∀ c ∈ news, c.length = s) (hf : news.flatten = cs) (hk : k ≤ maxLen) :
    St m (hset H i (.vec (some ⟨b, 0, none⟩) k k e s news)) w := by
  have hp := (hget_perm hi).1
  have h2 := h.perm hp
  refine St.perm (H := .vec (some ⟨b, 0, none⟩) k k e s news :: hdel H i) ?_ ((hget_perm hi).2 _)
  have hb : w.heap[b]? = some (.cells cs.toArray e (0, 0)) := h.hold _ (hget_mem hi)
  have hown : owned (.vec (some ⟨b, 0, none⟩) k k e s news :: hdel H i) = owned (.blk b (.cells cs.toArray e (0, 0)) :: hdel H i) := by simp [owned, Item.own]
  refine ⟨h2.os, h2.tape, h2.output, h2.frz, fun it hit => ?_, by rw [hown]; exact h2.nodup, by rw [hown]; exact h2.apart⟩
  rcases List.mem_cons.1 hit with rfl | hit
  · have hlen := length_flatten he
    refine ⟨⟨by rw [hlen, hl], .inr ⟨b, k, cs.toArray, rfl, Nat.zero_le _, hb, Nat.le_refl _, hk, ?_, ?_⟩⟩, hl, he⟩
    · rw [List.size_toArray, ← hf, hlen, hl]
    · rw [List.toList_toArray, hf]; exact List.take_of_length_le (by rw [← hf, hlen, hl]; exact Nat.le_refl _)
  · exact h2.hold it (List.mem_cons_of_mem _ hit)
/-- A slice's row is given up: from now on it stays as it is. -/
theorem St.freezeVec {w : World} {i len cap s : Nat} {a : Option Addr} {e : TypeId} {cs : List (List Value)} (h : St m H w) (hi : hget H i = some (.vec a len cap e s cs)) (_hs0 : 0 < s) :
    ∃ m', m.le m' ∧ St m' (hdel H i) w ∧ Fz m' a len cap s cs ∧ (a = none → cap = 0) := by
  have hp := (hget_perm hi).1
  have h2 := h.perm hp
  have hh : Item.holds w (.vec a len cap e s cs) := h.hold _ (hget_mem hi)
  obtain ⟨hown, hl, he⟩ := hh
  rcases hown.2 with ⟨hv, h0⟩ | ⟨g, cap', cur, hv, _, hg, hle, hcm, hsz, htake⟩
  · cases hv
    have : cs = [] := List.eq_nil_of_length_eq_zero hl
    subst this
    exact ⟨m, Snap.le.refl m, h2.tail, ⟨rfl, fun c hc => (by cases hc), Nat.le_refl _, Nat.zero_le _, fun k c hk => (by simp at hk)⟩, fun _ => rfl⟩
  · cases hv
    have hblk : St m (.blk g (.cells cur e (0, 0)) :: hdel H i) w := by
      have ho : owned (.blk g (.cells cur e (0, 0)) :: hdel H i) = owned (.vec (some ⟨g, 0, none⟩) len cap e s cs :: hdel H i) := by simp [owned, Item.own]
      refine ⟨h2.os, h2.tape, h2.output, h2.frz, fun it hit => ?_, by rw [ho]; exact h2.nodup, by rw [ho]; exact h2.apart⟩
      rcases List.mem_cons.1 hit with rfl | hit
      · exact hg
      · exact h2.hold it (List.mem_cons_of_mem _ hit)
    obtain ⟨hle', hst⟩ := hblk.freeze
    refine ⟨_, hle', hst, ⟨hl, he, hle, hcm, fun k c hk => ⟨g, 0, rfl, fun j v hj => ?_⟩⟩, fun h => by cases h⟩
    have hfl := getElem?_flatten he hk hj
    simp only [Snap.cell, Snap.add, if_pos, Nat.zero_add]
    rw [← htake, List.getElem?_take] at hfl
    split at hfl
    · simpa using hfl
    · cases hfl
theorem r_freezeVec {i len cap s : Nat} {a : Option Addr} {e : TypeId} {cs : List (List Value)} {l : List Oper} (hi : hget H i = some (.vec a len cap e s cs)) (hs0 : Nat.blt 0 s = true)
    (h : ∀ m', m.le m' → Fz m' a len cap s cs → (a = none → cap = 0) → Run P n ops Q l L m' (hdel H i)) : Run P n ops Q l L m H := fun ac w hf hs => by
  obtain ⟨m', h1, h2, h3, h4⟩ := hs.freezeVec hi (by simpa [Nat.blt_eq] using hs0)
  exact h m' h1 h3 h4 ac w hf h2
/-- Where a slice of a slice begins. -/
def sadd (a : Option Addr) (l size m : Nat) : Option Addr := if m = l then a else a.map (·.add (l * size))
theorem Fz.slice {a : Option Addr} {len cap s lo hi : Nat} {cs : List (List Value)} (h : Fz m a len cap s cs) (h1 : lo ≤ hi) (h2 : hi ≤ len) : Fz m (sadd a lo s cap) (hi - lo) (cap - lo) s ((cs.drop lo).take (hi - lo)) := by
  have hle := h.le
  have hmx := h.max
  have hl := h.len
  refine ⟨by simp only [List.length_take, List.length_drop]; omega, fun c hc => h.each c (List.mem_of_mem_drop (List.mem_of_mem_take hc)), by omega, by omega, fun k c hk => ?_⟩
  have hk2 : k < hi - lo ∧ cs[lo + k]? = some c := by
    rw [List.getElem?_take] at hk
    split at hk
    · rename_i hlt; rw [List.getElem?_drop] at hk; exact ⟨hlt, hk⟩
    · cases hk
  obtain ⟨g, o, rfl, hv⟩ := h.get (lo + k) c hk2.2
  unfold sadd
  rw [if_neg (by omega)]
  refine ⟨g, o + lo * s, by simp [addr_add], fun j v hj => ?_⟩
  have := hv j v hj
  rw [Nat.add_mul] at this
  rw [show o + lo * s + (k * s + j) = o + (lo * s + k * s + j) by omega]
  exact this
/-- A bound of a slice expression: an int, or none. -/
def bnd (L : Slots) : Option Operand → Nat → Nat → Prop
  | none, d, x => x = d
  | some o, _, x => ∃ kd, opv L o = some (.int kd (x : Int))
theorem bnd_none {d : Nat} : bnd L none d d := rfl
theorem bnd_some {o : Operand} {d x : Nat} {kd : IntKind} (h : opv L o = some (.int kd (x : Int))) : bnd L (some o) d x := ⟨kd, h⟩
theorem run_sliceBounds {P : Program} {ac : Act} (hf : Fr n ac L) {len cap lo hi : Nat} {o1 o2 : Option Operand} {b : Bool} (h1 : bnd L o1 0 lo) (h2 : bnd L o2 len hi) (hlh : lo ≤ hi) (hc : hi ≤ cap) (w : World) :
    (Instr.sliceBounds b len cap (o1.map ac.eval) (o2.map ac.eval) none).run P w = .ok (lo, hi, cap) w := by
  have hsb : ∀ (kd : IntKind) (x y : Nat) (code : BoundsCode), x ≤ y → (Instr.sliceBound (.int kd (x : Int)) y code).run P w = .ok x w := by
    intro kd x y code hxy
    simp [Instr.sliceBound, asIntOf, hxy]
  unfold Instr.sliceBounds
  cases o1 with
  | none =>
    simp only [bnd] at h1
    subst h1
    cases o2 with
    | none => simp only [bnd] at h2; subst h2; simp
    | some o =>
      obtain ⟨kd, h2⟩ := h2
      simp only [Option.map_some, Option.map_none, hf.eval h2]
      simp [hsb, hc]
  | some o' =>
    obtain ⟨kd', h1⟩ := h1
    cases o2 with
    | none =>
      simp only [bnd] at h2
      subst h2
      simp only [Option.map_some, Option.map_none, hf.eval h1]
      simp [hsb, hlh]
    | some o =>
      obtain ⟨kd, h2⟩ := h2
      simp only [Option.map_some, hf.eval h1, hf.eval h2]
      simp [hsb, hlh, hc]
theorem y_slice {t e : TypeId} {x : Operand} {o1 o2 : Option Operand} {a : Option Addr} {len cap s lo hi : Nat} (hx : opv L x = some (.slice a len cap)) (ht : tslice P t = some (e, s)) (h1 : bnd L o1 0 lo) (h2 : bnd L o2 len hi) (hlh : lo ≤ hi) (hc : hi ≤ cap) :
    Yl P n L m H ⟨d, .slice t x o1 o2 none, ty, ps, af, gd⟩ (.slice (sadd a lo s cap) (hi - lo) (cap - lo)) := by
  intro ac hf w _
  unfold tslice at ht
  simp only [execOp, hf.eval hx, Instr.sliceAt]
  cases hu : P.underlying t with
  | none => simp [hu] at ht
  | some D =>
    cases D <;> simp only [hu, reduceCtorEq] at ht
    rename_i e'
    cases hi' : P.info? e' with
    | none => simp [hi'] at ht
    | some i =>
      simp only [hi', Option.some.injEq, Prod.mk.injEq] at ht
      obtain ⟨rfl, rfl⟩ := ht
      simp [run_underlying hu, Instr.slice, run_sliceBounds hf h1 h2 hlh hc, sizeOf, typeInfo, hi', sadd]
/-- One of several results. -/
def rvSem (tmps : Array Value) (r : ResultVar) : Sem Value := match r with
  | .tmp t => pure (tmps.getD t undef)
  | .cell c t => do loadVar t (← asAddr (tmps.getD c undef))
theorem results_eq (fn : Func) (tmps : Array Value) : results fn tmps = (do
    let vs ← fn.results.mapM (rvSem tmps)
    pure (if h : vs.size = 1 then vs[0] else .tuple vs)) := rfl
def R1 (P : Program) (r : ResultVar) (L : Slots) (m : Snap) (H : Hp) (v : Value) : Prop :=
  ∀ (n : Nat) (a : Act) (w : World), Fr n a L → St m H w → (rvSem a.tmps r).run P w = .ok v w
theorem r1_tmp {t : Tmp} {v : Value} (h : look L t = some v) : R1 P (.tmp t) L m H v := fun _ a w hf _ => by
  have := hf.get t v h
  simp [rvSem, this]
theorem r1_cell_a {t : Tmp} {T : TypeId} {s : Nat} {a : Option Addr} {cs : List Value} (hx : look L t = some (.pointer a)) (hT : tshape P T = some (true, s)) (hr : RdA m H a s cs) :
    R1 P (.cell t T) L m H (.agg cs.toArray) := fun _ ac w hf hs => by
  obtain ⟨hl, hr⟩ := hr
  obtain ⟨g, o, rfl, hc⟩ := hr w hs
  have := hf.get t _ hx
  simp [rvSem, this, asAddr, run_loadVar_a hT hl hc]
theorem res2 {r1 r2 : ResultVar} {v1 v2 : Value} (h1 : R1 P r1 L m H v1) (h2 : R1 P r2 L m H v2) : Res P [r1, r2] L m H (.tuple [v1, v2].toArray) := fun n a w fn hr hf hs => by
  rw [results_eq, hr]
  simp [h1 n a w hf hs, h2 n a w hf hs]
theorem res3 {r1 r2 r3 : ResultVar} {v1 v2 v3 : Value} (h1 : R1 P r1 L m H v1) (h2 : R1 P r2 L m H v2) (h3 : R1 P r3 L m H v3) : Res P [r1, r2, r3] L m H (.tuple [v1, v2, v3].toArray) := fun n a w fn hr hf hs => by
  rw [results_eq, hr]
  simp [h1 n a w hf hs, h2 n a w hf hs, h3 n a w hf hs]
theorem y_makeFunc {fn : Go.Fn} {cp : List Operand} {vs : List Value} (hc : opvs L cp = some vs) : Yl P n L m H ⟨d, .makeFunc fn [].toArray cp.toArray, ty, ps, af, gd⟩ (.func fn [].toArray vs.toArray) := fun ac hf w _ => by
  have : cp.toArray.map ac.eval = vs.toArray := by rw [List.map_toArray, hf.evals hc]
  simp only [execOp]
  rw [this]
  simp [Instr.makeFunc]
end
end Go.Aw
namespace Go.Aw
open Go
/-- The integers are equal, cell by cell. -/
def ceq : List Value → List Value → Bool
  | [], [] => true
  | .int _ a :: xs, .int _ b :: ys => (a == b) && ceq xs ys
  | _, _ => false
/-- Rows of integers of the same kinds. -/
def alike : List Value → List Value → Prop
  | [], [] => True
  | .int k _ :: xs, .int k' _ :: ys => k = k' ∧ alike xs ys
  | _, _ => False
theorem alike_len : ∀ {xs ys : List Value}, alike xs ys → xs.length = ys.length
  | [], [], _ => rfl
  | .int _ _ :: xs, .int _ _ :: ys, h => by simp only [alike] at h; simp [alike_len h.2]
theorem alike_drop : ∀ {xs ys : List Value} (n : Nat), alike xs ys → alike (xs.drop n) (ys.drop n)
  | [], [], n, _ => by simp [alike]
  | .int _ _ :: xs, .int _ _ :: ys, 0, h => h
  | .int _ _ :: xs, .int _ _ :: ys, n + 1, h => by simp only [alike] at h; simpa using alike_drop n h.2
theorem alike_take : ∀ {xs ys : List Value} (n : Nat), alike xs ys → alike (xs.take n) (ys.take n)
  | [], [], n, _ => by simp [alike]
  | .int _ _ :: xs, .int _ _ :: ys, 0, h => by simp [alike]
  | .int _ _ :: xs, .int _ _ :: ys, n + 1, h => by simp only [alike] at h; simpa [alike] using ⟨h.1, alike_take n h.2⟩
theorem ceq_split : ∀ {xs ys : List Value} (n : Nat), alike xs ys → ceq xs ys = (ceq (xs.take n) (ys.take n) && ceq (xs.drop n) (ys.drop n))
  | [], [], n, _ => by simp [ceq]
  | .int _ a :: xs, .int _ b :: ys, 0, h => by simp [ceq]
  | .int _ a :: xs, .int _ b :: ys, n + 1, h => by
    simp only [alike] at h
    simp only [ceq, List.take_succ_cons, List.drop_succ_cons]
    rw [ceq_split n h.2, Bool.and_assoc]
def eqFs (P : Program) (rec : TypeId → Option Nat) : List Field → Nat → Option Nat
  | [], off => some off
  | f :: fs, off => if f.name ≠ "_" ∧ f.offset = off then match rec f.type with
    | some k => if P.cellsOf f.type = k then eqFs P rec fs (off + k) else none
    | none => none
    else none
/-- A type of integers alone, and of how many. -/
def eqN (P : Program) : Nat → TypeId → Option Nat
  | 0, _ => none
  | d + 1, t => match P.underlying t with
    | some (.int _) => some 1
    | some (.struct fs) => if P.stoodInHeld t then none else eqFs P (eqN P d) fs.toList 0
    | some (.array n e) => match eqN P d e with
      | some k => if P.cellsOf e = k then some (n * k) else none
      | none => none
    | _ => none
/-- A value of a type, as cells. -/
def asV (P : Program) (t : TypeId) (xs : List Value) (v : Value) : Prop := match P.underlying t with
  | some (.struct _) | some (.array _ _) => v = .agg xs.toArray
  | _ => xs = [v]
def EqOk (P : Program) (D : Nat) (t : TypeId) (k : Nat) : Prop := ∀ (w : World) (xs ys : List Value) (x y : Value), xs.length = k → alike xs ys → asV P t xs x → asV P t ys y → (Op.equalIn D t x y).run P w = .ok (ceq xs ys) w
theorem part_asV {P : Program} {w : World} {e : TypeId} {k off : Nat} {xs : List Value} (hc : P.cellsOf e = k) (hu : (P.underlying e).isSome = true) (hk : (match P.underlying e with | some (.struct _) | some (.array _ _) => True | _ => k = 1)) (hl : off + k ≤ xs.length) :
    ∃ v, (part e xs.toArray off).run P w = .ok v w ∧ asV P e ((xs.drop off).take k) v := by
  obtain ⟨D, hD⟩ := Option.isSome_iff_exists.1 hu
  obtain ⟨i, hi⟩ := info_of_underlying hD
  have hsz := run_sizeOf (P := P) w hi
  rw [hc] at hsz
  have agg : (∃ fs, D = .struct fs) ∨ (∃ n e', D = .array n e') → ∃ v, (part e xs.toArray off).run P w = .ok v w ∧ asV P e ((xs.drop off).take k) v := by
    intro h
    refine ⟨.agg ((xs.drop off).take k).toArray, ?_, ?_⟩
    · rcases h with ⟨fs, rfl⟩ | ⟨n, e', rfl⟩ <;> simp [part, isAgg, run_underlying hD, hsz]
    · rcases h with ⟨fs, rfl⟩ | ⟨n, e', rfl⟩ <;> simp [asV, hD]
  have one : (isAgg e).run P w = .ok false w → k = 1 → (∀ v, asV P e [v] v) → ∃ v, (part e xs.toArray off).run P w = .ok v w ∧ asV P e ((xs.drop off).take k) v := by
    intro h1 h2 h3
    subst h2
    have hlt : off < xs.length := by omega
    refine ⟨xs[off], ?_, ?_⟩
    · simp [part, h1, hlt]
    · have : (xs.drop off).take 1 = [xs[off]] := by rw [List.drop_eq_getElem_cons hlt]; rfl
      rw [this]; exact h3 _
  cases D with
  | struct fs => exact agg (.inl ⟨fs, rfl⟩)
  | array n e' => exact agg (.inr ⟨n, e', rfl⟩)
  | _ => exact one (by simp [isAgg, run_underlying hD]) (by simpa [hD] using hk) (fun v => by simp [asV, hD])
theorem eqN_some {P : Program} {d : Nat} {t : TypeId} {k : Nat} (h : eqN P d t = some k) : (P.underlying t).isSome = true ∧ (match P.underlying t with | some (.struct _) | some (.array _ _) => True | _ => k = 1) := by
  cases d with
  | zero => simp [eqN] at h
  | succ d =>
    unfold eqN at h
    cases hu : P.underlying t with
    | none => simp [hu] at h
    | some D => cases D <;> simp_all
theorem run_eqFs {P : Program} {D : Nat} {rec : TypeId → Option Nat} (ih : ∀ t k, rec t = some k → EqOk P D t k ∧ (P.underlying t).isSome = true ∧ (match P.underlying t with | some (.struct _) | some (.array _ _) => True | _ => k = 1)) (w : World) (xs ys : List Value) (hal : alike xs ys) :
    ∀ (fs : List Field) (off tot : Nat), eqFs P rec fs off = some tot → xs.length = tot → (Op.eqFields D xs.toArray ys.toArray fs).run P w = .ok (ceq (xs.drop off) (ys.drop off)) w ∧ off ≤ tot
  | [], off, tot, h, hl => by
    simp only [eqFs, Option.some.injEq] at h
    subst h
    have hl2 := alike_len hal
    refine ⟨?_, Nat.le_refl _⟩
    rw [List.drop_eq_nil_of_le (by omega), List.drop_eq_nil_of_le (by omega)]
    simp [Op.eqFields, ceq]
  | f :: fs, off, tot, h, hl => by
    simp only [eqFs] at h
    split at h
    · rename_i hno
      split at h
      · rename_i k hk
        split at h
        · rename_i hc
          obtain ⟨hE, hus, hk1⟩ := ih f.type k hk
          obtain ⟨hr, hle⟩ := run_eqFs ih w xs ys hal fs (off + k) tot h hl
          have hl2 := alike_len hal
          obtain ⟨a, ha, hva⟩ := part_asV (P := P) (w := w) (off := off) (xs := xs) hc hus hk1 (by omega)
          obtain ⟨b, hb, hvb⟩ := part_asV (P := P) (w := w) (off := off) (xs := ys) hc hus hk1 (by omega)
          have he := hE w ((xs.drop off).take k) ((ys.drop off).take k) a b (by simp; omega) (alike_take k (alike_drop off hal)) hva hvb
          refine ⟨?_, by omega⟩
          rw [ceq_split k (alike_drop off hal), List.drop_drop, List.drop_drop]
          simp only [Op.eqFields, hno.1, ne_eq, not_false_eq_true, if_true, hno.2, Sem.run_bind, ha, hb, he, Result.andThen_ok]
          cases hq : ceq ((xs.drop off).take k) ((ys.drop off).take k) with
          | false => simp
          | true => simpa using hr
        · cases h
      · cases h
    · cases h
theorem run_eqIt {P : Program} {D : Nat} {e : TypeId} {k : Nat} (hE : EqOk P D e k) (hc : P.cellsOf e = k) (hus : (P.underlying e).isSome = true) (hk1 : match P.underlying e with | some (.struct _) | some (.array _ _) => True | _ => k = 1) (w : World) (xs ys : List Value) (hal : alike xs ys) :
    ∀ (n i : Nat), xs.length = (i + n) * k → (Op.eqItems D e k xs.toArray ys.toArray (List.range' i n)).run P w = .ok (ceq (xs.drop (i * k)) (ys.drop (i * k))) w
  | 0, i, hl => by
    have hl2 := alike_len hal
    simp only [Nat.add_zero] at hl
    rw [List.drop_eq_nil_of_le (by omega), List.drop_eq_nil_of_le (by omega)]
    simp [Op.eqItems, ceq]
  | n + 1, i, hl => by
    have hl2 := alike_len hal
    have hle : i * k + k ≤ xs.length := by
      rw [hl, Nat.add_mul, Nat.add_mul, Nat.one_mul]; omega
    obtain ⟨a, ha, hva⟩ := part_asV (P := P) (w := w) (off := i * k) (xs := xs) hc hus hk1 hle
    obtain ⟨b, hb, hvb⟩ := part_asV (P := P) (w := w) (off := i * k) (xs := ys) hc hus hk1 (by omega)
    have he := hE w ((xs.drop (i * k)).take k) ((ys.drop (i * k)).take k) a b (by simp; omega) (alike_take k (alike_drop _ hal)) hva hvb
    have hr := run_eqIt hE hc hus hk1 w xs ys hal n (i + 1) (by rw [hl]; congr 1; omega)
    rw [List.range'_succ, ceq_split k (alike_drop (i * k) hal), List.drop_drop, List.drop_drop]
    rw [show i * k + k = (i + 1) * k by rw [Nat.add_mul, Nat.one_mul]]
    simp only [Op.eqItems, Sem.run_bind, ha, hb, he, Result.andThen_ok]
    cases hq : ceq ((xs.drop (i * k)).take k) ((ys.drop (i * k)).take k) with
    | false => simp
    | true => simpa using hr
theorem eqN_spec {P : Program} : ∀ (d : Nat) (t : TypeId) (k : Nat), eqN P d t = some k → ∀ D, d ≤ D → EqOk P D t k
  | 0, _, _, h, _, _ => by simp [eqN] at h
  | d + 1, t, k, h, 0, hD => by omega
  | d + 1, t, k, h, D + 1, hD => by
    intro w xs ys x y hl hal hx hy
    unfold eqN at h
    cases hu : P.underlying t with
    | none => simp [hu] at h
    | some T =>
      cases T <;> simp only [hu, reduceCtorEq] at h
      case int kd =>
        cases h
        simp only [asV, hu] at hx hy
        subst hx; subst hy
        cases x <;> cases y <;> simp only [alike] at hal
        rename_i k1 a k2 b
        obtain ⟨rfl, _⟩ := hal
        rw [run_equalIn_int w D t k1 kd a b hu]
        simp [ceq]
      case struct fs =>
        split at h
        · cases h
        · rename_i hst
          simp only [asV, hu] at hx hy
          subst hx; subst hy
          have hfs : P.fieldsOf t = fs := by simp [Program.fieldsOf, hu]
          rw [run_equalIn_struct w D t _ _ (by rw [hfs]; exact hu) (by simpa using hst), hfs]
          have := (run_eqFs (P := P) (D := D) (rec := eqN P d) (fun t' k' h' => ⟨eqN_spec d t' k' h' D (by omega), eqN_some h'⟩) w xs ys hal fs.toList 0 k h hl).1
          simpa using this
      case array n e =>
        split at h
        · rename_i k' hk'
          split at h
          · rename_i hc
            cases h
            simp only [asV, hu] at hx hy
            subst hx; subst hy
            obtain ⟨hus, hk1⟩ := eqN_some hk'
            obtain ⟨ee, hee⟩ := Option.isSome_iff_exists.1 hus
            obtain ⟨i, hi⟩ := info_of_underlying hee
            have := run_eqIt (P := P) (D := D) (eqN_spec d e k' hk' D (by omega)) hc hus hk1 w xs ys hal n 0 (by rw [hl]; simp)
            rw [run_equalIn_array w D _ _ hu hi, hc, List.range_eq_range']
            simpa using this
          · cases h
        · cases h
section
variable {P : Program} {n : Nat} {Q : Post} {L : Slots} {m : Snap} {H : Hp} {ops : Array Oper} {rest : List Oper} {d : Option Tmp} {ty : TypeId} {ps : String} {af : Array Edge} {gd : Option (Nat × Bool)}
def isAggT (P : Program) (t : TypeId) : Bool := match P.underlying t with
  | some (.struct _) | some (.array _ _) => true
  | _ => false
theorem y_eqagg {t t' : TypeId} {x y : Operand} {xs ys : List Value} {k dd : Nat} (hx : opv L x = some (.agg xs.toArray)) (hy : opv L y = some (.agg ys.toArray)) (hk : eqN P dd t = some k) (hag : isAggT P t = true) (hdd : Nat.ble dd 10000 = true) (hm : P.eqGuardType P.depth t = false)
    (hl : xs.length = k) (hal : alike xs ys) : Yl P n L m H ⟨d, .binOp .eql t x y t', ty, ps, af, gd⟩ (.bool (ceq xs ys)) := fun ac hf w _ => by
  have hv : ∀ zs : List Value, asV P t zs (.agg zs.toArray) := fun zs => by
    unfold isAggT at hag
    unfold asV
    cases hu : P.underlying t with
    | none => simp [hu] at hag
    | some T => cases T <;> simp_all
  have := eqN_spec dd t k hk 10000 (Nat.le_of_ble_eq_true hdd) w xs ys _ _ hl hal (hv xs) (hv ys)
  simp only [execOp, hf.eval hx, hf.eval hy, Sem.run_bind, run_eqGuard_agg (P := P) w .eql t x y xs.toArray ys.toArray hm, Result.andThen_ok, run_eql_struct, this]
  rfl
theorem y_neagg {t t' : TypeId} {x y : Operand} {xs ys : List Value} {k dd : Nat} (hx : opv L x = some (.agg xs.toArray)) (hy : opv L y = some (.agg ys.toArray)) (hk : eqN P dd t = some k) (hag : isAggT P t = true) (hdd : Nat.ble dd 10000 = true) (hm : P.eqGuardType P.depth t = false)
    (hl : xs.length = k) (hal : alike xs ys) : Yl P n L m H ⟨d, .binOp .neq t x y t', ty, ps, af, gd⟩ (.bool (!ceq xs ys)) := fun ac hf w _ => by
  have hv : ∀ zs : List Value, asV P t zs (.agg zs.toArray) := fun zs => by
    unfold isAggT at hag
    unfold asV
    cases hu : P.underlying t with
    | none => simp [hu] at hag
    | some T => cases T <;> simp_all
  have := eqN_spec dd t k hk 10000 (Nat.le_of_ble_eq_true hdd) w xs ys _ _ hl hal (hv xs) (hv ys)
  simp only [execOp, hf.eval hx, hf.eval hy, Sem.run_bind, run_eqGuard_agg (P := P) w .neq t x y xs.toArray ys.toArray hm, Result.andThen_ok, run_neq_struct, this]
  rfl
/-- min, max of integers. -/
theorem y_min3 {t : TypeId} {ts : Array TypeId} {x y z : Operand} {k : IntKind} {a b c : Int} (hx : opv L x = some (.int k a)) (hy : opv L y = some (.int k b)) (hz : opv L z = some (.int k c)) :
    Yl P n L m H ⟨d, .call ⟨.builtin .min, [x, y, z].toArray, ts⟩, t, ps, af, gd⟩ (.int k (min a (min b c))) := fun ac hf w _ => by
  simp only [execOp, resolve, invoke, builtin, List.map_toArray, List.map_cons, List.map_nil, hf.eval hx, hf.eval hy, hf.eval hz, Builtin.min_]
  simp only [Sem.run_bind, Sem.run_pure, Result.andThen_ok, List.foldlM_cons, List.foldlM_nil, Builtin.min2]
  have e : (if c < (if b < a then b else a) then c else (if b < a then b else a)) = min a (min b c) := by
    by_cases h1 : b < a
    · rw [if_pos h1]
      by_cases h2 : c < b
      · rw [if_pos h2]; omega
      · rw [if_neg h2]; omega
    · rw [if_neg h1]
      by_cases h2 : c < a
      · rw [if_pos h2]; omega
      · rw [if_neg h2]; omega
  rw [e]
end
end Go.Aw
namespace Go.Aw
open Go
theorem St.freezeAt {m : Snap} {H : Hp} {w : World} {i b : Nat} {cs : List Value} {T : TypeId} {fz : Nat × Nat} (h : St m H w) (hi : hget H i = some (.blk b (.cells cs.toArray T fz))) :
    ∃ m', m.le m' ∧ St m' (hdel H i) w ∧ ∀ (j : Nat) (v : Value), cs[j]? = some v → m'.cell b j = some v := by
  have h2 := h.perm (hget_perm hi).1
  obtain ⟨h3, h4⟩ := h2.freeze
  exact ⟨_, h3, h4, fun j v hj => by simpa [Snap.cell, Snap.add] using hj⟩
section
variable {P : Program} {n : Nat} {Q : Post} {L : Slots} {m m0 : Snap} {H X : Hp} {ops : Array Oper} {rest : List Oper} {d : Option Tmp} {ty : TypeId} {ps : String} {af : Array Edge} {gd : Option (Nat × Bool)} {fuel : Nat} {listed : Array Bool}
theorem r_freeze {l : List Oper} {i b : Nat} {cs : List Value} {T : TypeId} {fz : Nat × Nat} (hi : hget H i = some (.blk b (.cells cs.toArray T fz)))
    (h : ∀ m', m.le m' → (∀ (j : Nat) (v : Value), cs[j]? = some v → m'.cell b j = some v) → Run P n ops Q l L m' (hdel H i)) : Run P n ops Q l L m H := fun a w hf hs => by
  obtain ⟨m', h1, h2, h3⟩ := hs.freezeAt hi
  exact h m' h1 h3 a w hf h2
theorem g_freeze {S : World → Prop} {i b : Nat} {cs : List Value} {T : TypeId} {fz : Nat × Nat} (hi : hget H i = some (.blk b (.cells cs.toArray T fz)))
    (h : ∀ m', m.le m' → (∀ (j : Nat) (v : Value), cs[j]? = some v → m'.cell b j = some v) → AG P n ops Q S fuel listed L m' (hdel H i)) : AG P n ops Q S fuel listed L m H := fun a w hf hs => by
  obtain ⟨m', h1, h2, h3⟩ := hs.freezeAt hi
  exact h m' h1 h3 a w hf h2
theorem r_del {l : List Oper} (i : Nat) {it : Item} (hi : hget H i = some it) (h : Run P n ops Q l L m (hdel H i)) : Run P n ops Q l L m H := fun a w hf hs => h a w hf (hs.del hi)
theorem y_dec {t t' : TypeId} {x : Operand} {a : Nat} (hx : opv L x = some (.int .i64 (a : Int))) (h1 : 0 < a) (hb : a ≤ 9223372036854775807) :
    Yl P n L m H ⟨d, .binOp .sub t x (.const (.int .i64 1)) t', ty, ps, af, gd⟩ (.int .i64 ((a - 1 : Nat) : Int)) :=
  y_iop hx rfl (by
    show some (Value.int .i64 (IntKind.i64.wrap ((a : Int) - 1))) = _
    rw [show ((a : Int) - 1) = ((a - 1 : Nat) : Int) by omega, wrap_nat (by omega) rfl])
/-- The whole of an array behind a pointer, as a slice. -/
theorem y_slice_arr {t : TypeId} {x : Operand} {len s : Nat} {b : Bool} {g o : Nat} (hx : opv L x = some (.pointer (some ⟨g, o, none⟩))) (ht : tarray P t = some (len, b, s)) :
    Yl P n L m H ⟨d, .slice t x none none none, ty, ps, af, gd⟩ (.slice (some ⟨g, o, none⟩) len len) := by
  intro ac hf w _
  obtain ⟨e, i, hu, _, hq, hs⟩ := tarray_spec ht
  simp only [execOp, hf.eval hx, Instr.sliceAt, Option.map_none]
  have hsb : (Instr.sliceBounds false len len none none none).run P w = .ok (0, len, len) w := rfl
  by_cases hl : len = 0
  · subst hl
    simp [run_underlying hu, Instr.sureAddr, hsb, sizeOf, typeInfo, hq]
  · have : ¬ len = 0 := hl
    simp [run_underlying hu, Instr.sureAddr, hsb, sizeOf, typeInfo, hq, this, Addr.add]
end
theorem Fz.of_cells {m : Snap} {b n s : Nat} {cs : List Value} {ch : List (List Value)} (hc : ∀ (j : Nat) (v : Value), cs[j]? = some v → m.cell b j = some v) (hl : ch.length = n) (he : ∀ c ∈ ch, c.length = s) (hf : ch.flatten = cs) (hn : n ≤ maxLen) :
    Fz m (some ⟨b, 0, none⟩) n n s ch :=
  ⟨hl, he, Nat.le_refl _, hn, fun k c hk => ⟨b, 0, rfl, fun j v hj => by
    rw [Nat.zero_add]
    exact hc _ v (hf ▸ getElem?_flatten he hk hj)⟩⟩
end Go.Aw
namespace Go.Aw
open Go
theorem St.front {m : Snap} {H : Hp} {w : World} {i : Nat} {it : Item} (h : St m H w) (hi : hget H i = some it) : St m (it :: hdel H i) w := h.perm (hget_perm hi).1
def bv (c : UInt8) : Value := .int .u8 (c.toNat : Int)
theorem wrap_u64_i (n : Int) : IntKind.u64.wrap n = ((BitVec.ofInt 64 n).toNat : Int) := by
  simp only [IntKind.wrap, IntKind.bits, IntKind.signed, BitVec.toNat_ofInt]
  simp
  omega
section
variable {P : Program} {n : Nat} {Q : Post} {L : Slots} {m m0 : Snap} {H X : Hp} {ops : Array Oper} {rest : List Oper} {d : Option Tmp} {ty : TypeId} {ps : String} {af : Array Edge} {gd : Option (Nat × Bool)} {fuel : Nat} {listed : Array Bool}
theorem r_front {l : List Oper} (i : Nat) {it : Item} (hi : hget H i = some it) (h : Run P n ops Q l L m (it :: hdel H i)) : Run P n ops Q l L m H := fun a w hf hs => h a w hf (hs.front hi)
theorem g_del {S : World → Prop} (i : Nat) {it : Item} (hi : hget H i = some it) (h : AG P n ops Q S fuel listed L m (hdel H i)) : AG P n ops Q S fuel listed L m H := fun a w hf hs => h a w hf (hs.del hi)
end
end Go.Aw
