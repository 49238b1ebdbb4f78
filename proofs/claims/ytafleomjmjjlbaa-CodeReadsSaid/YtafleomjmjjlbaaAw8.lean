/- Regions that draw their order: a game of all orders, in which what only reads may be taken at once. -/
import Derived.Test.YtafleomjmjjlbaaAw7
import Derived.OrdersHeld
namespace Go.Aw
open Go

def NP (Q : Exit → Act → World → Prop) : Exit → Act → World → Prop
  | .panic _, _, _ => False
  | e, a, w => Q e a w

theorem NP.imp {Q : Exit → Act → World → Prop} : ∀ (e : Exit) (a : Act) (w : World), NP Q e a w → Q e a w := fun e a w h => by
  cases e <;> first | exact h | exact (h : False).elim

/-- The worlds in which the frozen memory and these items are as they were. -/
def Cls (m : Snap) (X : Hp) (w : World) : Prop := ∃ m' H', m.le m' ∧ (∀ it ∈ X, it ∈ H') ∧ St m' H' w

def AG (P : Program) (n : Nat) (ops : Array Oper) (Q : Post) (S : World → Prop) (fuel : Nat) (listed : Array Bool) (L : Slots) (m : Snap) (H : Hp) : Prop :=
  ∀ a w, Fr n a L → St m H w → wpAnyH P .any ops (NP (Lift n Q)) S fuel listed a w

section
variable {P : Program} {n : Nat} {Q : Post} {L : Slots} {m m0 : Snap} {H X : Hp} {ops : Array Oper} {fuel : Nat} {listed listed' : Array Bool}

theorem c_draw {id : Nat} {l : List Oper} (X : Hp) (hm : P.follows .mixedOrders = true) (h : m.le m → AG P n l.toArray Q (Cls m X) l.length (Array.replicate l.length false) L m H) : RunC P n (.region id l.toArray true) Q L m H := by
  intro a w hf hs
  refine Code.wp_mono NP.imp ?_
  refine wp_region_held (S := Cls m X) hm ?_
  have := h (Snap.le.refl m) a { w with drawn := w.drawn + 1 } hf (hs.drawn _)
  simpa using this

theorem alln {H : Hp} : ∀ it ∈ ([] : Hp), it ∈ H := fun _ h => by cases h
theorem allc {H X : Hp} {a : Item} (h : a ∈ H) (hr : ∀ it ∈ X, it ∈ H) : ∀ it ∈ a :: X, it ∈ H := fun it hi => by
  rcases List.mem_cons.1 hi with rfl | hi
  · exact h
  · exact hr it hi

/-- One that only reads is taken at once. -/
theorem g_y {i : Nat} {o : Oper} {v : Value} (ho : ops[i]? = some o) (hns : Region.noSelect ops = true) (hf : Region.free .any ops listed i = true) (hr : (Region.ready .any ops listed).contains i = true) (hl : listed.setIfInBounds i true = listed')
    (hg : o.guard = none) (hd : dstOk n o.dst = true) (hm : m0.le m) (hX : ∀ it ∈ X, it ∈ H) (hy : ∀ m' H', m0.le m' → (∀ it ∈ X, it ∈ H') → Yl P n L m' H' o v)
    (h : AG P n ops Q (Cls m0 X) fuel listed' (lput L o.dst v) m H) : AG P n ops Q (Cls m0 X) (fuel + 1) listed L m H := by
  subst hl
  intro a w hfr hs
  refine wpAnyH_take (v := v) ho hns hf hr (fun c a w h => h) (.inl ⟨by simp [Region.wanted, hg], fun w' hw' => ?_⟩) ⟨m, H, hm, hX, hs⟩ (h _ _ (hfr.lput hd v) hs)
  obtain ⟨m', H', h1, h2, h3⟩ := hw'
  exact hy m' H' h1 h2 a hfr w' h3

theorem g_yg {i : Nat} {o : Oper} {v : Value} {j : Nat} {b t : Bool} (ho : ops[i]? = some o) (hns : Region.noSelect ops = true) (hf : Region.free .any ops listed i = true) (hr : (Region.ready .any ops listed).contains i = true) (hl : listed.setIfInBounds i true = listed')
    (hg : o.guard = some (j, b)) (hj : gval ops L j = some (.bool t)) (ht : t = b) (hd : dstOk n o.dst = true) (hm : m0.le m) (hX : ∀ it ∈ X, it ∈ H) (hy : ∀ m' H', m0.le m' → (∀ it ∈ X, it ∈ H') → Yl P n L m' H' o v)
    (h : AG P n ops Q (Cls m0 X) fuel listed' (lput L o.dst v) m H) : AG P n ops Q (Cls m0 X) (fuel + 1) listed L m H := by
  subst hl; subst ht
  intro a w hfr hs
  have hy' := yielded_of hfr hj
  refine wpAnyH_take (v := v) ho hns hf hr (fun c a w h => h) (.inl ⟨by simp [Region.wanted, hg, hy'], fun w' hw' => ?_⟩) ⟨m, H, hm, hX, hs⟩ (h _ _ (hfr.lput hd v) hs)
  obtain ⟨m', H', h1, h2, h3⟩ := hw'
  exact hy m' H' h1 h2 a hfr w' h3

theorem g_no {i : Nat} {o : Oper} {j : Nat} {b t : Bool} (ho : ops[i]? = some o) (hns : Region.noSelect ops = true) (hf : Region.free .any ops listed i = true) (hr : (Region.ready .any ops listed).contains i = true) (hl : listed.setIfInBounds i true = listed')
    (hg : o.guard = some (j, b)) (hj : gval ops L j = some (.bool t)) (ht : t = !b) (hd : dstOk n o.dst = true) (hm : m0.le m) (hX : ∀ it ∈ X, it ∈ H)
    (h : AG P n ops Q (Cls m0 X) fuel listed' (lput L o.dst undef) m H) : AG P n ops Q (Cls m0 X) (fuel + 1) listed L m H := by
  subst hl; subst ht
  intro a w hfr hs
  have hy' := yielded_of hfr hj
  exact wpAnyH_take (v := undef) ho hns hf hr (fun c a w h => h) (.inr ⟨by simp [Region.wanted, hg, hy'], rfl⟩) ⟨m, H, hm, hX, hs⟩ (h _ _ (hfr.lput hd undef) hs)

theorem yielded_undef {a : Act} (hf : Fr n a L) {j : Nat} (h : gval ops L j = some undef) : yielded ops a.tmps j = none := by
  unfold gval at h
  unfold yielded
  cases hd : (ops[j]?).bind (·.dst) with
  | none => rfl
  | some d =>
    rw [hd] at h
    simp only [Option.bind_some] at h ⊢
    rw [hf.get d _ h]
    rfl

theorem g_nou {i : Nat} {o : Oper} {j : Nat} {b : Bool} (ho : ops[i]? = some o) (hns : Region.noSelect ops = true) (hf : Region.free .any ops listed i = true) (hr : (Region.ready .any ops listed).contains i = true) (hl : listed.setIfInBounds i true = listed')
    (hg : o.guard = some (j, b)) (hj : gval ops L j = some undef) (hd : dstOk n o.dst = true) (hm : m0.le m) (hX : ∀ it ∈ X, it ∈ H)
    (h : AG P n ops Q (Cls m0 X) fuel listed' (lput L o.dst undef) m H) : AG P n ops Q (Cls m0 X) (fuel + 1) listed L m H := by
  subst hl
  intro a w hfr hs
  have hy' := yielded_undef hfr hj
  exact wpAnyH_take (v := undef) ho hns hf hr (fun c a w h => h) (.inr ⟨by simp [Region.wanted, hg, hy'], rfl⟩) ⟨m, H, hm, hX, hs⟩ (h _ _ (hfr.lput hd undef) hs)

theorem r_nou {rest : List Oper} {d : Option Tmp} {op : Op} {ty : TypeId} {ps : String} {af : Array Edge} {j : Nat} {b : Bool} (hd : dstOk n d = true) (hj : gval ops L j = some undef)
    (h : Run P n ops Q rest (lput L d undef) m H) : Run P n ops Q (⟨d, op, ty, ps, af, some (j, b)⟩ :: rest) L m H := by
  intro a w hf hs
  unfold wpList
  have hy := yielded_undef hf hj
  rw [if_neg (by simp [Region.wanted, hy])]
  exact h _ _ (hf.lput hd undef) hs

theorem g_split {j : Nat} {t : Bool} {S : World → Prop} (_hj : gval ops L j = some (.bool t)) (h1 : t = true → AG P n ops Q S fuel listed L m H) (h2 : t = false → AG P n ops Q S fuel listed L m H) : AG P n ops Q S fuel listed L m H := by
  cases t
  · exact h2 rfl
  · exact h1 rfl

/-- One with an effect, that alone may come up. -/
theorem g_s {i : Nat} {o : Oper} (ho : ops[i]? = some o) (hr : Region.ready .any ops listed = [i]) (hl : listed.setIfInBounds i true = listed') (hg : o.guard = none)
    (h : SP P n L m H o (fun L' m' H' => (m0.le m' ∧ (∀ it ∈ X, it ∈ H')) ∧ AG P n ops Q (Cls m0 X) fuel listed' L' m' H')) : AG P n ops Q (Cls m0 X) (fuel + 1) listed L m H := by
  subst hl
  intro a w hfr hs
  refine wpAnyH_all hr (by simp) ?_
  intro k hk
  simp only [List.mem_singleton] at hk
  subst hk
  unfold wpOp
  simp only [ho]
  rw [if_pos (by simp [Region.wanted, hg])]
  refine .inl (h a w hfr hs _ _ fun a' w' L' m' H' h1 h2 h3 => ⟨⟨m', H', h3.1.1, h3.1.2, h2⟩, h3.2 a' w' h1 h2⟩)

/-- The same where a guard says yes. -/
theorem g_sg {i : Nat} {o : Oper} {j : Nat} {b t : Bool} (ho : ops[i]? = some o) (hr : Region.ready .any ops listed = [i]) (hl : listed.setIfInBounds i true = listed') (hg : o.guard = some (j, b)) (hj : gval ops L j = some (.bool t)) (ht : t = b)
    (h : SP P n L m H o (fun L' m' H' => (m0.le m' ∧ (∀ it ∈ X, it ∈ H')) ∧ AG P n ops Q (Cls m0 X) fuel listed' L' m' H')) : AG P n ops Q (Cls m0 X) (fuel + 1) listed L m H := by
  subst hl; subst ht
  intro a w hfr hs
  have hy' := yielded_of hfr hj
  refine wpAnyH_all hr (by simp) ?_
  intro k hk
  simp only [List.mem_singleton] at hk
  subst hk
  unfold wpOp
  simp only [ho]
  rw [if_pos (by simp [Region.wanted, hg, hy'])]
  refine .inl (h a w hfr hs _ _ fun a' w' L' m' H' h1 h2 h3 => ⟨⟨m', H', h3.1.1, h3.1.2, h2⟩, h3.2 a' w' h1 h2⟩)

/-- Several with effects may come up: each of them in turn. -/
def Each (P : Program) (n : Nat) (ops : Array Oper) (Q : Post) (m0 : Snap) (X : Hp) (fuel : Nat) (listed : Array Bool) (L : Slots) (m : Snap) (H : Hp) : List Nat → Prop
  | [] => True
  | i :: r => (∃ o, ops[i]? = some o ∧ o.guard = none ∧ SP P n L m H o (fun L' m' H' => (m0.le m' ∧ (∀ it ∈ X, it ∈ H')) ∧ AG P n ops Q (Cls m0 X) fuel (listed.setIfInBounds i true) L' m' H')) ∧ Each P n ops Q m0 X fuel listed L m H r

theorem g_each {rs : List Nat} (hr : Region.ready .any ops listed = rs) (hne : rs ≠ []) (h : Each P n ops Q m0 X fuel listed L m H rs) : AG P n ops Q (Cls m0 X) (fuel + 1) listed L m H := by
  intro a w hfr hs
  refine wpAnyH_all hr hne ?_
  have key : ∀ rs, Each P n ops Q m0 X fuel listed L m H rs → ∀ i ∈ rs, wpOp P ops (NP (Lift n Q)) i (fun a' w' => Cls m0 X w' ∧ wpAnyH P .any ops (NP (Lift n Q)) (Cls m0 X) fuel (listed.setIfInBounds i true) a' w') a w := by
    intro rs
    induction rs with
    | nil => intro _ i hi; cases hi
    | cons k r ih =>
      rintro ⟨⟨o, ho, hg, hsp⟩, hr⟩ i hi
      rcases List.mem_cons.1 hi with rfl | hi
      · unfold wpOp
        simp only [ho]
        rw [if_pos (by simp [Region.wanted, hg])]
        exact .inl (hsp a w hfr hs _ _ fun a' w' L' m' H' h1 h2 h3 => ⟨⟨m', H', h3.1.1, h3.1.2, h2⟩, h3.2 a' w' h1 h2⟩)
      · exact ih hr i hi
  exact key rs h

theorem g_done {S : World → Prop} (hr : Region.ready .any ops listed = []) (h : Q .normal L m H) : AG P n ops Q S fuel listed L m H := fun _ _ hf hs =>
  wpAnyH_done hr ⟨L, m, H, hf, hs, h⟩ fuel

/-- What is read is read in each world of the class. -/
theorem RdS.mem {b o : Nat} {cs : List Value} {T : TypeId} {fz : Nat × Nat} {v : Value} (hi : Item.blk b (.cells cs.toArray T fz) ∈ H) (hv : cget cs o = some v) : RdS m H (some ⟨b, o, none⟩) v :=
  fun w hs => ⟨b, o, rfl, by
    have : w.heap[b]? = some (.cells cs.toArray T fz) := hs.hold _ hi
    simp only [World.cell?, this]
    rw [cget_eq] at hv
    simpa using hv⟩

theorem RdA.mem {b o s : Nat} {cs r : List Value} {T : TypeId} {fz : Nat × Nat} (hi : Item.blk b (.cells cs.toArray T fz) ∈ H) (hv : csub cs o s = some r) : RdA m H (some ⟨b, o, none⟩) s r :=
  ⟨(csub_spec cs o s r hv).1, fun w hs => ⟨b, o, rfl, fun j u hu => by
    have : w.heap[b]? = some (.cells cs.toArray T fz) := hs.hold _ hi
    simp only [World.cell?, this]
    simpa using (csub_spec cs o s r hv).2 j u hu⟩⟩
end
end Go.Aw
