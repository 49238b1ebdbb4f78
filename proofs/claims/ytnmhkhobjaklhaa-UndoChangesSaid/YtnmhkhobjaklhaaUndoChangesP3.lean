/- Part 3 of the words and walks that the proof behind it uses. -/
import Derived.Test.YtnmhkhobjaklhaaUndoChangesP2
import Derived.Laws.IdiomStrings
set_option linter.unusedVariables false
set_option linter.unusedSimpArgs false
set_option maxHeartbeats 1000000
namespace Go.Aw
open Go
def Head.merge (h g : Head) (i : Nat) : Head := fun k => if k.val < i then h k ||| g k else h k
theorem at_lt {h : Head} {i : Nat} (hi : i < 12) : h.at i = h ⟨i, hi⟩ := by
  unfold Head.at
  congr 1
  exact Fin.ext (by simp [Fin.ofNat, Nat.mod_eq_of_lt hi])
theorem merge_at {h g : Head} {i : Nat} (hi : i < 12) : (h.merge g i).at i = h.at i := by
  rw [at_lt hi, at_lt hi]
  unfold Head.merge
  rw [if_neg (by simp)]
theorem merge_set {h g : Head} {i : Nat} (hi : i < 12) : (h.merge g i).set i (h.at i ||| g.at i) = h.merge g (i + 1) := by
  funext k
  unfold Head.set Head.merge
  by_cases e : k = Fin.ofNat 12 i
  · subst e
    have hv : (Fin.ofNat 12 i).val = i := by simp [Fin.ofNat, Nat.mod_eq_of_lt hi]
    rw [if_pos rfl, if_pos (by omega)]
    rfl
  · have hne : k.val ≠ i := fun h => e (Fin.ext (by simp [Fin.ofNat, Nat.mod_eq_of_lt hi, h]))
    rw [if_neg e]
    by_cases hlt : k.val < i
    · rw [if_pos hlt, if_pos (by omega)]
    · rw [if_neg hlt, if_neg (by omega)]
theorem merge_zero (h g : Head) : h.merge g 0 = h := by funext k; unfold Head.merge; rw [if_neg (by omega)]
def cubeMerge (a b : Cube) (i : Nat) : Cube := ⟨a.value.merge b.value i, a.care.merge b.care i⟩
def cubeClash (a b : Cube) (i : Nat) : Bool := ((a.value.at i ^^^ b.value.at i) &&& a.care.at i &&& b.care.at i) == 0
def cubeMeetOk (a b : Cube) : Bool := (cubeSound a && cubeSound b) && (List.range 12).all (cubeClash a b)
def cubeMeet (a b : Cube) : Cube := cubeMerge a b 12
def cubeWithin (a b : Cube) : Bool := cubeMeetOk a b && decide (cubeMeet a b = a)
def ruleOverlap (a b : RuleD) : Bool := cubeMeetOk a.m b.m && (a.prio == b.prio)
theorem cput_care (c : Cube) (k : Nat) (x : W) (hk : k < 12) : cput (encCube c) (12 + k * 1) [wv x] = some (encCube { c with care := c.care.set k x }) := by
  match k, hk with
  | 0, _ | 1, _ | 2, _ | 3, _ | 4, _ | 5, _ | 6, _ | 7, _ | 8, _ | 9, _ | 10, _ | 11, _ => rfl
theorem cput_value (c : Cube) (k : Nat) (x : W) (hk : k < 12) : cput (encCube c) (0 + k * 1) [wv x] = some (encCube { c with value := c.value.set k x }) := by
  match k, hk with
  | 0, _ | 1, _ | 2, _ | 3, _ | 4, _ | 5, _ | 6, _ | 7, _ | 8, _ | 9, _ | 10, _ | 11, _ => rfl
def modRule (x : ModD) : RuleD := ⟨x.m, x.prio, x.acts, x.idle, x.hard, x.owner, 0, 0, 0⟩
def modTouches (x : ModD) (r : RuleD) : Bool :=
  if x.kind = 2 ∨ x.kind = 3 then (r.owner == x.owner) && cubeWithin r.m x.m
  else if x.kind = 4 ∨ x.kind = 5 then (r.owner == x.owner) && ruleKey r (modRule x)
  else false
theorem meet_no {a b : Cube} (h : (!(cubeSound a && cubeSound b)) = true) : cubeMeetOk a b = false := by
  unfold cubeMeetOk
  have : (cubeSound a && cubeSound b) = false := by cases hx : (cubeSound a && cubeSound b) with
    | false => rfl
    | true => rw [hx] at h; cases h
  rw [this]; rfl
theorem clash_at {a b : Cube} {i : Nat} (hi : i < 12) : ((cubeMerge a b i).value.at i ^^^ b.value.at i) &&& (cubeMerge a b i).care.at i &&& b.care.at i = (a.value.at i ^^^ b.value.at i) &&& a.care.at i &&& b.care.at i := by
  show ((a.value.merge b.value i).at i ^^^ b.value.at i) &&& (a.care.merge b.care i).at i &&& b.care.at i = _
  rw [merge_at hi, merge_at hi]
theorem meet_clash {a b : Cube} {i : Nat} (hi : i < 12) (h : ¬ (((cubeMerge a b i).value.at i ^^^ b.value.at i) &&& (cubeMerge a b i).care.at i &&& b.care.at i = 0)) : cubeMeetOk a b = false := by
  rw [clash_at hi] at h
  unfold cubeMeetOk
  rw [all_range_false (f := cubeClash a b) (i := i) (by simpa [cubeClash] using h) hi]
  simp
theorem meet_step {a b : Cube} {i : Nat} (hi : i < 12) (h0 : (List.range i).all (cubeClash a b) = true) (h : ((cubeMerge a b i).value.at i ^^^ b.value.at i) &&& (cubeMerge a b i).care.at i &&& b.care.at i = 0) : (List.range (i + 1)).all (cubeClash a b) = true := by
  rw [clash_at hi] at h
  rw [all_range_succ, h0]
  simpa [cubeClash] using h
end Go.Aw
namespace Go.Aw
open Go
theorem fz_first {P : Program} {m : Snap} {H : Hp} {w : World} {a : Option Addr} {n cap s : Nat} {cs : List (List Value)} (h : Fz m a n cap s cs) (hn : a = none → n = 0) (hst : St m H w) (cap' : Nat) : (Builtin.firstCells s n (.slice a n cap')).run P w.drew = .ok cs.flatten.toArray w.drew := by
  cases a with
  | none =>
    have : cs = [] := List.eq_nil_of_length_eq_zero (by rw [h.len]; exact hn rfl)
    subst this
    have := hn rfl
    subst this
    exact run_firstCells_none _ _ _ _ _
  | some a =>
    refine run_firstCells_some _ _ _ _ _ _ _ (by rw [length_flatten h.each, h.len]) fun j u hj => ?_
    obtain ⟨k, i, c, hk, hi, rfl⟩ := flatten_index h.each hj
    obtain ⟨g, o, ha, hv⟩ := h.get k c hk
    cases ha
    rw [addr_add]
    exact (hst.drawn _).cell (hv i u hi)
section
variable {P : Program} {n : Nat} {Q : Post} {L : Slots} {m : Snap} {H : Hp} {ops : Array Oper} {rest : List Oper} {d : Option Tmp} {ty : TypeId} {ps : String} {af : Array Edge} {gd : Option (Nat × Bool)} {fuel : Nat} {listed : Array Bool}
/-- append to a frozen slice whose capacity is its length: a new row. -/
theorem s_appendf {K : Slots → Snap → Hp → Prop} {t e : TypeId} {x y : Operand} {len cap k s B : Nat} {a : Option Addr} {cs news : List (List Value)} {v : Value} (hd : dstOk n d = true)
    (hx : opv L x = some (.slice a len len)) (hy : opv L y = some v) (ht : tslice P t = some (e, s)) (hz : zeroOk P e = true) (hB : tbytes P e = some B)
    (hfz : Fz m a len cap s cs) (hnil : a = none → len = 0) (hs : Src m H v k s news) (hk : 0 < k) (hfit : (len + k) * B ≤ 140737488355328) (hlen : len + k ≤ maxLen)
    (h : ∀ a' cap', K (lput L d (.slice a' (len + k) cap')) m (.vec a' (len + k) cap' e s (cs ++ news) :: H)) :
    SP P n L m H ⟨d, .call ⟨.builtin .append, [x, y].toArray, [t, t].toArray⟩, ty, ps, af, gd⟩ K := by
  refine s_value hd fun ac w hf hst => ?_
  have hcl := hfz.len
  have hce := hfz.each
  unfold tslice at ht
  cases hu : P.underlying t with
  | none => simp [hu] at ht
  | some D =>
    cases D <;> simp only [hu, reduceCtorEq] at ht
    rename_i e'
    cases hinf : P.info? e' with
    | none => simp [hinf] at ht
    | some inf =>
      simp only [hinf, Option.some.injEq, Prod.mk.injEq] at ht
      obtain ⟨rfl, rfl⟩ := ht
      unfold zeroOk at hz
      simp only [hinf] at hz
      cases hzv : inf.zero with
      | none => simp [hzv] at hz
      | some z =>
        simp only [hzv, Bool.and_eq_true, beq_iff_eq, Nat.blt_eq] at hz
        have hBy : inf.bytes = B := by simpa [tbytes, hinf] using hB
        have hexec : ∀ v' w', (Builtin.append_ #[t, t] ty #[.slice a len len, v]).run P w = .ok v' w' →
            (execOp ac.eval ⟨d, .call ⟨.builtin .append, [x, y].toArray, [t, t].toArray⟩, ty, ps, af, gd⟩).run P w = .ok (.value v') w' := by
          intro v' w' hr
          simp [execOp, resolve, invoke, builtin, hf.eval hx, hf.eval hy, hr]
        rcases hs.get with ⟨rfl, rfl⟩ | ⟨sa, c, rfl, hcell⟩
        · omega
        · have hfl : news.flatten.length = k * inf.size := by rw [length_flatten hs.each, hs.len]
          have hone : ∀ u ∈ news.flatten, u.oneCell' = true := fun u hu => by obtain ⟨l, hl, hul⟩ := List.mem_flatten.1 hu; exact hs.one l hl u hul
          have hlast : (cs ++ news).length = len + k ∧ ∀ l ∈ cs ++ news, l.length = inf.size := ⟨by rw [List.length_append, hcl, hs.len], fun l hl => by
            rcases List.mem_append.1 hl with h1 | h1
            · exact hce l h1
            · exact hs.each l h1⟩
          have hsrc : Go.Src P inf.size t (.slice (some sa) k c) k news.flatten w := Src.ofSlice w hu sa k c news.flatten hfl (hcell w hst) hone
          have hfit' : Builtin.nextslicecap (len + k) len * inf.bytes ≤ 281474976710656 := growslice_fits (by omega) (by rw [hBy]; exact hfit)
          have hml : maxLen = 9223372036854775807 := rfl
          have hr := run_append_grow_src (P := P) w t t ty e' inf z hu hinf hzv a len len cs.flatten (fz_first hfz hnil hst len) _ k news.flatten hsrc (by omega) (by omega) hfit'
          have hge := grownCap_ge w (len + k) len e'
          have hcm := grownCap_le_maxLen w (len + k) len e' hlen
          refine ⟨_, m, _, _, hexec _ _ hr, (St.blkVec (cs := cs ++ news) (cap := grownCap w (len + k) len e') ((hst.drawn _).alloc _) hge hcm ?_ hlast.1 hlast.2 ?_), h _ _⟩
          · rw [Array.size_append, size_zeroCells, hz.1, List.size_toArray, ← List.flatten_append, length_flatten hlast.2, hlast.1, ← Nat.add_mul]
            congr 1
            omega
          · rw [Array.toList_append, List.toList_toArray, ← List.flatten_append, List.take_append_of_le_length (by rw [length_flatten hlast.2, hlast.1]; exact Nat.le_refl _)]
            exact List.take_of_length_le (by rw [length_flatten hlast.2, hlast.1]; exact Nat.le_refl _)
theorem g_freezeVec {S : World → Prop} {i len cap s : Nat} {a : Option Addr} {e : TypeId} {cs : List (List Value)} (hi : hget H i = some (.vec a len cap e s cs)) (hs0 : Nat.blt 0 s = true)
    (h : ∀ m', m.le m' → Fz m' a len cap s cs → (a = none → cap = 0) → AG P n ops Q S fuel listed L m' (hdel H i)) : AG P n ops Q S fuel listed L m H := fun ac w hf hs => by
  obtain ⟨m', h1, h2, h3, h4⟩ := hs.freezeVec hi (by simpa [Nat.blt_eq] using hs0)
  exact h m' h1 h3 h4 ac w hf h2
end
theorem idxF_pos {α : Type} {p : α → Bool} {l : List α} (h : idxF p l ≥ 0) : ∃ (k : Nat) (x : α), idxF p l = (k : Int) ∧ l[k]? = some x ∧ p x = true := by
  unfold idxF at h ⊢
  cases hf : l.findIdx? p with
  | none => rw [hf] at h; simp at h
  | some k =>
    obtain ⟨hlt, hp, _⟩ := List.findIdx?_eq_some_iff_getElem.1 hf
    exact ⟨k, l[k], rfl, by simp [hlt], hp⟩
theorem FzR.snoc {m : Snap} {a : Option Addr} {n c c' : Nat} {sl : Sl} {lr : List (RuleD × Sl)} {r : RuleD} {s : Sl} (h0 : FzR m sl lr) (h : Fz m a n c 32 ((lr.map fun p => encRule p.1 p.2) ++ [encRule r s])) (ha : Fz m s.a s.n c' 4 (r.acts.map encAct)) (hc : s.cap = s.n) (hn : s.a = none → c' = 0) : FzR m ⟨a, n, c⟩ (lr ++ [(r, s)]) :=
  ⟨by simpa using h, fun p hp => by
    rcases List.mem_append.1 hp with hp | hp
    · exact h0.acts p hp
    · simp at hp; subst hp
      refine ⟨?_, fun h => ?_⟩
      · show Fz m s.a s.n s.cap 4 _
        rw [hc]; exact ha.clip
      · have := hn h; have := ha.le; show s.cap = 0; omega⟩
/-- What an add makes of a table, or why not. -/
def addR (l : List RuleD) (x : ModD) (room : Int) : List RuleD × Int :=
  if l.any (fun y => ruleKey y (modRule x) && (y.owner != x.owner)) then ([], 7)
  else if x.check && l.any (fun y => !ruleKey y (modRule x) && ruleOverlap y (modRule x)) then ([], 6)
  else if !(l.any fun y => ruleKey y (modRule x)) && decide ((l.length : Int) ≥ room) then ([], 3)
  else (sortR (l ++ [modRule x]), 0)
def modR1 (x : ModD) (r : RuleD) : Option RuleD := if modTouches x r then (if x.kind = 3 ∨ x.kind = 5 then none else some { r with acts := x.acts }) else some r
def applyR (l : List RuleD) (x : ModD) (room : Int) : List RuleD × Int :=
  if !(ruleTable l && modSound x) then ([], 2) else if x.kind = 1 then addR l x room else (l.filterMap (modR1 x), 0)
end Go.Aw
namespace Go.Aw
open Go
theorem srt_of_adj : ∀ {l : List RuleD}, (∀ (i : Nat) (a b : RuleD), l[i]? = some a → l[i + 1]? = some b → ruleCmp a b < 0) → Srt l
  | [], _ => List.Pairwise.nil
  | [x], _ => List.pairwise_singleton _ _
  | x :: y :: l, h => by
    have ih : Srt (y :: l) := srt_of_adj fun i a b ha hb => h (i + 1) a b (by simpa using ha) (by simpa using hb)
    have hxy := h 0 x y rfl rfl
    refine List.pairwise_cons.2 ⟨fun z hz => ?_, ih⟩
    rcases List.mem_cons.1 hz with rfl | hz
    · exact hxy
    · exact ruleCmp_trans hxy ((List.pairwise_cons.1 ih).1 z hz)
theorem table_iff {l : List RuleD} : ruleTable l = true ↔ ((∀ r ∈ l, ruleSound r = true) ∧ Srt l) := by
  constructor
  · intro h
    refine ⟨ruleTable_sound h, srt_of_adj fun i a b ha hb => ?_⟩
    unfold ruleTable at h
    rw [List.all_eq_true] at h
    have hlt := (List.getElem?_eq_some_iff.1 hb).1
    have := h (i + 1) (by simpa using hlt)
    unfold okAt at this
    rw [hb] at this
    simp only [Nat.add_sub_cancel, ha, Bool.and_eq_true, Bool.or_eq_true, decide_eq_true_eq] at this
    rcases this.2 with h0 | h0
    · omega
    · simpa [ruleBefore] using h0
  · rintro ⟨hs, hp⟩
    unfold ruleTable
    rw [List.all_eq_true]
    intro i hi
    have hlt : i < l.length := by simpa using hi
    unfold okAt
    rw [List.getElem?_eq_getElem hlt]
    simp only [Bool.and_eq_true, Bool.or_eq_true, decide_eq_true_eq]
    refine ⟨hs _ (by simp), ?_⟩
    rcases Nat.eq_zero_or_pos i with h0 | h0
    · exact .inl h0
    · right
      rw [List.getElem?_eq_getElem (by omega)]
      have := List.pairwise_iff_getElem.1 hp (i - 1) i (by omega) hlt (by omega)
      simpa [ruleBefore] using this
theorem key_once {l : List RuleD} {x y r : RuleD} (h : Srt l) (hx : x ∈ l) (hy : y ∈ l) (kx : ruleKey x r = true) (ky : ruleKey y r = true) : x = y := by
  obtain ⟨i, hi, rfl⟩ := List.mem_iff_getElem.1 hx
  obtain ⟨j, hj, rfl⟩ := List.mem_iff_getElem.1 hy
  have hk : ∀ a b : RuleD, ruleKey a r = true → ruleKey b r = true → ¬ ruleCmp a b < 0 := by
    intro a b ha hb
    have : ruleKey a b = true := by simp [ruleKey] at ha hb ⊢; exact ⟨ha.1.trans hb.1.symm, ha.2.trans hb.2.symm⟩
    rw [ruleCmp_zero.2 this]; decide
  rcases Nat.lt_trichotomy i j with hlt | rfl | hlt
  · exact absurd (List.pairwise_iff_getElem.1 h i j hi hj hlt) (hk _ _ kx ky)
  · rfl
  · exact absurd (List.pairwise_iff_getElem.1 h j i hj hi hlt) (hk _ _ ky kx)
theorem any_owner {l : List RuleD} {r z : RuleD} {o : Int} (h : Srt l) (hz : z ∈ l) (kz : ruleKey z r = true) : l.any (fun y => ruleKey y r && (y.owner != o)) = (z.owner != o) := by
  rw [Bool.eq_iff_iff, List.any_eq_true]
  constructor
  · rintro ⟨y, hy, hk⟩
    simp only [Bool.and_eq_true] at hk
    rw [key_once h hz hy kz hk.1]; exact hk.2
  · intro hn
    exact ⟨z, hz, by simp only [kz, hn, Bool.and_self]⟩
theorem any_owner_no {l : List RuleD} {r : RuleD} {o : Int} (h : l.any (fun y => ruleKey y r) = false) : l.any (fun y => ruleKey y r && (y.owner != o)) = false := by
  rw [List.any_eq_false] at h ⊢
  intro y hy
  have := h y hy
  simp only [Bool.not_eq_true] at this ⊢
  rw [this]; rfl
theorem modRule_sound {x : ModD} (h : modSound x = true) (k : x.kind = 1) : ruleSound (modRule x) = true := by
  unfold modSound at h
  split at h
  · cases h
  · rename_i h0
    simp only [Bool.or_eq_true, Bool.not_eq_true', not_or, Bool.not_eq_false] at h0
    simp only [Bool.and_eq_true] at h
    obtain ⟨⟨⟨a1, a2⟩, a3⟩, a4⟩ := h0
    unfold ruleSound modRule
    simp [a1, a2, a3, a4, h.1, h.2]
theorem sortR_sound {l : List RuleD} : ∀ r ∈ sortR l, ruleSound r = true := by
  have key : ∀ (l acc : List RuleD), (∀ r ∈ acc, ruleSound r = true) → (∀ r ∈ l, ruleSound r = true) → ∀ r ∈ l.foldl insR acc, ruleSound r = true := by
    intro l
    induction l with
    | nil => intro acc h _; exact h
    | cons x l ih =>
      intro acc h hl
      refine ih (insR acc x) (fun r hr => ?_) (fun r hr => hl r (List.mem_cons_of_mem _ hr))
      rcases insR_mem hr with rfl | hr
      · exact hl _ List.mem_cons_self
      · exact h r hr
  exact key _ [] (fun r h => by cases h) (fun r hr => by simpa using (List.mem_filter.1 hr).2)
theorem sortR_table (l : List RuleD) : ruleTable (sortR l) = true := table_iff.2 ⟨sortR_sound, sortR_srt l⟩
theorem addR_7 {l : List RuleD} {x : ModD} {room : Int} (h : l.any (fun y => ruleKey y (modRule x) && (y.owner != x.owner)) = true) : addR l x room = ([], 7) := by
  unfold addR; rw [if_pos h]
theorem addR_6 {l : List RuleD} {x : ModD} {room : Int} (h : l.any (fun y => ruleKey y (modRule x) && (y.owner != x.owner)) = false) (h2 : (x.check && l.any (fun y => !ruleKey y (modRule x) && ruleOverlap y (modRule x))) = true) : addR l x room = ([], 6) := by
  unfold addR; rw [h, if_neg (by decide), if_pos h2]
theorem addR_3 {l : List RuleD} {x : ModD} {room : Int} (h : l.any (fun y => ruleKey y (modRule x) && (y.owner != x.owner)) = false) (h2 : (x.check && l.any (fun y => !ruleKey y (modRule x) && ruleOverlap y (modRule x))) = false) (h3 : (!(l.any fun y => ruleKey y (modRule x)) && decide ((l.length : Int) ≥ room)) = true) : addR l x room = ([], 3) := by
  unfold addR; rw [h, if_neg (by decide), h2, if_neg (by decide), if_pos h3]
theorem addR_0 {l : List RuleD} {x : ModD} {room : Int} (h : l.any (fun y => ruleKey y (modRule x) && (y.owner != x.owner)) = false) (h2 : (x.check && l.any (fun y => !ruleKey y (modRule x) && ruleOverlap y (modRule x))) = false) (h3 : (!(l.any fun y => ruleKey y (modRule x)) && decide ((l.length : Int) ≥ room)) = false) : addR l x room = (sortR (l ++ [modRule x]), 0) := by
  unfold addR; rw [h, if_neg (by decide), h2, if_neg (by decide), h3, if_neg (by decide)]
end Go.Aw
namespace Go.Aw
open Go
theorem perm_mid2 (v c b : Item) (A H : Hp) : (v :: c :: (A ++ (b :: H))).Perm (b :: c :: v :: (A ++ H)) := by
  refine (List.Perm.cons _ (List.Perm.cons _ List.perm_middle)).trans ?_
  refine (List.Perm.swap ..).trans ?_
  refine (List.Perm.cons _ (List.Perm.swap ..)).trans ?_
  exact List.Perm.swap ..
theorem perm_front3 (x a b c : Item) (X : Hp) : (a :: b :: c :: (x :: X)).Perm (x :: a :: b :: c :: X) :=
  (List.perm_middle (l₁ := [a, b, c]) (l₂ := X) (a := x))
theorem perm_pick3 {lo : List OwnR} {i : Nat} {o : OwnR} (ho : lo[i]? = some o) (a b c : Item) (ol : List OwnR) (H : Hp) :
    (a :: b :: c :: (itsO ol ++ (itsO (lo.drop i) ++ H))).Perm (o.it :: a :: b :: c :: (itsO ol ++ (itsO (lo.drop (i + 1)) ++ H))) := by
  have hlt := (List.getElem?_eq_some_iff.1 ho).1
  have he : lo.drop i = o :: lo.drop (i + 1) := by rw [List.drop_eq_getElem_cons hlt, (List.getElem?_eq_some_iff.1 ho).2]
  rw [he]
  have h1 : (itsO ol ++ (itsO (o :: lo.drop (i + 1)) ++ H)).Perm (o.it :: (itsO ol ++ (itsO (lo.drop (i + 1)) ++ H))) := List.perm_middle
  exact (((h1.cons _).cons _).cons _).trans (perm_front3 _ _ _ _ _)
theorem perm_put3 (a b c : Item) (ol : List OwnR) (o : OwnR) (X : Hp) : (o.it :: a :: b :: c :: (itsO ol ++ X)).Perm (a :: b :: c :: (itsO (ol ++ [o]) ++ X)) := by
  refine (perm_front3 _ _ _ _ _).symm.trans (.cons _ (.cons _ (.cons _ ?_)))
  rw [itsO_snoc, List.append_assoc]
  exact List.perm_middle.symm
theorem filterMap_take_succ {α β : Type} {f : α → Option β} {l : List α} {i : Nat} {x : α} (h : l[i]? = some x) : (l.take (i + 1)).filterMap f = (l.take i).filterMap f ++ (match f x with | some y => [y] | none => []) := by
  rw [List.take_add_one, h, List.filterMap_append]
  congr 1
  cases hf : f x <;> simp [List.filterMap_cons, hf]
theorem modR1_keep {x : ModD} {r : RuleD} (h : modTouches x r = false) : modR1 x r = some r := by unfold modR1; rw [h, if_neg (by decide)]
theorem modR1_del {x : ModD} {r : RuleD} (h : modTouches x r = true) (k : x.kind = 3 ∨ x.kind = 5) : modR1 x r = none := by unfold modR1; rw [if_pos h, if_pos k]
theorem modR1_set {x : ModD} {r : RuleD} (h : modTouches x r = true) (k : ¬ (x.kind = 3 ∨ x.kind = 5)) : modR1 x r = some { r with acts := x.acts } := by unfold modR1; rw [if_pos h, if_neg k]
theorem applyR_bad {l : List RuleD} {x : ModD} {room : Int} (h : (ruleTable l && modSound x) = false) : applyR l x room = ([], 2) := by unfold applyR; rw [h]; rfl
theorem applyR_add {l : List RuleD} {x : ModD} {room : Int} (h : (ruleTable l && modSound x) = true) (k : x.kind = 1) : applyR l x room = addR l x room := by unfold applyR; rw [h, if_neg (by decide), if_pos k]
theorem applyR_map {l : List RuleD} {x : ModD} {room : Int} (h : (ruleTable l && modSound x) = true) (k : x.kind ≠ 1) : applyR l x room = (l.filterMap (modR1 x), 0) := by unfold applyR; rw [h, if_neg (by decide), if_neg k]
end Go.Aw
namespace Go.Aw
open Go
theorem strB_eq (l : List UInt8) : strB l = ⟨l.toArray⟩ := by
  unfold strB
  rw [foldl_push_byteCells]
  have : ByteArray.empty.data = #[] := rfl
  rw [this]; simp
theorem strB_size (l : List UInt8) : (strB l).size = l.length := by rw [strB_eq]; simp [ByteArray.size]
def sbCells (l : List UInt8) (cap : Nat) : List Value := l.map bv ++ List.replicate (cap - l.length) (bv 0)
theorem sbCells_set (l : List UInt8) (cap k : Nat) (c : UInt8) (hk : k < l.length) : (sbCells l cap).set k (bv c) = sbCells (l.set k c) cap := by
  unfold sbCells
  rw [List.set_append_left _ _ (by simpa using hk), List.length_set, List.map_set]
/-- What '[]byte(s)' lays: the mark stands behind the last cell. -/
abbrev sbIt (b : Nat) (l : List UInt8) (cap N : Nat) : Item := .blk b (.cells (sbCells l cap).toArray 5 (N, N + 1))
section
variable {P : Program} {n : Nat} {L : Slots} {m : Snap} {H : Hp} {d : Option Tmp} {ty : TypeId} {ps : String} {af : Array Edge} {gd : Option (Nat × Bool)}
theorem y_index_strB {t : TypeId} {x ix : Operand} {kd : IntKind} {k : Nat} {l : List UInt8} {c : UInt8} (hx : opv L x = some (.string (strB l))) (hi : opv L ix = some (.int kd (k : Int))) (ht : P.underlying t = some .string) (hk : l[k]? = some c) :
    Yl P n L m H ⟨d, .index t x ix, ty, ps, af, gd⟩ (bv c) := by
  intro ac hf w _
  have hlt := (List.getElem?_eq_some_iff.1 hk).1
  have hr := run_index_string (P := P) w t (strB l) kd (k : Int) ht
  rw [dif_pos ⟨by omega, by rw [strB_size]; omega⟩] at hr
  have hv : ((strB l)[(k : Int).toNat]'(by rw [strB_size]; simpa using hlt)) = c := by
    have : ∀ (s : ByteArray) (h : (k : Int).toNat < s.size), s = ⟨l.toArray⟩ → s[(k : Int).toNat]'h = c := by
      intro s h e
      subst e
      simp only [ByteArray.getElem_eq_getElem_data, Int.toNat_natCast, List.getElem_toArray]
      exact (List.getElem?_eq_some_iff.1 hk).2
    exact this _ _ (strB_eq l)
  rw [hv] at hr
  simp only [execOp, hf.eval hx, hf.eval hi]
  rw [Sem.run_bind, hr]
  rfl
theorem y_lenstr {t : TypeId} {x : Operand} {l : List UInt8} (ht : P.underlying t = some .string) (hx : opv L x = some (.string (strB l))) :
    Yl P n L m H ⟨d, .call ⟨.builtin .len, [x].toArray, [t].toArray⟩, ty, ps, af, gd⟩ (.int .i64 (l.length : Int)) :=
  fun ac hf w _ => (by
    have := run_len_string (P := P) w t ty (strB l) ht
    rw [strB_size] at this
    simp [execOp, resolve, invoke, builtin, hf.eval hx, this, goInt])
theorem y_wany {op : BinOp} {t t' : TypeId} {x y : Operand} {a b : W} {z : Int} (hx : opv L x = some (wv a)) (hy : opv L y = some (wv b)) (hv : iop op .u64 (a.toNat : Int) (b.toNat : Int) = some (.int .u64 (IntKind.u64.wrap z))) :
    Yl P n L m H ⟨d, .binOp op t x y t', ty, ps, af, gd⟩ (wv (BitVec.ofInt 64 z)) := by
  rw [wrap_u64_i] at hv
  exact y_iop hx hy hv
theorem s_strbytes {K : Slots → Snap → Hp → Prop} {src dst : TypeId} {x : Operand} {l : List UInt8} (hd : dstOk n d = true) (hx : opv L x = some (.string (strB l)))
    (hs : P.underlying src = some .string) (ht : P.underlying dst = some (.slice 5)) (he : P.underlying 5 = some (.int .u8)) (hlen : l.length ≤ maxLen)
    (h : ∀ b cap N, l.length ≤ cap → cap ≤ maxLen → l.length ≤ N → K (lput L d (.slice (some ⟨b, 0, none⟩) l.length cap)) m (sbIt b l cap N :: H)) :
    SP P n L m H ⟨d, .convert src dst x, ty, ps, af, gd⟩ K := by
  refine s_value hd fun ac w hf hst => ?_
  have hr := run_bytes_of_string (P := P) w src dst 5 (strB l) hs ht he
  have hcells : bytesRow (strB l) (grownCap w (strB l).size 0 5) = (sbCells l (grownCap w (strB l).size 0 5)).toArray := by
    unfold bytesRow sbCells
    rw [strB_size, strB_eq]
    apply Array.toList_inj.1
    simp [bv]
  have hge := grownCap_ge w (strB l).size 0 5
  have hle := grownCap_le_maxLen w (strB l).size 0 5 (by rw [strB_size]; exact hlen)
  rw [hcells] at hr
  have hN : l.length ≤ (sbCells l (grownCap w (strB l).size 0 5)).toArray.size := by simp [sbCells]
  have hexec : (execOp ac.eval ⟨d, .convert src dst x, ty, ps, af, gd⟩).run P w = .ok (.value (.slice (some ⟨w.heap.size, 0, none⟩) (strB l).size (grownCap w (strB l).size 0 5))) (w.drew.alloc (.cells (sbCells l (grownCap w (strB l).size 0 5)).toArray 5 ((sbCells l (grownCap w (strB l).size 0 5)).toArray.size, (sbCells l (grownCap w (strB l).size 0 5)).toArray.size + 1))) := by
    simp only [execOp, hf.eval hx]
    rw [Sem.run_bind, hr]
    rfl
  have h2 := h w.heap.size (grownCap w (strB l).size 0 5) _ (by rw [strB_size] at hge ⊢; exact hge) hle hN
  exact ⟨_, m, _, _, hexec, (hst.drawn _).alloc _, (strB_size l).symm ▸ h2⟩
/-- One byte put into what '[]byte(s)' laid. -/
theorem s_storesb {K : Slots → Snap → Hp → Prop} {t : TypeId} {x y : Operand} {b o k cap N i : Nat} {l : List UInt8} {c : UInt8} (hd : dstOk n d = true) (hx : opv L x = some (.pointer (some ⟨b, o, none⟩))) (ho : o = k) (hy : opv L y = some (bv c))
    (hT : tshape P t = some (false, 1)) (hi : hget H i = some (sbIt b l cap N)) (hk : k < l.length) (hN : l.length ≤ N)
    (h : K (lput L d undef) m (hset H i (sbIt b (l.set k c) cap N))) : SP P n L m H ⟨d, .store t x y, ty, ps, af, gd⟩ K := by
  rw [ho] at hx
  refine s_skip hd fun ac w hf hs => ⟨m, _, w.setRow b (sbCells (l.set k c) cap).toArray, ?_, ?_, h⟩
  · have hw : w.heap[b]? = some (.cells (sbCells l cap).toArray 5 (N, N + 1)) := hs.hold _ (hget_mem hi)
    have hlt : k < (sbCells l cap).length := by simp [sbCells]; omega
    have hcell : w.cell? ⟨b, k, none⟩ = some (sbCells l cap)[k] := by simp [World.cell?, hw, hlt]
    have hfro : w.frozen? ⟨b, k, none⟩ = false := by
      simp only [World.frozen?, hw, Bool.and_eq_false_iff, decide_eq_false_iff_not]
      left; omega
    have hst : (store ⟨b, k, none⟩ (bv c)).run P w = .ok () (w.setRow b (sbCells (l.set k c) cap).toArray) := by
      rw [run_store P w _ _ _ rfl, hcell]
      simp only [hfro, Bool.false_eq_true, if_false]
      rw [setCell_eq_setRow w b k _ 5 _ (bv c) hw, ← sbCells_set l cap k c hk]
      congr 2
      apply Array.toList_inj.1
      simp
    have hsc : (storeCells ⟨b, k, none⟩ [bv c] 0).run P w = .ok () (w.setRow b (sbCells (l.set k c) cap).toArray) := by
      have ha : (⟨b, k, none⟩ : Addr).add 0 = ⟨b, k, none⟩ := by simp [Addr.add]
      simp only [storeCells, Sem.run_bind, ha, hst, Result.andThen_ok]
      rfl
    have hsv : (storeVar t ⟨b, k, none⟩ (bv c)).run P w = .ok () (w.setRow b (sbCells (l.set k c) cap).toArray) := by
      unfold tshape at hT
      unfold storeVar sizeOf typeInfo
      cases hu : P.underlying t with
      | none => simp [hu] at hT
      | some D =>
        cases hq : P.info? t with
        | none => cases D <;> simp [hu, hq] at hT
        | some i =>
          have hsz : i.size = 1 := by cases D <;> simp only [hu, hq, Option.some.injEq, Prod.mk.injEq] at hT <;> exact hT.2
          have hc1 : (bv c).cells = #[bv c] := rfl
          simp [hq, hc1, hsz, hsc]
    simp [execOp, hf.eval hx, hf.eval hy, Instr.storeAt, Instr.sureAddr, hsv]
  · have hw : w.heap[b]? = some (.cells (sbCells l cap).toArray 5 (N, N + 1)) := hs.hold _ (hget_mem hi)
    refine hs.write_at hi rfl (setRow_heap w b _ _ _ _ hw) rfl rfl rfl fun k hk _ => setRow_other w b k _ ?_
    simpa [Item.own] using hk
end
theorem fzb_of_sb {m : Snap} {b cap : Nat} {l : List UInt8} (hc : ∀ (j : Nat) (v : Value), (sbCells l cap)[j]? = some v → m.cell b j = some v) (hle : l.length ≤ cap) (hm : cap ≤ maxLen) : FzB m ⟨some ⟨b, 0, none⟩, l.length, cap⟩ l :=
  ⟨by simp [bytes1], fun c hc => by obtain ⟨x, _, rfl⟩ := List.mem_map.1 hc; rfl, hle, hm, fun k c hk => by
    obtain ⟨x, hx, rfl⟩ : ∃ x, l[k]? = some x ∧ [bv x] = c := by simpa [bytes1] using hk
    refine ⟨b, 0, rfl, fun j v hj => ?_⟩
    cases j with
    | succ j => simp at hj
    | zero =>
      simp only [List.getElem?_cons_zero, Option.some.injEq] at hj
      subst hj
      refine hc _ _ ?_
      have hlt := (List.getElem?_eq_some_iff.1 hx).1
      unfold sbCells
      rw [List.getElem?_append_left (by simp; omega)]
      simp [hx]⟩
end Go.Aw
namespace Go.Aw
open Go
theorem bit_and1 (x : W) (k : Nat) : ((x >>> k) &&& 1#64 == 1#64) = x.getLsbD k := by
  rw [Bool.eq_iff_iff, beq_iff_eq, ← BitVec.toNat_inj]
  simp [BitVec.getLsbD, Nat.testBit, Nat.and_one_is_mod, Nat.one_and_eq_mod_two]
  try omega
def zipAll (F : UInt8 → UInt8 → Bool) (x y : List UInt8) : Bool := (List.zip x y).all fun p => F p.1 p.2
theorem zipAll_append {F : UInt8 → UInt8 → Bool} {x x' y y' : List UInt8} (h : x.length = y.length) : zipAll F (x ++ x') (y ++ y') = (zipAll F x y && zipAll F x' y') := by
  unfold zipAll
  rw [List.zip_append h, List.all_append]
theorem row_all {F : UInt8 → UInt8 → Bool} {v c v' c' : W} : ∀ n, zipAll F (List.zipWith tch (bitsL v n) (bitsL c n)) (List.zipWith tch (bitsL v' n) (bitsL c' n)) = true ↔ ∀ k, k < n → F (tch (v.getLsbD k) (c.getLsbD k)) (tch (v'.getLsbD k) (c'.getLsbD k)) = true
  | 0 => by simp [bitsL, zipAll]
  | n + 1 => by
    have ih := row_all (F := F) (v := v) (c := c) (v' := v') (c' := c') n
    unfold zipAll at ih ⊢
    simp only [bitsL, bit_and1, List.zipWith_cons_cons, List.zip_cons_cons, List.all_cons, Bool.and_eq_true]
    rw [ih]
    constructor
    · rintro ⟨h1, h2⟩ k hk
      rcases Nat.lt_or_ge k n with h | h
      · exact h2 k h
      · obtain rfl : k = n := by omega
        exact h1
    · intro h
      exact ⟨h n (by omega), fun k hk => h k (by omega)⟩
theorem textN_len2 (a b : Cube) : ∀ n, (textN a n).length = (textN b n).length
  | 0 => rfl
  | n + 1 => by simp only [textN, List.length_append, rowT_len, textN_len2 a b n]
theorem text_all {F : UInt8 → UInt8 → Bool} {a b : Cube} : ∀ n, zipAll F (textN a n) (textN b n) = true ↔ ∀ i, i < n → ∀ k, k < hsz (i : Int) → F (tch ((a.value.at i).getLsbD k) ((a.care.at i).getLsbD k)) (tch ((b.value.at i).getLsbD k) ((b.care.at i).getLsbD k)) = true
  | 0 => by simp [textN, zipAll]
  | n + 1 => by
    simp only [textN]
    rw [zipAll_append (textN_len2 a b n), Bool.and_eq_true, text_all n]
    unfold rowT
    rw [row_all]
    constructor
    · rintro ⟨h1, h2⟩ i hi
      rcases Nat.lt_or_ge i n with h | h
      · exact h1 i h
      · obtain rfl : i = n := by omega
        exact h2
    · intro h
      exact ⟨fun i hi => h i (by omega), h n (by omega)⟩
def withinF (x y : UInt8) : Bool := y == 120 || x == y
def meetF (x y : UInt8) : Bool := x == 120 || !(y != 120 && x != y)
theorem withinF_t (p q p' q' : Bool) : withinF (tch p q) (tch p' q') = (!q' || (q && p == p')) := by cases p <;> cases q <;> cases p' <;> cases q' <;> decide
theorem meetF_t (p q p' q' : Bool) : meetF (tch p q) (tch p' q') = !(q && q' && p != p') := by cases p <;> cases q <;> cases p' <;> cases q' <;> decide
end Go.Aw
namespace Go.Aw
open Go
structure CB (c : Cube) : Prop where
  sub : ∀ i, i < 12 → ∀ k, (c.value.at i).getLsbD k = true → (c.care.at i).getLsbD k = true
  fit : ∀ i : Nat, i < 12 → ∀ k, hsz (i : Int) ≤ k → (c.care.at i).getLsbD k = false
theorem CB.of {c : Cube} (h : cubeSound c = true) : CB c := by
  unfold cubeSound headSound at h
  simp only [Bool.and_eq_true, List.all_eq_true, List.mem_range, beq_iff_eq] at h
  refine ⟨fun i hi k hv => ?_, fun i hi k hk => ?_⟩
  · have := congrArg (fun x => x.getLsbD k) (h.2 i hi)
    simp [hv] at this
    by_cases hk : k < 64
    · exact this hk
    · rw [BitVec.getLsbD_of_ge _ _ (by omega)] at hv; cases hv
  · have h1 := h.1 i hi
    unfold fits at h1
    rw [beq_iff_eq] at h1
    have := congrArg (fun x => x.getLsbD (k - hsz (i : Int))) h1
    simp only [BitVec.getLsbD_ushiftRight] at this
    rw [Nat.add_sub_cancel' hk] at this
    simpa using this
theorem cubeMeet_eq {a b : Cube} : cubeMeet a b = a ↔ ∀ i, i < 12 → (a.value.at i ||| b.value.at i = a.value.at i) ∧ (a.care.at i ||| b.care.at i = a.care.at i) := by
  have hm : ∀ (h g : Head) (i : Nat), i < 12 → (h.merge g 12).at i = h.at i ||| g.at i := by
    intro h g i hi
    rw [at_lt hi, at_lt hi, at_lt hi]
    unfold Head.merge
    rw [if_pos hi]
  have hx : ∀ (h g : Head), (∀ i, i < 12 → h.at i = g.at i) → h = g := by
    intro h g hh
    funext k
    have := hh k.val k.isLt
    rw [at_lt k.isLt, at_lt k.isLt] at this
    exact this
  unfold cubeMeet cubeMerge
  constructor
  · intro h i hi
    have h1 := congrArg Cube.value h
    have h2 := congrArg Cube.care h
    simp only at h1 h2
    exact ⟨by rw [← hm _ _ i hi, h1], by rw [← hm _ _ i hi, h2]⟩
  · intro h
    cases a
    simp only [Cube.mk.injEq] at h ⊢
    exact ⟨hx _ _ fun i hi => by rw [hm _ _ i hi]; exact (h i hi).1, hx _ _ fun i hi => by rw [hm _ _ i hi]; exact (h i hi).2⟩
theorem clash_bits {a b : Cube} (ha : CB a) (hb : CB b) {i : Nat} (hi : i < 12) : cubeClash a b i = true ↔ ∀ k, k < hsz (i : Int) → meetF (tch ((a.value.at i).getLsbD k) ((a.care.at i).getLsbD k)) (tch ((b.value.at i).getLsbD k) ((b.care.at i).getLsbD k)) = true := by
  simp only [meetF_t]
  unfold cubeClash
  rw [beq_iff_eq]
  constructor
  · intro h k hk
    have := congrArg (fun x => x.getLsbD k) h
    simp at this
    generalize (a.value.at i).getLsbD k = p at this ⊢
    generalize (a.care.at i).getLsbD k = q at this ⊢
    generalize (b.value.at i).getLsbD k = p' at this ⊢
    generalize (b.care.at i).getLsbD k = q' at this ⊢
    revert this
    cases p <;> cases q <;> cases p' <;> cases q' <;> decide
  · intro h
    refine BitVec.eq_of_getLsbD_eq fun k hk => ?_
    rcases Nat.lt_or_ge k (hsz (i : Int)) with hlt | hge
    · have := h k hlt
      simp
      generalize (a.value.at i).getLsbD k = p at this ⊢
      generalize (a.care.at i).getLsbD k = q at this ⊢
      generalize (b.value.at i).getLsbD k = p' at this ⊢
      generalize (b.care.at i).getLsbD k = q' at this ⊢
      revert this
      cases p <;> cases q <;> cases p' <;> cases q' <;> decide
    · have f := ha.fit i hi k hge
      simp [f]
theorem meet_text {a b : Cube} : cubeMeetOk a b = (cubeSound a && cubeSound b && zipAll meetF (textN a 12) (textN b 12)) := by
  unfold cubeMeetOk
  cases ha : cubeSound a with
  | false => rfl
  | true =>
    cases hb : cubeSound b with
    | false => rfl
    | true =>
      simp only [Bool.and_self, Bool.true_and]
      rw [Bool.eq_iff_iff, text_all, List.all_eq_true]
      simp only [List.mem_range]
      constructor
      · intro h i hi
        exact (clash_bits (CB.of ha) (CB.of hb) hi).1 (h i hi)
      · intro h i hi
        exact (clash_bits (CB.of ha) (CB.of hb) hi).2 (h i hi)
theorem within_bits {a b : Cube} (ha : CB a) (hb : CB b) {i : Nat} (hi : i < 12) : (cubeClash a b i = true ∧ (a.value.at i ||| b.value.at i = a.value.at i) ∧ (a.care.at i ||| b.care.at i = a.care.at i)) ↔ ∀ k, k < hsz (i : Int) → withinF (tch ((a.value.at i).getLsbD k) ((a.care.at i).getLsbD k)) (tch ((b.value.at i).getLsbD k) ((b.care.at i).getLsbD k)) = true := by
  rw [clash_bits ha hb hi]
  simp only [meetF_t, withinF_t]
  constructor
  · rintro ⟨h0, h1, h2⟩ k hk
    have e0 := h0 k hk
    have e1 := congrArg (fun x => x.getLsbD k) h1
    have e2 := congrArg (fun x => x.getLsbD k) h2
    simp only [BitVec.getLsbD_or] at e1 e2
    generalize (a.value.at i).getLsbD k = p at *
    generalize (a.care.at i).getLsbD k = q at *
    generalize (b.value.at i).getLsbD k = p' at *
    generalize (b.care.at i).getLsbD k = q' at *
    clear h0 h1 h2
    revert e0 e1 e2
    cases p <;> cases q <;> cases p' <;> cases q' <;> decide
  · intro h
    refine ⟨fun k hk => ?_, BitVec.eq_of_getLsbD_eq fun k hk => ?_, BitVec.eq_of_getLsbD_eq fun k hk => ?_⟩
    · have e0 := h k hk
      clear h
      revert e0
      generalize (a.value.at i).getLsbD k = p
      generalize (a.care.at i).getLsbD k = q
      generalize (b.value.at i).getLsbD k = p'
      generalize (b.care.at i).getLsbD k = q'
      cases p <;> cases q <;> cases p' <;> cases q' <;> decide
    · rw [BitVec.getLsbD_or]
      have sb := hb.sub i hi k
      rcases Nat.lt_or_ge k (hsz (i : Int)) with hlt | hge
      · have e0 := h k hlt
        clear h
        revert e0 sb
        generalize (a.value.at i).getLsbD k = p
        generalize (a.care.at i).getLsbD k = q
        generalize (b.value.at i).getLsbD k = p'
        generalize (b.care.at i).getLsbD k = q'
        cases p <;> cases q <;> cases p' <;> cases q' <;> decide
      · have f := hb.fit i hi k hge
        rw [f] at sb
        revert sb
        generalize (a.value.at i).getLsbD k = p
        generalize (b.value.at i).getLsbD k = p'
        cases p <;> cases p' <;> decide
    · rw [BitVec.getLsbD_or]
      rcases Nat.lt_or_ge k (hsz (i : Int)) with hlt | hge
      · have e0 := h k hlt
        clear h
        revert e0
        generalize (a.value.at i).getLsbD k = p
        generalize (a.care.at i).getLsbD k = q
        generalize (b.value.at i).getLsbD k = p'
        generalize (b.care.at i).getLsbD k = q'
        cases p <;> cases q <;> cases p' <;> cases q' <;> decide
      · rw [hb.fit i hi k hge]; simp
theorem within_text {a b : Cube} : cubeWithin a b = (cubeSound a && zipAll withinF (textN a 12) (textN b 12) && cubeSound b) := by
  unfold cubeWithin cubeMeetOk
  cases ha : cubeSound a with
  | false => rfl
  | true =>
    cases hb : cubeSound b with
    | false => simp
    | true =>
      simp only [Bool.and_self, Bool.true_and, Bool.and_true]
      rw [Bool.eq_iff_iff, text_all, Bool.and_eq_true, List.all_eq_true, decide_eq_true_iff, cubeMeet_eq]
      simp only [List.mem_range]
      constructor
      · rintro ⟨h1, h2⟩ i hi
        exact (within_bits (CB.of ha) (CB.of hb) hi).1 ⟨h1 i hi, h2 i hi⟩
      · intro h
        exact ⟨fun i hi => ((within_bits (CB.of ha) (CB.of hb) hi).2 (h i hi)).1, fun i hi => ((within_bits (CB.of ha) (CB.of hb) hi).2 (h i hi)).2⟩
def tlen : Nat → Nat
  | 0 => 0
  | i + 1 => tlen i + hsz (i : Int)
theorem textN_tlen (c : Cube) : ∀ i, (textN c i).length = tlen i
  | 0 => rfl
  | i + 1 => by simp only [textN, tlen, List.length_append, rowT_len, textN_tlen c i]
theorem tlen_lt {i j : Nat} (hi : i < 12) (hj : j < hsz (i : Int)) : tlen i + j < tlen 12 := by
  have h : ∀ n, i < n → tlen (i + 1) ≤ tlen n := by
    intro n
    induction n with
    | zero => intro h; omega
    | succ n ih =>
      intro h
      rcases Nat.lt_or_ge i n with h1 | h1
      · exact Nat.le_trans (ih h1) (Nat.le_add_right _ _)
      · obtain rfl : i = n := by omega
        exact Nat.le_refl _
  have := h 12 hi
  simp only [tlen] at this ⊢
  omega
theorem tlen_le : tlen 12 ≤ 576 := by rw [← textN_tlen zCube 12]; exact textN_len zCube 12
theorem zipAll_step {F : UInt8 → UInt8 → Bool} {x y : List UInt8} {i : Nat} {p q : UInt8} (hp : x[i]? = some p) (hq : y[i]? = some q) : zipAll F (x.take (i + 1)) (y.take (i + 1)) = (zipAll F (x.take i) (y.take i) && F p q) := by
  have h1 := (List.getElem?_eq_some_iff.1 hp).1
  have h2 := (List.getElem?_eq_some_iff.1 hq).1
  rw [List.take_add_one, List.take_add_one, hp, hq, zipAll_append (by simp; omega)]
  simp [zipAll]
theorem zipAll_false {F : UInt8 → UInt8 → Bool} {x y : List UInt8} {i : Nat} {p q : UInt8} (hp : x[i]? = some p) (hq : y[i]? = some q) (h : F p q = false) : zipAll F x y = false := by
  unfold zipAll
  rw [List.all_eq_false]
  refine ⟨(p, q), List.mem_of_getElem? (i := i) ?_, by simp [h]⟩
  simp [List.getElem?_zip_eq_some, hp, hq]
theorem u8_beq (x y : UInt8) : (x == y) = ((x.toNat : Int) == (y.toNat : Int)) := by
  rw [Bool.eq_iff_iff, beq_iff_eq, beq_iff_eq, Int.ofNat_inj, UInt8.toNat_inj]
theorem withinF_i (x y : UInt8) : withinF x y = (((y.toNat : Int) == 120) || ((x.toNat : Int) == (y.toNat : Int))) := by unfold withinF; rw [u8_beq, u8_beq]; rfl
theorem meetF_i (x y : UInt8) : meetF x y = (((x.toNat : Int) == 120) || !(((y.toNat : Int) != 120) && ((x.toNat : Int) != (y.toNat : Int)))) := by unfold meetF bne; rw [u8_beq, u8_beq, u8_beq]; rfl
end Go.Aw
namespace Go.Aw
open Go
theorem FzR.cut {m : Snap} {s : Sl} {lr : List (RuleD × Sl)} (h : FzR m s lr) {lo hi : Nat} (h1 : lo ≤ hi) (h2 : hi ≤ s.n) : FzR m (s.cut lo hi 32) ((lr.drop lo).take (hi - lo)) :=
  ⟨by
    have := h.fz.slice h1 h2
    have e : ((lr.drop lo).take (hi - lo)).map (fun p => encRule p.1 p.2) = ((lr.map fun p => encRule p.1 p.2).drop lo).take (hi - lo) := by rw [List.map_take, List.map_drop]
    rw [e]; exact this, fun p hp => h.acts p (List.mem_of_mem_drop (List.mem_of_mem_take hp))⟩
theorem FzR.from {m : Snap} {s : Sl} {lr : List (RuleD × Sl)} (h : FzR m s lr) {lo : Nat} (h1 : lo ≤ s.n) : FzR m (s.cut lo s.n 32) (lr.drop lo) := by
  have := h.cut h1 (Nat.le_refl _)
  rwa [List.take_of_length_le (by rw [List.length_drop, ← h.len]; exact Nat.le_refl _)] at this
theorem cut_nil {s : Sl} {lo hi : Nat} (h : s.a = none → s.cap = 0) : (s.cut lo hi 32).a = none → (s.cut lo hi 32).cap = 0 := by
  intro h1
  show s.cap - lo = 0
  have : s.a = none := by
    unfold Sl.cut sadd at h1
    simp only at h1
    split at h1
    · exact h1
    · simpa using h1
  rw [h this]; omega
theorem FzR.src {m : Snap} {H : Hp} {s : Sl} {lr : List (RuleD × Sl)} (h : FzR m s lr) (hn : s.a = none → s.cap = 0) : Src m H s.v s.n 32 (lr.map fun p => encRule p.1 p.2) :=
  Src.fz h.fz (fun c hc u hu => by obtain ⟨x, _, rfl⟩ := List.mem_map.1 hc; exact one_rule _ _ u hu) hn
/-- A slice's first rows, its room left as it is. -/
theorem FzR.first {m : Snap} {a : Option Addr} {n c : Nat} {lr : List (RuleD × Sl)} (h : FzR m ⟨a, n, c⟩ lr) {p : Nat} (hp : p ≤ n) : FzR m ⟨a, p, c⟩ (lr.take p) := by
  have h2 := h.fz.slice (lo := 0) (hi := p) (Nat.zero_le _) hp
  refine ⟨?_, fun q hq => h.acts q (List.mem_of_mem_take hq)⟩
  rw [List.map_take]
  have e : sadd a 0 32 c = a := sadd_zero ..
  rw [e, List.drop_zero] at h2
  exact h2
theorem fzr_of {m : Snap} {a : Option Addr} {n c : Nat} {rows : List (List Value)} {lr : List (RuleD × Sl)} (h : Fz m a n c 32 rows) (he : rows = lr.map fun p => encRule p.1 p.2) (ha : AllA m lr) : FzR m ⟨a, n, c⟩ lr := ⟨he ▸ h, ha⟩
theorem AllA.of {m : Snap} {s : Sl} {lr : List (RuleD × Sl)} (h : FzR m s lr) : AllA m lr := h.acts
theorem AllA.sub {m : Snap} {l l' : List (RuleD × Sl)} (h : AllA m l) (hs : ∀ x ∈ l', x ∈ l) : AllA m l' := fun p hp => h p (hs p hp)
theorem AllA.app {m : Snap} {l l' : List (RuleD × Sl)} (h : AllA m l) (h' : AllA m l') : AllA m (l ++ l') := fun p hp => by
  rcases List.mem_append.1 hp with hp | hp
  · exact h p hp
  · exact h' p hp
/-- Where the reference's scan stands. -/
def ScanP (l : List RuleD) (r : RuleD) (p : Nat) : Prop := ∀ (q : Nat) (x : RuleD), q < p → l[q]? = some x → ruleCmp x r < 0
theorem ScanP.next {l : List RuleD} {r x : RuleD} {p : Nat} (h : ScanP l r p) (hx : l[p]? = some x) (hb : ruleBefore x r = true) : ScanP l r (p + 1) := fun q y hq hy => by
  rcases Nat.lt_or_ge q p with h1 | h1
  · exact h q y h1 hy
  · obtain rfl : q = p := by omega
    rw [hx] at hy; cases hy
    simpa [ruleBefore] using hb
theorem ScanP.low {l : List RuleD} {r : RuleD} {p : Nat} (h : ScanP l r p) (hs : Srt l) (he : l.length ≤ p ∨ ∃ x, l[p]? = some x ∧ ruleBefore x r = false) : LowP l r p := by
  refine ⟨h, fun q y hq hy => ?_⟩
  have hlt := (List.getElem?_eq_some_iff.1 hy).1
  rcases he with he | ⟨x, hx, hb⟩
  · omega
  · have hnb : ¬ ruleCmp x r < 0 := by simpa [ruleBefore] using hb
    rcases Nat.lt_or_ge p q with h1 | h1
    · intro hc
      have hpl := (List.getElem?_eq_some_iff.1 hx).1
      have h3 := List.pairwise_iff_getElem.1 hs p q hpl hlt h1
      rw [(List.getElem?_eq_some_iff.1 hx).2, (List.getElem?_eq_some_iff.1 hy).2] at h3
      exact hnb (ruleCmp_trans h3 hc)
    · obtain rfl : q = p := by omega
      rw [hx] at hy; cases hy; exact hnb
theorem insR_at {l : List RuleD} {r y : RuleD} {p : Nat} (h : LowP l r p) (hy : l[p]? = some y) (hk : ruleKey y r = true) : insR l r = l.take p ++ r :: l.drop (p + 1) := by
  rw [insR_set h hy (ruleCmp_zero.2 hk)]
  have hlt := (List.getElem?_eq_some_iff.1 hy).1
  rw [List.set_eq_take_append_cons_drop, if_pos hlt]
theorem insR_new {l : List RuleD} {r : RuleD} {p : Nat} (h : LowP l r p) (hp : p ≤ l.length) (hk : ∀ y, l[p]? = some y → ruleKey y r = false) : insR l r = l.take p ++ r :: l.drop p :=
  insR_ins h hp fun y hy h0 => by have := ruleCmp_zero.1 h0; rw [hk y hy] at this; cases this
section
variable {P : Program} {n : Nat} {L : Slots} {m : Snap} {H : Hp} {Q : Post} {ops : Array Oper} {fuel : Nat} {listed : Array Bool}
end
end Go.Aw
namespace Go.Aw
open Go
def rowsN (l : List Nat) : List (List Value) := l.map fun (k : Nat) => [Value.int .i64 (k : Int)]
abbrev FzN (m : Snap) (s : Sl) (l : List Nat) : Prop := Fz m s.a s.n s.cap 1 (rowsN l)
theorem Fz.lenN {m : Snap} {s : Sl} {l : List Nat} (h : FzN m s l) : s.n = l.length := by have := h.len; simpa [rowsN] using this.symm
theorem rowsN_get {l : List Nat} {j k : Nat} (h : l[j]? = some k) : (rowsN l)[j]? = some [Value.int .i64 (k : Int)] := by simp [rowsN, h]
theorem rowsN_snoc (l : List Nat) (k : Nat) : rowsN (l ++ [k]) = rowsN l ++ [[Value.int .i64 (k : Int)]] := by simp [rowsN]
def pAt (q : RuleD → Bool) (l : List RuleD) (k : Nat) : Bool := match l[k]? with
  | some r => q r
  | none => false
theorem pAt_some {q : RuleD → Bool} {l : List RuleD} {k : Nat} {r : RuleD} (h : l[k]? = some r) : pAt q l k = q r := by unfold pAt; rw [h]
def remT (p : Nat → Bool) (i n : Nat) : List Nat := (List.range' i (n - i)).filter p
theorem range_remT (p : Nat → Bool) (n : Nat) : (List.range n).filter p = remT p 0 n := by unfold remT; rw [List.range_eq_range']; simp
theorem remT_step (p : Nat → Bool) {i n : Nat} (h : i < n) : remT p i n = if p i then i :: remT p (i + 1) n else remT p (i + 1) n := by
  unfold remT
  obtain ⟨k, hk⟩ : ∃ k, n - i = k + 1 := ⟨n - i - 1, by omega⟩
  have hk2 : n - (i + 1) = k := by omega
  rw [hk, hk2, List.range'_succ, List.filter_cons]
theorem remT_ge {p : Nat → Bool} {i n k : Nat} (h : k ∈ remT p i n) : i ≤ k := by
  unfold remT at h
  have := (List.mem_filter.1 h).1
  exact (List.mem_range'_1.1 this).1
theorem rem_head {p : Nat → Bool} {i n k : Nat} (hi : i < n) (h : (remT p i n)[0]? = some k) : p i = decide ((k : Int) = (i : Int)) := by
  rw [remT_step p hi] at h
  cases hp : p i with
  | true =>
    rw [hp, if_pos rfl] at h
    simp at h; subst h; simp
  | false =>
    rw [hp, if_neg (by decide)] at h
    have := remT_ge (List.mem_of_getElem? h)
    exact (decide_eq_false (by omega)).symm
theorem rem_nil {p : Nat → Bool} {i n : Nat} (hi : i < n) (h : (remT p i n).length = 0) : p i = false := by
  rw [remT_step p hi] at h
  cases hp : p i with
  | true => rw [hp, if_pos rfl] at h; simp at h
  | false => rfl
theorem rem_t {p : Nat → Bool} {i n : Nat} (hi : i < n) (h : p i = true) : (remT p i n).drop 1 = remT p (i + 1) n := by
  rw [remT_step p hi, h, if_pos rfl]; rfl
theorem rem_f {p : Nat → Bool} {i n : Nat} (hi : i < n) (h : p i = false) : remT p i n = remT p (i + 1) n := by
  rw [remT_step p hi, h, if_neg (by decide)]
theorem FzN.from {m : Snap} {s : Sl} {l : List Nat} (h : FzN m s l) {lo : Nat} (h1 : lo ≤ s.n) : FzN m (s.cut lo s.n 1) (l.drop lo) := by
  have h2 := Fz.slice h h1 (Nat.le_refl _)
  have hl := Fz.lenN h
  have e : rowsN (l.drop lo) = ((rowsN l).drop lo).take (s.n - lo) := by
    unfold rowsN
    rw [List.map_drop, List.take_of_length_le (by simp; omega)]
  show Fz m _ _ _ 1 (rowsN _)
  rw [e]; exact h2
def touchQ (x : ModD) (r : RuleD) : Bool := modTouches x r && modSound x
theorem any_take_step {p : RuleD → Bool} {l : List RuleD} {i : Nat} {r : RuleD} (h : l[i]? = some r) : (l.take (i + 1)).any p = ((l.take i).any p || p r) := by
  rw [List.take_add_one, h, List.any_append]; simp
end Go.Aw
namespace Go.Aw
open Go
theorem modSound_acts2 {x : ModD} (h : modSound x = true) : actsSound x.acts = true := by
  unfold modSound at h
  split at h
  · cases h
  · rename_i h0
    simp only [Bool.or_eq_true, Bool.not_eq_true', not_or, Bool.not_eq_false] at h0
    simp_all
theorem modR1_key {x : ModD} {r r' : RuleD} (h : modR1 x r = some r') : r'.m = r.m ∧ r'.prio = r.prio ∧ r'.owner = r.owner := by
  unfold modR1 at h
  split at h
  · split at h
    · cases h
    · cases h; exact ⟨rfl, rfl, rfl⟩
  · cases h; exact ⟨rfl, rfl, rfl⟩
theorem modR1_sound {x : ModD} {r r' : RuleD} (hx : modSound x = true) (hr : ruleSound r = true) (h : modR1 x r = some r') : ruleSound r' = true := by
  unfold modR1 at h
  split at h
  · split at h
    · cases h
    · cases h
      unfold ruleSound at hr ⊢
      simp only [Bool.and_eq_true] at hr ⊢
      simp_all [modSound_acts2 hx]
  · cases h; exact hr
theorem ruleCmp_congr {a a' b b' : RuleD} (h1 : a'.m = a.m) (h2 : a'.prio = a.prio) (h3 : b'.m = b.m) (h4 : b'.prio = b.prio) : ruleCmp a' b' = ruleCmp a b := by
  unfold ruleCmp; rw [h1, h2, h3, h4]
theorem srt_map {x : ModD} {l : List RuleD} (h : Srt l) : Srt (l.filterMap (modR1 x)) := by
  refine List.Pairwise.filterMap _ ?_ h
  intro a a' hc b hb b' hb'
  have h1 := modR1_key hb
  have h2 := modR1_key hb'
  rw [ruleCmp_congr h1.1 h1.2.1 h2.1 h2.2.1]; exact hc
theorem applyR_table {l : List RuleD} {x : ModD} {room : Int} (h : (applyR l x room).2 = 0) : ruleTable (applyR l x room).1 = true := by
  unfold applyR at h ⊢
  split at h
  · cases h
  · rename_i h0
    rw [if_neg h0]
    simp only [Bool.not_eq_true', Bool.not_eq_false] at h0
    have h0 := (Bool.and_eq_true _ _).mp (by simpa using h0)
    split at h
    · rename_i k
      rw [if_pos k]
      unfold addR at h ⊢
      repeat' split
      all_goals first | exact sortR_table _ | (exfalso; simp_all; done) | rfl
    · rename_i k
      rw [if_neg k]
      have ht := table_iff.1 h0.1
      refine table_iff.2 ⟨fun r hr => ?_, srt_map ht.2⟩
      obtain ⟨q, hq, hqr⟩ := List.mem_filterMap.1 hr
      exact modR1_sound h0.2 (ht.1 q hq) hqr
/-- A table of the call's own is given up, the slice's room being its length or all that stands behind it. -/
theorem St.freezeC {m : Snap} {w : World} {H : Hp} {a : Option Addr} {n cap c : Nat} {l : List OwnR} (hok : ∀ o ∈ l, o.ok) (hc : c = n ∨ c = cap) (h : St m (rowO a n cap l :: (itsO l ++ H)) w) :
    ∃ m', m.le m' ∧ St m' H w ∧ FzR m' ⟨a, n, c⟩ (l.map fun o => (o.r, o.s)) ∧ (a = none → c = 0) := by
  obtain ⟨m1, g1, g2, g3, g4⟩ := St.freezeVec (i := 0) h rfl (by decide)
  obtain ⟨m2, k1, k2, k3⟩ := St.freezeIts l hok (show St m1 (itsO l ++ H) w from g2)
  have e : ((l.map fun o => (o.r, o.s)).map fun p => encRule p.1 p.2) = l.map OwnR.enc := by simp [OwnR.enc]
  refine ⟨m2, g1.trans k1, k2, ⟨?_, fun p hp => ?_⟩, fun hn => ?_⟩
  · show Fz m2 a n c 32 _
    rw [e]
    rcases hc with rfl | rfl
    · exact (g3.mono k1).clip
    · exact g3.mono k1
  · obtain ⟨o, ho, rfl⟩ := List.mem_map.1 hp
    exact k3 o ho
  · have := g4 hn
    have hle := g3.le
    rcases hc with rfl | rfl <;> omega
end Go.Aw
namespace Go.Aw
open Go
theorem applyR_len (l : List RuleD) (x : ModD) (room : Int) : (applyR l x room).1.length ≤ l.length + 1 := by
  unfold applyR
  split
  · simp
  · split
    · unfold addR
      repeat' split
      all_goals first | (simp; done) | (have := sortR_len (l ++ [modRule x]); simp at this; exact this)
    · exact Nat.le_trans (List.length_filterMap_le ..) (Nat.le_succ _)
end Go.Aw
namespace Go.Aw
open Go
theorem within_meet {r a b : Cube} (h : cubeWithin r a = true) (h2 : cubeMeetOk r b = true) : cubeMeetOk a b = true := by
  rw [within_text] at h
  rw [meet_text] at h2 ⊢
  simp only [Bool.and_eq_true] at h h2 ⊢
  refine ⟨⟨h.2, h2.1.2⟩, ?_⟩
  rw [text_all] at h2 ⊢
  have h1 := (text_all (F := withinF) 12).1 h.1.2
  intro i hi k hk
  have e1 := h1 i hi k hk
  have e2 := h2.2 i hi k hk
  rw [withinF_t] at e1
  rw [meetF_t] at e2 ⊢
  generalize (r.value.at i).getLsbD k = p at *
  generalize (r.care.at i).getLsbD k = q at *
  generalize (a.value.at i).getLsbD k = p' at *
  generalize (a.care.at i).getLsbD k = q' at *
  generalize (b.value.at i).getLsbD k = p'' at *
  generalize (b.care.at i).getLsbD k = q'' at *
  clear h1 h2 h
  revert e1 e2
  cases p <;> cases q <;> cases p' <;> cases q' <;> cases p'' <;> cases q'' <;> decide
theorem within_refl_meet {r a : Cube} (h : cubeWithin r a = true) : cubeMeetOk r a = true := by
  unfold cubeWithin at h
  exact (Bool.and_eq_true _ _ ▸ h : _ ∧ _).1
theorem meet_comm (a b : Cube) : cubeMeetOk a b = cubeMeetOk b a := by
  rw [meet_text, meet_text, Bool.and_comm (cubeSound a)]
  congr 1
  rw [Bool.eq_iff_iff, text_all, text_all]
  constructor <;>
  · intro h i hi k hk
    have e := h i hi k hk
    rw [meetF_t] at e ⊢
    revert e
    generalize BitVec.getLsbD _ k = p
    generalize BitVec.getLsbD _ k = q
    generalize BitVec.getLsbD _ k = p'
    generalize BitVec.getLsbD _ k = q'
    cases p <;> cases q <;> cases p' <;> cases q' <;> decide
theorem meet_self {a : Cube} (h : cubeSound a = true) : cubeMeetOk a a = true := by
  rw [meet_text, h]
  simp only [Bool.and_self, Bool.true_and]
  rw [text_all]
  intro i hi k hk
  rw [meetF_t]; simp
/-- What a change looks for: rules that it touches, or that have its key. -/
def hits (x : ModD) (r : RuleD) : Bool := cubeMeetOk r.m x.m
theorem touches_hits {x : ModD} {r : RuleD} (hr : cubeSound r.m = true) (h : modTouches x r = true) : cubeMeetOk r.m x.m = true := by
  unfold modTouches at h
  split at h
  · exact within_refl_meet (Bool.and_eq_true _ _ ▸ h : _ ∧ _).2
  · split at h
    · have h2 := (Bool.and_eq_true _ _ ▸ h : _ ∧ _).2
      unfold ruleKey modRule at h2
      simp at h2
      rw [← h2.1]; exact meet_self hr
    · cases h
/-- A rule that a change touches is met by no rule that is disjoint from the change. -/
theorem touches_meet {x : ModD} {r : RuleD} {c : Cube} (h : modTouches x r = true) (h2 : cubeMeetOk r.m c = true) : cubeMeetOk x.m c = true := by
  unfold modTouches at h
  split at h
  · exact within_meet (Bool.and_eq_true _ _ ▸ h : _ ∧ _).2 h2
  · split at h
    · have h3 := (Bool.and_eq_true _ _ ▸ h : _ ∧ _).2
      unfold ruleKey modRule at h3
      simp at h3
      rw [← h3.1]; exact h2
    · cases h
end Go.Aw
namespace Go.Aw
open Go
theorem srt_ext : ∀ {l l' : List RuleD}, Srt l → Srt l' → (∀ x, x ∈ l ↔ x ∈ l') → l = l'
  | [], [], _, _, _ => rfl
  | [], y :: l', _, _, h => by have := (h y).2 List.mem_cons_self; cases this
  | x :: l, [], _, _, h => by have := (h x).1 List.mem_cons_self; cases this
  | x :: l, y :: l', h1, h2, h => by
    have p1 := List.pairwise_cons.1 h1
    have p2 := List.pairwise_cons.1 h2
    have irr : ∀ {a b : RuleD}, ruleCmp a b < 0 → ruleCmp b a < 0 → False := fun {a b} ha hb => by rw [ruleCmp_anti a b] at hb; omega
    have hxy : x = y := by
      rcases List.mem_cons.1 ((h x).1 List.mem_cons_self) with e | e
      · exact e
      · rcases List.mem_cons.1 ((h y).2 List.mem_cons_self) with e' | e'
        · exact e'.symm
        · exact (irr (p1.1 y e') (p2.1 x e)).elim
    subst hxy
    have irx : ∀ {a : RuleD}, ¬ ruleCmp a a < 0 := fun {a} ha => irr ha ha
    rw [srt_ext p1.2 p2.2 fun z => ?_]
    constructor
    · intro hz
      rcases List.mem_cons.1 ((h z).1 (List.mem_cons_of_mem _ hz)) with e | e
      · subst e; exact (irx (p1.1 z hz)).elim
      · exact e
    · intro hz
      rcases List.mem_cons.1 ((h z).2 (List.mem_cons_of_mem _ hz)) with e | e
      · subst e; exact (irx (p2.1 z hz)).elim
      · exact e
theorem mem_insR {r y : RuleD} : ∀ {l : List RuleD}, Srt l → (y ∈ insR l r ↔ y = r ∨ (y ∈ l ∧ ruleCmp y r ≠ 0))
  | [], _ => by simp [insR]
  | x :: l, h => by
    have p := List.pairwise_cons.1 h
    have ih := mem_insR (r := r) (y := y) p.2
    unfold insR
    split
    · rename_i hx
      rw [List.mem_cons, ih, List.mem_cons]
      constructor
      · rintro (e | e | ⟨e, e2⟩)
        · subst e; exact .inr ⟨.inl rfl, by omega⟩
        · exact .inl e
        · exact .inr ⟨.inr e, e2⟩
      · rintro (e | ⟨e | e, e2⟩)
        · exact .inr (.inl e)
        · exact .inl e
        · exact .inr (.inr ⟨e, e2⟩)
    · split
      · rename_i hx
        have hk := ruleCmp_zero.1 hx
        rw [List.mem_cons, List.mem_cons]
        constructor
        · rintro (e | e)
          · exact .inl e
          · refine .inr ⟨.inr e, ?_⟩
            have := p.1 y e
            rw [ruleKey_cmp_l hk, ruleCmp_anti y r] at this
            omega
        · rintro (e | ⟨e | e, e2⟩)
          · exact .inl e
          · subst e; exact (e2 hx).elim
          · exact .inr e
      · rename_i hx hx0
        rw [List.mem_cons, List.mem_cons]
        constructor
        · rintro (e | e | e)
          · exact .inl e
          · subst e; exact .inr ⟨.inl rfl, hx0⟩
          · refine .inr ⟨.inr e, ?_⟩
            have h1 := p.1 y e
            have h2 : ruleCmp r x < 0 := by rw [ruleCmp_anti x r]; omega
            have h3 := ruleCmp_trans h2 h1
            rw [ruleCmp_anti y r] at h3
            omega
        · rintro (e | ⟨e | e, e2⟩)
          · exact .inl e
          · exact .inr (.inl e)
          · exact .inr (.inr e)
theorem sortR_id {l : List RuleD} (h : ruleTable l = true) : sortR l = l := by
  have ht := table_iff.1 h
  refine srt_ext (sortR_srt l) ht.2 fun x => ?_
  have key : ∀ (l acc : List RuleD), Srt acc → Srt l → (∀ a ∈ acc, ∀ b ∈ l, ruleCmp a b ≠ 0) → (x ∈ l.foldl insR acc ↔ x ∈ acc ∨ x ∈ l) := by
    intro l
    induction l with
    | nil => intro acc _ _ _; simp
    | cons y l ih =>
      intro acc ha hl hd
      have p := List.pairwise_cons.1 hl
      rw [List.foldl_cons, ih (insR acc y) (insR_srt ha) p.2 (fun a haa b hb => ?_), mem_insR ha, List.mem_cons]
      · constructor
        · rintro ((e | ⟨e, _⟩) | e)
          · exact .inr (.inl e)
          · exact .inl e
          · exact .inr (.inr e)
        · rintro (e | e | e)
          · exact .inl (.inr ⟨e, hd x e y List.mem_cons_self⟩)
          · exact .inl (.inl e)
          · exact .inr e
      · rcases (mem_insR ha).1 haa with e | ⟨e, _⟩
        · subst e; have := p.1 b hb; omega
        · exact hd a e b (List.mem_cons_of_mem _ hb)
  have hf : l.filter ruleSound = l := List.filter_eq_self.2 ht.1
  unfold sortR
  rw [hf, key l [] List.Pairwise.nil ht.2 (fun a h => by cases h)]
  simp
def eff (x : ModD) (l : List RuleD) : List RuleD := if x.kind = 1 then insR l (modRule x) else l.filterMap (modR1 x)
/-- Nothing stands against an add. -/
def freeF (x : ModD) (y : RuleD) : Prop := (ruleKey y (modRule x) && (y.owner != x.owner)) = false ∧ (x.check && (!ruleKey y (modRule x) && ruleOverlap y (modRule x))) = false
theorem applyR_eff {l : List RuleD} {x : ModD} {room : Int} (h : (applyR l x room).2 = 0) : ruleTable l = true ∧ modSound x = true ∧ (applyR l x room).1 = eff x l ∧ (x.kind = 1 → ∀ y ∈ l, freeF x y) := by
  unfold applyR at h ⊢
  split at h
  · cases h
  · rename_i h0
    rw [if_neg h0]
    have h1 : (ruleTable l && modSound x) = true := by simpa using h0
    have h2 := (Bool.and_eq_true _ _).mp h1
    refine ⟨h2.1, h2.2, ?_⟩
    unfold eff
    split at h
    · rename_i k
      rw [if_pos k, if_pos k]
      unfold addR at h ⊢
      split at h
      · cases h
      · rename_i c1
        rw [if_neg c1]
        split at h
        · cases h
        · rename_i c2
          rw [if_neg c2]
          split at h
          · cases h
          · rename_i c3
            rw [if_neg c3]
            refine ⟨?_, fun _ y hy => ⟨?_, ?_⟩⟩
            · show sortR (l ++ [modRule x]) = _
              rw [sortR_snoc, if_pos (modRule_sound h2.2 k), sortR_id h2.1]
            · have c1' : l.any (fun y => ruleKey y (modRule x) && (y.owner != x.owner)) = false := by simpa using c1
              have := List.any_eq_false.1 c1' y hy
              simpa using this
            · have c2' : (x.check && l.any (fun y => !ruleKey y (modRule x) && ruleOverlap y (modRule x))) = false := by simpa using c2
              rcases Bool.and_eq_false_iff.1 c2' with e | e
              · rw [e]; rfl
              · have := List.any_eq_false.1 e y hy
                rw [Bool.not_eq_true] at this
                rw [this, Bool.and_false]
    · rename_i k
      rw [if_neg k, if_neg k]
      exact ⟨rfl, fun hk => absurd hk k⟩
theorem eff_applyR {l : List RuleD} {x : ModD} (ht : ruleTable l = true) (hs : modSound x = true) (hf : x.kind = 1 → ∀ y ∈ l, freeF x y) (hl : l.length < 1000) : applyR l x 1000 = (eff x l, 0) := by
  have h1 : (ruleTable l && modSound x) = true := by rw [ht, hs]; rfl
  unfold eff
  split
  · rename_i k
    have hf := hf k
    rw [applyR_add h1 k, addR_0 (List.any_eq_false.2 fun y hy => by rw [(hf y hy).1]; decide) ?_ ?_, sortR_snoc, if_pos (modRule_sound hs k), sortR_id ht]
    · cases hc : x.check with
      | false => rfl
      | true =>
        rw [Bool.true_and, List.any_eq_false]
        intro y hy
        have := (hf y hy).2
        rw [hc, Bool.true_and] at this
        rw [this]; decide
    · have : decide ((l.length : Int) ≥ 1000) = false := decide_eq_false (by omega)
      rw [this, Bool.and_false]
  · rename_i k
    exact applyR_map h1 k
theorem touches_congr {x : ModD} {r r' : RuleD} (h : r'.m = r.m ∧ r'.prio = r.prio ∧ r'.owner = r.owner) : modTouches x r' = modTouches x r := by
  unfold modTouches ruleKey
  rw [h.1, h.2.1, h.2.2]
section
variable {a b : ModD} {l : List RuleD}
theorem mod_cube {x : ModD} (h : modSound x = true) : cubeSound x.m = true := by
  unfold modSound at h
  split at h
  · cases h
  · rename_i h0
    simp only [Bool.or_eq_true, Bool.not_eq_true', not_or, Bool.not_eq_false] at h0
    simp_all
theorem rule_cube {r : RuleD} (h : ruleSound r = true) : cubeSound r.m = true := by
  unfold ruleSound at h
  simp only [Bool.and_eq_true] at h
  simp_all
theorem other_keep (ha : modSound a = true) (hd : cubeMeetOk a.m b.m = false) : modR1 b (modRule a) = some (modRule a) := by
  refine modR1_keep ?_
  cases h : modTouches b (modRule a) with
  | false => rfl
  | true =>
    have := touches_hits (r := modRule a) (mod_cube ha) h
    rw [show (modRule a).m = a.m from rfl, hd] at this
    cases this
theorem not_both {r : RuleD} (hr : ruleSound r = true) (hd : cubeMeetOk a.m b.m = false) (h : modTouches a r = true) : modTouches b r = false := by
  cases h2 : modTouches b r with
  | false => rfl
  | true =>
    have := touches_meet h (touches_hits (rule_cube hr) h2)
    rw [hd] at this; cases this
theorem mod_comm {r : RuleD} (hr : ruleSound r = true) (hd : cubeMeetOk a.m b.m = false) : (modR1 a r).bind (modR1 b) = (modR1 b r).bind (modR1 a) := by
  cases h : modTouches a r with
  | false =>
    rw [modR1_keep h]
    cases h2 : modR1 b r with
    | none => simp [h2]
    | some w =>
      have hw := modR1_keep (x := a) (r := w) (by rw [touches_congr (modR1_key h2)]; exact h)
      simp [h2, hw]
  | true =>
    have hb := not_both hr hd h
    rw [modR1_keep hb]
    cases h2 : modR1 a r with
    | none => simp [h2]
    | some w =>
      have hw := modR1_keep (x := b) (r := w) (by rw [touches_congr (modR1_key h2)]; exact hb)
      simp [h2, hw]
theorem key_apart (ha : modSound a = true) (hd : cubeMeetOk a.m b.m = false) : ruleKey (modRule a) (modRule b) = false := by
  cases h : ruleKey (modRule a) (modRule b) with
  | false => rfl
  | true =>
    unfold ruleKey modRule at h
    simp at h
    rw [← h.1, meet_self (mod_cube ha)] at hd
    cases hd
theorem eff_free (hs : modSound a = true) (hd : cubeMeetOk a.m b.m = false) (hl : Srt l) (hf : ∀ y ∈ l, freeF b y) : ∀ y ∈ eff a l, freeF b y := by
  intro y hy
  unfold eff at hy
  split at hy
  · rcases (mem_insR hl).1 hy with rfl | ⟨h, _⟩
    · have hk := key_apart hs hd
      refine ⟨by rw [hk]; rfl, ?_⟩
      have : ruleOverlap (modRule a) (modRule b) = false := by
        unfold ruleOverlap
        show (cubeMeetOk a.m b.m && _) = false
        rw [hd]; rfl
      rw [this, Bool.and_false, Bool.and_false]
    · exact hf y h
  · obtain ⟨z, hz, hzy⟩ := List.mem_filterMap.1 hy
    have hk := modR1_key hzy
    have := hf z hz
    unfold freeF ruleKey ruleOverlap at this ⊢
    rw [hk.1, hk.2.1, hk.2.2]
    exact this
theorem eff_srt (hl : Srt l) (x : ModD) : Srt (eff x l) := by
  unfold eff
  split
  · exact insR_srt hl
  · exact srt_map hl
theorem eff_len (x : ModD) : (eff x l).length ≤ l.length + 1 := by
  unfold eff
  split
  · have : ∀ (l : List RuleD) (r : RuleD), (insR l r).length ≤ l.length + 1 := by
      intro l r
      induction l with
      | nil => simp [insR]
      | cons x l ih =>
        unfold insR
        split
        · simp; exact ih
        · split <;> simp
    exact this _ _
  · exact Nat.le_trans (List.length_filterMap_le ..) (Nat.le_succ _)
theorem eff_comm1 (ha : modSound a = true) (hd : cubeMeetOk a.m b.m = false) (hl : Srt l) (k : a.kind = 1) (kb : b.kind ≠ 1) : ∀ y, y ∈ eff b (eff a l) ↔ y ∈ eff a (eff b l) := by
  intro y
  have e1 : eff b (eff a l) = (insR l (modRule a)).filterMap (modR1 b) := by unfold eff; rw [if_pos k, if_neg kb]
  have e2 : eff a (eff b l) = insR (l.filterMap (modR1 b)) (modRule a) := by unfold eff; rw [if_pos k, if_neg kb]
  rw [e1, e2, mem_insR (srt_map hl), List.mem_filterMap, List.mem_filterMap]
  have hk := other_keep ha hd
  have hc : ∀ z, modR1 b z = some y → ruleCmp y (modRule a) = ruleCmp z (modRule a) := fun z hz => ruleCmp_congr (modR1_key hz).1 (modR1_key hz).2.1 rfl rfl
  constructor
  · rintro ⟨z, hz, hzy⟩
    rcases (mem_insR hl).1 hz with rfl | ⟨h1, h2⟩
    · rw [hk] at hzy; cases hzy; exact .inl rfl
    · exact .inr ⟨⟨z, h1, hzy⟩, by rw [hc z hzy]; exact h2⟩
  · rintro (rfl | ⟨⟨z, hz, hzy⟩, h2⟩)
    · exact ⟨modRule a, (mem_insR hl).2 (.inl rfl), hk⟩
    · exact ⟨z, (mem_insR hl).2 (.inr ⟨hz, by rw [← hc z hzy]; exact h2⟩), hzy⟩
theorem eff_comm (ht : ruleTable l = true) (ha : modSound a = true) (hb : modSound b = true) (hd : cubeMeetOk a.m b.m = false) : eff b (eff a l) = eff a (eff b l) := by
  have hs := table_iff.1 ht
  have hd2 : cubeMeetOk b.m a.m = false := by rw [meet_comm]; exact hd
  refine srt_ext (eff_srt (eff_srt hs.2 a) b) (eff_srt (eff_srt hs.2 b) a) ?_
  by_cases k : a.kind = 1
  · by_cases kb : b.kind = 1
    · intro y
      have e1 : eff b (eff a l) = insR (insR l (modRule a)) (modRule b) := by unfold eff; rw [if_pos k, if_pos kb]
      have e2 : eff a (eff b l) = insR (insR l (modRule b)) (modRule a) := by unfold eff; rw [if_pos k, if_pos kb]
      have c1 : ruleCmp (modRule a) (modRule b) ≠ 0 := fun h => by have := ruleCmp_zero.1 h; rw [key_apart ha hd] at this; cases this
      have c2 : ruleCmp (modRule b) (modRule a) ≠ 0 := fun h => by have := ruleCmp_zero.1 h; rw [key_apart hb hd2] at this; cases this
      rw [e1, e2, mem_insR (insR_srt hs.2), mem_insR hs.2, mem_insR (insR_srt hs.2), mem_insR hs.2]
      constructor
      · rintro (rfl | ⟨rfl | ⟨h1, h2⟩, h3⟩)
        · exact .inr ⟨.inl rfl, c2⟩
        · exact .inl rfl
        · exact .inr ⟨.inr ⟨h1, h3⟩, h2⟩
      · rintro (rfl | ⟨rfl | ⟨h1, h2⟩, h3⟩)
        · exact .inr ⟨.inl rfl, c1⟩
        · exact .inl rfl
        · exact .inr ⟨.inr ⟨h1, h3⟩, h2⟩
    · exact eff_comm1 ha hd hs.2 k kb
  · by_cases kb : b.kind = 1
    · exact fun y => (eff_comm1 hb hd2 hs.2 kb k y).symm
    · intro y
      have e1 : eff b (eff a l) = (l.filterMap (modR1 a)).filterMap (modR1 b) := by unfold eff; rw [if_neg k, if_neg kb]
      have e2 : eff a (eff b l) = (l.filterMap (modR1 b)).filterMap (modR1 a) := by unfold eff; rw [if_neg k, if_neg kb]
      rw [e1, e2, List.filterMap_filterMap, List.filterMap_filterMap, List.mem_filterMap, List.mem_filterMap]
      constructor
      · rintro ⟨z, hz, h⟩
        exact ⟨z, hz, by rw [← mod_comm (hs.1 z hz) hd]; exact h⟩
      · rintro ⟨z, hz, h⟩
        exact ⟨z, hz, by rw [mod_comm (hs.1 z hz) hd]; exact h⟩
end
theorem apart {l : List RuleD} {a b : ModD} (hl : l.length ≤ 40) (hd : cubeMeetOk a.m b.m = false) (ha : (applyR l a 1000).2 = 0) (hb : (applyR l b 1000).2 = 0) :
    (applyR (applyR l a 1000).1 b 1000).2 = 0 ∧ (applyR (applyR l b 1000).1 a 1000).2 = 0 ∧ (applyR (applyR l a 1000).1 b 1000).1 = (applyR (applyR l b 1000).1 a 1000).1 := by
  have hd2 : cubeMeetOk b.m a.m = false := by rw [meet_comm]; exact hd
  obtain ⟨ht, sa, ea, fa⟩ := applyR_eff ha
  obtain ⟨_, sb, eb, fb⟩ := applyR_eff hb
  have ta := applyR_table ha
  have tb := applyR_table hb
  have hs := table_iff.1 ht
  have la := eff_len (l := l) a
  have lb := eff_len (l := l) b
  rw [ea] at ta ⊢
  rw [eb] at tb ⊢
  rw [eff_applyR ta sb (fun k => eff_free sa hd hs.2 (fb k)) (by omega), eff_applyR tb sa (fun k => eff_free sb hd2 hs.2 (fa k)) (by omega)]
  exact ⟨rfl, rfl, eff_comm ht sa sb hd⟩
end Go.Aw
namespace Go.Aw
open Go
theorem sortR_mem {l : List RuleD} {r : RuleD} (h : r ∈ sortR l) : r ∈ l := by
  have key : ∀ (l acc : List RuleD), r ∈ l.foldl insR acc → r ∈ acc ∨ r ∈ l := by
    intro l
    induction l with
    | nil => intro acc h; exact .inl h
    | cons x l ih =>
      intro acc h
      rcases ih _ h with h | h
      · rcases insR_mem h with h | h
        · exact .inr (by simp [h])
        · exact .inl h
      · exact .inr (List.mem_cons_of_mem _ h)
  rcases key _ [] h with h | h
  · cases h
  · exact (List.mem_filter.1 h).1
theorem applyR_acts {l : List RuleD} {x : ModD} {room : Int} {K : Nat} (hl : ∀ q ∈ l, q.acts.length ≤ K) (hx : x.acts.length ≤ K) : ∀ r ∈ (applyR l x room).1, r.acts.length ≤ K := by
  intro r hr
  unfold applyR at hr
  split at hr
  · cases hr
  · split at hr
    · unfold addR at hr
      split at hr
      · cases hr
      · split at hr
        · cases hr
        · split at hr
          · cases hr
          · have := sortR_mem hr
            rcases List.mem_append.1 this with h | h
            · exact hl r h
            · rw [List.mem_singleton.1 h]; exact hx
    · obtain ⟨q, hq, hqr⟩ := List.mem_filterMap.1 hr
      unfold modR1 at hqr
      split at hqr
      · split at hqr
        · cases hqr
        · cases hqr; exact hx
      · cases hqr; exact hl _ hq
theorem acts_of {l : List (RuleD × Sl)} {l' : List RuleD} {K : Nat} (h : l.map (·.1) = l') (hl : ∀ q ∈ l', q.acts.length ≤ K) : ∀ p ∈ l, p.1.acts.length ≤ K := fun p hp => hl _ (h ▸ List.mem_map.2 ⟨p, hp, rfl⟩)
theorem acts_to {l : List (RuleD × Sl)} {K : Nat} (h : ∀ p ∈ l, p.1.acts.length ≤ K) : ∀ q ∈ l.map (·.1), q.acts.length ≤ K := fun q hq => by
  obtain ⟨p, hp, rfl⟩ := List.mem_map.1 hq
  exact h p hp
end Go.Aw
namespace Go.Aw
open Go
def alone (a b : List RuleD) : List RuleD := a.filter fun r => !b.any fun q => decide (r = q)
theorem mem_alone {a b : List RuleD} {r : RuleD} : r ∈ alone a b ↔ r ∈ a ∧ r ∉ b := by
  unfold alone
  rw [List.mem_filter, Bool.not_eq_true', List.any_eq_false]
  constructor
  · rintro ⟨h1, h2⟩
    exact ⟨h1, fun h => by have := h2 r h; simp at this⟩
  · rintro ⟨h1, h2⟩
    exact ⟨h1, fun q hq => by rw [decide_eq_true_iff]; rintro rfl; exact h2 hq⟩
theorem table_filter {l : List RuleD} (p : RuleD → Bool) (h : ruleTable l = true) : ruleTable (l.filter p) = true := by
  have ht := table_iff.1 h
  exact table_iff.2 ⟨fun r hr => ht.1 r (List.mem_filter.1 hr).1, ht.2.filter p⟩
theorem alone_sub {a c : List RuleD} (hs : ∀ r ∈ a, r ∈ c) : alone a c = [] := by
  unfold alone
  rw [List.filter_eq_nil_iff]
  intro r hr h
  rw [Bool.not_eq_true', List.any_eq_false] at h
  have := h r (hs r hr)
  simp at this
theorem sortR_mem_iff {l : List RuleD} {x : RuleD} (hs : ∀ r ∈ l, ruleSound r = true) (hp : l.Pairwise fun a b => ruleCmp a b ≠ 0) : x ∈ sortR l ↔ x ∈ l := by
  have key : ∀ (l acc : List RuleD), Srt acc → l.Pairwise (fun a b => ruleCmp a b ≠ 0) → (∀ a ∈ acc, ∀ b ∈ l, ruleCmp a b ≠ 0) → (x ∈ l.foldl insR acc ↔ x ∈ acc ∨ x ∈ l) := by
    intro l
    induction l with
    | nil => intro acc _ _ _; simp
    | cons y l ih =>
      intro acc ha hl hd
      have p := List.pairwise_cons.1 hl
      rw [List.foldl_cons, ih (insR acc y) (insR_srt ha) p.2 (fun a haa b hb => ?_), mem_insR ha, List.mem_cons]
      · constructor
        · rintro ((e | ⟨e, _⟩) | e)
          · exact .inr (.inl e)
          · exact .inl e
          · exact .inr (.inr e)
        · rintro (e | e | e)
          · exact .inl (.inr ⟨e, hd x e y List.mem_cons_self⟩)
          · exact .inl (.inl e)
          · exact .inr e
      · rcases (mem_insR ha).1 haa with e | ⟨e, _⟩
        · subst e; exact p.1 b hb
        · exact hd a e b (List.mem_cons_of_mem _ hb)
  have hf : l.filter ruleSound = l := List.filter_eq_self.2 hs
  unfold sortR
  rw [hf, key l [] List.Pairwise.nil hp (fun a h => by cases h)]
  simp
/-- What a swap makes of a table, or why not. -/
def swapR (t out inn : List RuleD) : List RuleD × Int :=
  if !(ruleTable t && ruleTable out && ruleTable inn) then ([], 2)
  else if decide ((alone out t).length > 0) then ([], 4)
  else if inn.any (fun r => (alone t out).any fun q => ruleKey q r) then ([], 5)
  else (sortR (alone t out ++ inn), 0)
theorem swap_back {a b : List RuleD} (ha : ruleTable a = true) (hb : ruleTable b = true) : swapR b (alone b a) (alone a b) = (a, 0) := by
  have ta := table_iff.1 ha
  have tb := table_iff.1 hb
  have t1 : ruleTable (alone b a) = true := table_filter _ hb
  have t2 : ruleTable (alone a b) = true := table_filter _ ha
  have e1 : alone (alone b a) b = [] := alone_sub fun r hr => (mem_alone.1 hr).1
  have hrest : ∀ {r}, r ∈ alone b (alone b a) ↔ r ∈ b ∧ r ∈ a := by
    intro r
    rw [mem_alone, mem_alone]
    constructor
    · rintro ⟨h1, h2⟩
      refine ⟨h1, ?_⟩
      rcases Classical.em (r ∈ a) with h | h
      · exact h
      · exact (h2 ⟨h1, h⟩).elim
    · rintro ⟨h1, h2⟩
      exact ⟨h1, fun h => h.2 h2⟩
  have hk : ∀ q r, q ∈ alone b (alone b a) → r ∈ alone a b → ruleKey q r = false := by
    intro q r hq hr
    have h1 := hrest.1 hq
    have h2 := mem_alone.1 hr
    cases hkk : ruleKey q r with
    | false => rfl
    | true =>
      have := key_once ta.2 h1.2 h2.1 hkk (ruleKey_refl r)
      subst this
      exact (h2.2 h1.1).elim
  unfold swapR
  rw [hb, t1, t2, e1]
  simp only [Bool.and_self, Bool.not_true, Bool.false_eq_true, if_false, List.length_nil, Nat.lt_irrefl, gt_iff_lt, decide_false]
  have e2 : ((alone a b).any fun r => (alone b (alone b a)).any fun q => ruleKey q r) = false := by
    rw [List.any_eq_false]
    intro r hr
    rw [Bool.not_eq_true, List.any_eq_false]
    intro q hq
    rw [hk q r hq hr]; decide
  rw [e2]
  simp only [Bool.false_eq_true, if_false, Prod.mk.injEq, and_true]
  have hne : ∀ {l : List RuleD}, Srt l → l.Pairwise fun a b => ruleCmp a b ≠ 0 := fun h => h.imp fun h => by omega
  refine srt_ext (sortR_srt _) ta.2 fun x => ?_
  rw [sortR_mem_iff, List.mem_append, hrest, mem_alone]
  · constructor
    · rintro (h | h)
      · exact h.2
      · exact h.1
    · intro h
      rcases Classical.em (x ∈ b) with h2 | h2
      · exact .inl ⟨h2, h⟩
      · exact .inr ⟨h, h2⟩
  · intro r hr
    rcases List.mem_append.1 hr with h | h
    · exact tb.1 r (hrest.1 h).1
    · exact ta.1 r (mem_alone.1 h).1
  · refine List.pairwise_append.2 ⟨hne (tb.2.filter _), hne (ta.2.filter _), fun q hq r hr h0 => ?_⟩
    have := ruleCmp_zero.1 h0
    rw [hk q r hq hr] at this
    cases this
end Go.Aw
namespace Go.Aw
open Go
section
variable {P : Program} {n : Nat} {Q : Post} {L : Slots} {m : Snap} {H : Hp} {ops : Array Oper} {rest : List Oper} {d : Option Tmp} {ty : TypeId} {ps : String} {af : Array Edge} {gd : Option (Nat × Bool)}
theorem SP.post {o : Oper} {K0 K : Slots → Snap → Hp → Prop} (h : SP P n L m H o K0) (hc : ∀ L' m' H' w, K0 L' m' H' → St m' H' w → ∃ m2 H2, St m2 H2 w ∧ K L' m2 H2) : SP P n L m H o K := by
  intro a w hf hs K' Q' hK
  refine h a w hf hs K' Q' ?_
  intro a' w' L' m' H' hf' hs' hk
  obtain ⟨m2, H2, g1, g2⟩ := hc _ _ _ _ hk hs'
  exact hK _ _ _ _ _ hf' g1 g2
theorem run_append_zero {P : Program} (w : World) (t ty e : TypeId) (i : TypeInfo) (hu : P.underlying t = some (.slice e)) (hi : P.info? e = some i) (a sa : Option Addr) (len c : Nat) :
    (Builtin.append_ #[t, t] ty #[.slice a len len, .slice sa 0 c]).run P w = .ok (.slice a len len) w := by
  cases a <;> cases sa <;> simp [Builtin.append_, run_underlying hu, sizeOf, typeInfo, hi, Builtin.lenOf, Builtin.firstCells, loadCells, loadCellsFrom, storeCells]
theorem s_appendg {K : Slots → Snap → Hp → Prop} {t e : TypeId} {x y : Operand} {len cap k s B : Nat} {a : Option Addr} {cs news : List (List Value)} {v : Value} (hd : dstOk n d = true)
    (hx : opv L x = some (.slice a len len)) (hy : opv L y = some v) (ht : tslice P t = some (e, s)) (hz : zeroOk P e = true) (hB : tbytes P e = some B) (hs0 : Nat.blt 0 s = true)
    (hfz : Fz m a len cap s cs) (hnil : a = none → len = 0) (hs : Src m H v k s news) (hfit : (len + k) * B ≤ 140737488355328) (hlen : len + k ≤ maxLen)
    (h : ∀ m' a' c', m.le m' → Fz m' a' (len + k) c' s (cs ++ news) → (a' = none → c' = 0) → K (lput L d (.slice a' (len + k) c')) m' H) :
    SP P n L m H ⟨d, .call ⟨.builtin .append, [x, y].toArray, [t, t].toArray⟩, ty, ps, af, gd⟩ K := by
  rcases Nat.eq_zero_or_pos k with hk | hk
  · subst hk
    have hn : news = [] := List.eq_nil_of_length_eq_zero hs.len
    subst hn
    refine s_value hd fun ac w hf hst => ?_
    unfold tslice at ht
    cases hu : P.underlying t with
    | none => simp [hu] at ht
    | some D =>
      cases D <;> simp only [hu, reduceCtorEq] at ht
      rename_i e'
      cases hinf : P.info? e' with
      | none => simp [hinf] at ht
      | some inf =>
        have hexec : ∀ v' w', (Builtin.append_ #[t, t] ty #[.slice a len len, v]).run P w = .ok v' w' →
            (execOp ac.eval ⟨d, .call ⟨.builtin .append, [x, y].toArray, [t, t].toArray⟩, ty, ps, af, gd⟩).run P w = .ok (.value v') w' := by
          intro v' w' hr
          simp [execOp, resolve, invoke, builtin, hf.eval hx, hf.eval hy, hr]
        have hv : ∃ sa c, v = .slice sa 0 c := by
          rcases hs.get with ⟨_, rfl⟩ | ⟨sa, c, rfl, _⟩
          · exact ⟨none, 0, rfl⟩
          · exact ⟨some sa, c, rfl⟩
        obtain ⟨sa, c, rfl⟩ := hv
        exact ⟨_, m, H, w, hexec _ _ (run_append_zero w t ty e' inf hu hinf a sa len c), hst, h m a len (Snap.le.refl m) (by simpa using hfz.clip) hnil⟩
  · refine SP.post (K0 := fun L' m' H' => ∃ a' c', L' = lput L d (.slice a' (len + k) c') ∧ m' = m ∧ H' = .vec a' (len + k) c' e s (cs ++ news) :: H) (s_appendf hd hx hy ht hz hB hfz hnil hs hk hfit hlen fun a' c' => ⟨a', c', rfl, rfl, rfl⟩) ?_
    rintro _ _ _ w ⟨a', c', rfl, rfl, rfl⟩ hst
    obtain ⟨m2, g1, g2, g3, g4⟩ := St.freezeVec (i := 0) hst rfl (by simpa [Nat.blt_eq] using hs0)
    exact ⟨m2, H, g2, h m2 a' c' g1 g3 g4⟩
end
end Go.Aw
namespace Go.Aw
open Go
def encPatch (a b : Sl) : List Value := [a.v, b.v]
theorem one_patch (a b : Sl) : ∀ u ∈ encPatch a b, u.oneCell' = true := by
  intro u hu
  simp [encPatch] at hu
  rcases hu with rfl | rfl <;> rfl
theorem swapR_ok {t out inn : List RuleD} (h : (swapR t out inn).2 = 0) : ruleTable t = true ∧ ruleTable out = true ∧ ruleTable inn = true ∧ alone out t = [] ∧ (∀ r ∈ inn, ((alone t out).any fun q => ruleKey q r) = false) ∧ (swapR t out inn).1 = sortR (alone t out ++ inn) := by
  unfold swapR at h ⊢
  split at h
  · cases h
  · rename_i h0
    rw [if_neg h0]
    have h1 : (ruleTable t && ruleTable out && ruleTable inn) = true := by simpa using h0
    simp only [Bool.and_eq_true] at h1
    split at h
    · cases h
    · rename_i h2
      rw [if_neg h2]
      split at h
      · cases h
      · rename_i h3
        rw [if_neg h3]
        refine ⟨h1.1.1, h1.1.2, h1.2, List.eq_nil_of_length_eq_zero (by simp at h2; simp [h2]), fun r hr => ?_, rfl⟩
        have h4 : (inn.any fun r => (alone t out).any fun q => ruleKey q r) = false := by simpa using h3
        have := List.any_eq_false.1 h4 r hr
        simpa using this
theorem applyR_err {l : List RuleD} {x : ModD} {room : Int} (h : (applyR l x room).2 ≠ 0) : (applyR l x room).1 = [] := by
  unfold applyR at h ⊢
  split
  · rfl
  · rename_i h0
    rw [if_neg h0] at h
    split
    · rename_i k
      rw [if_pos k] at h
      unfold addR at h ⊢
      repeat' split
      all_goals first | rfl | (exfalso; simp_all; done)
    · rename_i k
      rw [if_neg k] at h
      exact (h rfl).elim
theorem alone_len (a b : List RuleD) : (alone a b).length ≤ a.length := List.length_filter_le ..
end Go.Aw
namespace Go.Aw
open Go
structure FzM (m : Snap) (s : Sl) (l : List (ModD × Sl)) : Prop where
  fz : Fz m s.a s.n s.cap 31 (l.map fun p => encMod p.1 p.2)
  acts : ∀ p ∈ l, FzA m p.2 p.1.acts ∧ p.2.ok
theorem FzM.mono {m m' : Snap} {s : Sl} {l : List (ModD × Sl)} (h : FzM m s l) (hm : m.le m') : FzM m' s l := ⟨h.fz.mono hm, fun p hp => ⟨(h.acts p hp).1.mono hm, (h.acts p hp).2⟩⟩
theorem FzM.len {m : Snap} {s : Sl} {l : List (ModD × Sl)} (h : FzM m s l) : s.n = l.length := by have := h.fz.len; simpa using this.symm
structure ChD where
  sg : Sl
  lg : List (RuleD × Sl)
  sc : Sl
  lc : List (RuleD × Sl)
def ChD.enc (c : ChD) : List Value := encPatch c.sg c.sc
def ChD.lists (c : ChD) : List RuleD × List RuleD := (c.lg.map (·.1), c.lc.map (·.1))
def AllP (m : Snap) (l : List ChD) : Prop := ∀ c ∈ l, FzR m c.sg c.lg ∧ FzR m c.sc c.lc ∧ c.sg.ok ∧ c.sc.ok
theorem AllP.mono {m m' : Snap} {l : List ChD} (h : AllP m l) (hm : m.le m') : AllP m' l := fun c hc => ⟨(h c hc).1.mono hm, (h c hc).2.1.mono hm, (h c hc).2.2⟩
theorem AllP.snoc {m : Snap} {l : List ChD} {c : ChD} (h : AllP m l) (h1 : FzR m c.sg c.lg) (h2 : FzR m c.sc c.lc) (h3 : c.sg.ok) (h4 : c.sc.ok) : AllP m (l ++ [c]) := fun x hx => by
  rcases List.mem_append.1 hx with hx | hx
  · exact h x hx
  · rw [List.mem_singleton.1 hx]; exact ⟨h1, h2, h3, h4⟩
def Good (t : List RuleD) : Prop := t.length ≤ 100 ∧ ∀ r ∈ t, r.acts.length ≤ 4398046511103
inductive Chain (t0 : List RuleD) : List (List RuleD × List RuleD) → List RuleD → Prop
  | nil : Chain t0 [] t0
  | snoc {cs : List (List RuleD × List RuleD)} {tp t : List RuleD} (h : Chain t0 cs tp) (h1 : ruleTable tp = true) (h2 : ruleTable t = true) (g1 : Good tp) (g2 : Good t) : Chain t0 (cs ++ [(alone tp t, alone t tp)]) t
theorem Chain.last {t0 : List RuleD} {cs : List (List RuleD × List RuleD)} {c : List RuleD × List RuleD} {t : List RuleD} (h : Chain t0 (cs ++ [c]) t) : ∃ tp, Chain t0 cs tp ∧ ruleTable tp = true ∧ ruleTable t = true ∧ Good tp ∧ Good t ∧ c = (alone tp t, alone t tp) := by
  generalize e : cs ++ [c] = l at h
  cases h with
  | nil => simp at e
  | snoc h h1 h2 g1 g2 =>
    obtain ⟨e1, e2⟩ := List.append_inj' e rfl
    cases e1
    exact ⟨_, h, h1, h2, g1, g2, by simpa using e2⟩
theorem Chain.none {t0 t : List RuleD} (h : Chain t0 [] t) : t = t0 := by
  generalize e : ([] : List (List RuleD × List RuleD)) = l at h
  cases h with
  | nil => rfl
  | snoc => simp at e
/-- One step back. -/
theorem chain_back {t0 t : List RuleD} {cs : List ChD} {j : Nat} {c : ChD} (h : Chain t0 ((cs.take (j + 1)).map ChD.lists) t) (hc : cs[j]? = some c) :
    (swapR t (c.lc.map (·.1)) (c.lg.map (·.1))).2 = 0 ∧ Chain t0 ((cs.take j).map ChD.lists) (swapR t (c.lc.map (·.1)) (c.lg.map (·.1))).1 ∧ Good t ∧ Good (c.lc.map (·.1)) ∧ Good (c.lg.map (·.1)) := by
  rw [List.take_add_one, hc, Option.toList_some, List.map_append, List.map_cons, List.map_nil] at h
  obtain ⟨tp, h1, h2, h3, g1, g2, e⟩ := h.last
  have e1 : c.lg.map (·.1) = alone tp t := congrArg Prod.fst e
  have e2 : c.lc.map (·.1) = alone t tp := congrArg Prod.snd e
  rw [e1, e2, swap_back h2 h3]
  exact ⟨rfl, h1, g2, ⟨Nat.le_trans (alone_len _ _) g2.1, fun r hr => g2.2 r (mem_alone.1 hr).1⟩, ⟨Nat.le_trans (alone_len _ _) g1.1, fun r hr => g1.2 r (mem_alone.1 hr).1⟩⟩
theorem chain_on {t0 : List RuleD} {cs : List ChD} {t : List RuleD} {x : ModD} {room : Int} {c : ChD} (h : Chain t0 (cs.map ChD.lists) t) (h0 : (applyR t x room).2 = 0) (hg : c.lg.map (·.1) = alone t (applyR t x room).1) (hc : c.lc.map (·.1) = alone (applyR t x room).1 t)
    (g1 : t.length ≤ 99) (g2 : ∀ r ∈ t, r.acts.length ≤ 4398046511103) (g3 : x.acts.length ≤ 4398046511103) : Chain t0 ((cs ++ [c]).map ChD.lists) (applyR t x room).1 := by
  have e : (cs ++ [c]).map ChD.lists = cs.map ChD.lists ++ [(alone t (applyR t x room).1, alone (applyR t x room).1 t)] := by
    rw [List.map_append, List.map_cons, List.map_nil]
    unfold ChD.lists
    rw [hg, hc]
  rw [e]
  have hl := applyR_len t x room
  exact .snoc h (applyR_eff h0).1 (applyR_table h0) ⟨by omega, g2⟩ ⟨by omega, applyR_acts g2 g3⟩
def ansM8 : ModD := ⟨1, zCube, 0, [], 0, 0, 0, false⟩
set_option maxRecDepth 100000 in
theorem ans8_1 : applyR [] ansM8 5 = ([modRule ansM8], 0) := by decide +kernel
set_option maxRecDepth 100000 in
theorem ans8_t : ruleTable [modRule ansM8] = true := by decide +kernel
theorem ans8_2 : swapR [modRule ansM8] (alone [modRule ansM8] []) (alone [] [modRule ansM8]) = ([], 0) := swap_back rfl ans8_t
theorem ans8_3 : alone [modRule ansM8] [] = [modRule ansM8] := rfl
theorem good_acts {l : List (RuleD × Sl)} (h : Good (l.map (·.1))) : l.length ≤ 100 ∧ ∀ p ∈ l, p.1.acts.length ≤ 4398046511103 := ⟨by simpa using h.1, acts_of rfl h.2⟩
end Go.Aw
namespace Go.Aw
open Go Go.Proofs
section
variable {H : Type} {enc : TypeId × Value → H} {w : World} {cs : List Value}
theorem b32 : Try.prog.bytesOf 32 = 264 := by kernel_rfl
theorem opw_mods (h : TrW enc Try.prog w 66 cs) : ∃ (s : Sl) (lr : List (ModD × Sl)), cs = [s.v] ∧ s.ok ∧ FzM (snapOf w) s lr ∧ (∀ p ∈ lr, ModR p.1) ∧ (∀ p ∈ lr, p.1.acts.length ≤ 4398046511103) := by
  obtain ⟨s, rows, h1, h2, h3, h4, _⟩ := h.slice Try.underlying66 (k := 31) c32 (by decide) b32
  obtain ⟨l, rfl, hl⟩ := rows_map (f := fun p : ModD × Sl => encMod p.1 p.2) (p := fun p => p.2.ok ∧ FzA (snapOf w) p.2 p.1.acts ∧ ModR p.1 ∧ p.1.acts.length ≤ 4398046511103) fun r hr => opw_mod (h4 r hr)
  exact ⟨s, l, h1, h2, ⟨h3, fun p hp => ⟨(hl p hp).2.1, (hl p hp).1⟩⟩, fun p hp => (hl p hp).2.2.1, fun p hp => (hl p hp).2.2.2⟩
end
end Go.Aw
namespace Go.Aw
open Go Go.Proofs
theorem tl30 : tslice Try.prog 30 = some (53, 4) := by kernel_rfl
theorem ts53 : tshape Try.prog 53 = some (true, 4) := by kernel_rfl
theorem en53 : eqN Try.prog 6 53 = some 4 := by kernel_rfl
theorem ia53 : isAggT Try.prog 53 = true := by kernel_rfl
theorem fo32_0 : fieldOff Try.prog 32 0 = some 0 := by kernel_rfl
theorem ts3 : tshape Try.prog 3 = some (false, 1) := by kernel_rfl
theorem fo32_1 : fieldOff Try.prog 32 1 = some 1 := by kernel_rfl
theorem en29 : eqN Try.prog 6 29 = some 24 := by kernel_rfl
theorem ia29 : isAggT Try.prog 29 = true := by kernel_rfl
theorem fo32_2 : fieldOff Try.prog 32 2 = some 25 := by kernel_rfl
theorem fo32_3 : fieldOff Try.prog 32 3 = some 26 := by kernel_rfl
theorem ts30 : tshape Try.prog 30 = some (false, 1) := by kernel_rfl
theorem fo32_4 : fieldOff Try.prog 32 4 = some 27 := by kernel_rfl
theorem fo32_5 : fieldOff Try.prog 32 5 = some 28 := by kernel_rfl
theorem fo32_6 : fieldOff Try.prog 32 6 = some 29 := by kernel_rfl
theorem fo32_7 : fieldOff Try.prog 32 7 = some 30 := by kernel_rfl
theorem ts4 : tshape Try.prog 4 = some (false, 1) := by kernel_rfl
theorem tz27 : tzero Try.prog 27 = some [.int .u64 0, .int .u64 0, .int .u64 0, .int .u64 0, .int .u64 0, .int .u64 0, .int .u64 0, .int .u64 0, .int .u64 0, .int .u64 0, .int .u64 0, .int .u64 0] := by kernel_rfl
theorem fk27 : fieldsKnown Try.prog 27 = true := by kernel_rfl
theorem bp27_ : bplaces Try.prog 27 [] = some [] := by kernel_rfl
theorem fo53_0 : fieldOff Try.prog 53 0 = some 0 := by kernel_rfl
theorem fo53_1 : fieldOff Try.prog 53 1 = some 1 := by kernel_rfl
theorem fo53_2 : fieldOff Try.prog 53 2 = some 2 := by kernel_rfl
theorem fo53_3 : fieldOff Try.prog 53 3 = some 3 := by kernel_rfl
theorem tz53 : tzero Try.prog 53 = some [.int .i64 0, .int .i64 0, .int .i64 0, .int .u64 0] := by kernel_rfl
theorem fk53 : fieldsKnown Try.prog 53 = true := by kernel_rfl
theorem bp53_0 : bplaces Try.prog 53 [0] = some [(0, 1)] := by kernel_rfl
set_option maxRecDepth 100000 in
theorem eqActs_ok (s1 s2 : Sl) (l1 l2 : List ActD) (m : Snap) (H : Hp) (hz1 : FzA m s1 l1) (hz2 : FzA m s2 l2) : Fn Try.prog 153 [s1.v, s2.v] m H (fun v _ H' => v = .bool (decide (l1 = l2)) ∧ H' = H) := by
  have hm : m.le m := Snap.le.refl m
  refine fn_end Try.func153 rfl rfl rfl ?_
  refine c_seq (fun K0 hK0 => ?_)
  refine c_region ?_
  refine r_y rfl rfl (y_assign rfl) ?_
  refine r_nil ?_
  refine hK0 _ _ _ ?_
  clear hK0 K0
  refine c_seq (fun K1 hK1 => ?_)
  refine c_seq (fun K2 hK2 => ?_)
  refine c_region ?_
  refine r_y rfl rfl (y_move rfl) ?_
  refine r_y rfl rfl (y_len tl30 rfl) ?_
  refine r_y rfl rfl (y_move rfl) ?_
  refine r_y rfl rfl (y_len tl30 rfl) ?_
  refine r_y rfl rfl (y_iop rfl rfl rfl) ?_
  refine r_nil ?_
  refine hK2 _ _ _ ?_
  clear hK2 K2
  refine c_cond rfl (fun h0 => ?_) (fun h0 => ?_)
  ·
    refine c_seq (fun K3 hK3 => ?_)
    refine c_region ?_
    refine r_y rfl rfl (y_assign rfl) ?_
    refine r_nil ?_
    refine hK3 _ _ _ ?_
    clear hK3 K3
    refine c_ret ?_
    refine e_ret 0 hm (res_tmps rfl) ?_
    refine ⟨congrArg Value.bool ?_, rfl⟩
    have hl1 := hz1.lenA; have hl2 := hz2.lenA
    have : s1.n ≠ s2.n := by simp at h0; omega
    exact (decide_eq_false (by rintro rfl; omega)).symm
  ·
    have hl1 := hz1.lenA
    have hl2 := hz2.lenA
    have hne : s1.n = s2.n := by simp at h0; omega
    have hmx := hz1.max
    have hle := hz1.le
    unfold maxLen at hmx
    refine c_skip ?_
    refine hK1 _ _ _ ?_
    clear hK1 K1
    refine c_seq (fun K4 hK4 => ?_)
    refine c_seq (fun K5 hK5 => ?_)
    refine c_region ?_
    refine r_y rfl rfl (y_move rfl) ?_
    refine r_y rfl rfl (y_len tl30 rfl) ?_
    refine r_y rfl rfl (y_move rfl) ?_
    refine r_nil ?_
    refine hK5 _ _ _ ?_
    clear hK5 K5
    refine c_block ?_
    refine c_loopx (α := Nat) (fun i => [(0, s1.v), (1, s2.v), (12, .int .i64 (s1.n : Nat)), (13, .int .i64 (i : Nat))]) (fun i => H) (fun k0 i m1 => (i + k0 = s1.n ∧ l1.take i = l2.take i) ∧ m.le m1 ∧ (Fz m1 s1.a s1.n s1.cap 4 (l1.map encAct)) ∧ (Fz m1 s2.a s2.n s2.cap 4 (l2.map encAct))) (s1.n) 0 ⟨rfl, rfl, rfl, rfl, trivial⟩ rfl ⟨⟨by omega, rfl⟩, hm, hz1, hz2⟩ ?_
    clear hm hz1 hz2
    rintro k0 i m1 ⟨hi0, hm, hz1, hz2⟩
    obtain ⟨hi, hinv⟩ := hi0
    refine c_seq (fun K6 hK6 => ?_)
    refine c_region ?_
    refine r_y rfl rfl (y_iop rfl rfl rfl) ?_
    refine r_nil ?_
    refine hK6 _ _ _ ?_
    clear hK6 K6
    refine c_seq (fun K7 hK7 => ?_)
    refine c_cond rfl (fun h1 => ?_) (fun h1 => ?_)
    ·
      have hlt1 : i < s1.n := by simp at h1; omega
      have hlt2 : i < s2.n := by omega
      obtain ⟨x1, hx1⟩ := get_of_lt (l := l1) (k := i) (by omega)
      obtain ⟨x2, hx2⟩ := get_of_lt (l := l2) (k := i) (by omega)
      refine c_skip ?_
      refine hK7 _ _ _ ?_
      clear hK7 K7
      refine c_seq (fun K8 hK8 => ?_)
      refine c_block ?_
      refine c_seq (fun K9 hK9 => ?_)
      refine c_region ?_
      refine r_y rfl rfl (y_move rfl) ?_
      refine r_y rfl rfl (y_assign rfl) ?_
      refine r_nil ?_
      refine hK9 _ _ _ ?_
      clear hK9 K9
      refine c_seq (fun K10 hK10 => ?_)
      refine c_draw ([]) (by kernel_rfl) (fun hg => ?_)
      have hz1_g := hz1
      have hz2_g := hz2
      refine g_y (i := 0) (listed' := #[true, false, false, false, false, false, false, false, false]) rfl (by kernel_rfl) (by kernel_rfl) (by kernel_rfl) (by kernel_rfl) rfl rfl hg alln (fun m' H' hm' hX' => y_move rfl) ?_
      refine g_y (i := 1) (listed' := #[true, true, false, false, false, false, false, false, false]) rfl (by kernel_rfl) (by kernel_rfl) (by kernel_rfl) (by kernel_rfl) rfl rfl hg alln (fun m' H' hm' hX' => y_move rfl) ?_
      refine g_y (i := 2) (listed' := #[true, true, true, false, false, false, false, false, false]) rfl (by kernel_rfl) (by kernel_rfl) (by kernel_rfl) (by kernel_rfl) rfl rfl hg alln (fun m' H' hm' hX' => y_indexAddr_slice rfl rfl tl30 hlt1 (At.fz (hz1_g.mono hm') hlt1)) ?_
      refine g_y (i := 3) (listed' := #[true, true, true, true, false, false, false, false, false]) rfl (by kernel_rfl) (by kernel_rfl) (by kernel_rfl) (by kernel_rfl) rfl rfl hg alln (fun m' H' hm' hX' => y_load_a rfl ts53 (RdA.fz0 (hz1_g.mono hm') (map_get hx1))) ?_
      refine g_y (i := 4) (listed' := #[true, true, true, true, true, false, false, false, false]) rfl (by kernel_rfl) (by kernel_rfl) (by kernel_rfl) (by kernel_rfl) rfl rfl hg alln (fun m' H' hm' hX' => y_move rfl) ?_
      refine g_y (i := 5) (listed' := #[true, true, true, true, true, true, false, false, false]) rfl (by kernel_rfl) (by kernel_rfl) (by kernel_rfl) (by kernel_rfl) rfl rfl hg alln (fun m' H' hm' hX' => y_move rfl) ?_
      refine g_y (i := 6) (listed' := #[true, true, true, true, true, true, true, false, false]) rfl (by kernel_rfl) (by kernel_rfl) (by kernel_rfl) (by kernel_rfl) rfl rfl hg alln (fun m' H' hm' hX' => y_indexAddr_slice rfl rfl tl30 hlt2 (At.fz (hz2_g.mono hm') hlt2)) ?_
      refine g_y (i := 7) (listed' := #[true, true, true, true, true, true, true, true, false]) rfl (by kernel_rfl) (by kernel_rfl) (by kernel_rfl) (by kernel_rfl) rfl rfl hg alln (fun m' H' hm' hX' => y_load_a rfl ts53 (RdA.fz0 (hz2_g.mono hm') (map_get hx2))) ?_
      refine g_y (i := 8) (listed' := #[true, true, true, true, true, true, true, true, true]) rfl (by kernel_rfl) (by kernel_rfl) (by kernel_rfl) (by kernel_rfl) rfl rfl hg alln (fun m' H' hm' hX' => y_neagg (dd := 6)  rfl rfl en53 ia53 rfl Try.eqGuardType53 rfl (alike_act _ _)) ?_
      refine g_done (by kernel_rfl) ?_
      clear hg hz1_g hz2_g
      refine hK10 _ _ _ ?_
      clear hK10 K10
      refine c_cond rfl (fun h2 => ?_) (fun h2 => ?_)
      ·
        refine c_seq (fun K11 hK11 => ?_)
        refine c_region ?_
        refine r_y rfl rfl (y_assign rfl) ?_
        refine r_nil ?_
        refine hK11 _ _ _ ?_
        clear hK11 K11
        refine c_ret ?_
        refine e_ret 0 hm (res_tmps rfl) ?_
        refine ⟨congrArg Value.bool ?_, rfl⟩
        refine (decide_eq_false ?_).symm
        rintro rfl
        rw [hx1] at hx2; cases hx2
        simp [ceq_act] at h2
      ·
        refine c_skip ?_
        refine hK8 _ _ _ ?_
        clear hK8 K8
        refine c_region ?_
        first | refine r_y rfl rfl (y_inc rfl (by omega)) ?_ | refine r_y rfl rfl (y_iop rfl rfl rfl) ?_
        refine r_y rfl rfl (y_move rfl) ?_
        refine r_nil ?_
        exact ⟨k0 - 1, (i + 1), by omega, ⟨rfl, rfl, rfl, rfl, trivial⟩, rfl, ⟨by omega, by rw [List.take_add_one, List.take_add_one, hinv, hx1, hx2]; simp only [ceq_act] at h2; simpa using h2⟩, hm, hz1, hz2⟩
    ·
      refine c_exit ?_
      refine hK4 _ _ _ ?_
      clear hK7 K7 hK4 K4
      refine c_seq (fun K12 hK12 => ?_)
      refine c_region ?_
      refine r_y rfl rfl (y_assign rfl) ?_
      refine r_nil ?_
      refine hK12 _ _ _ ?_
      clear hK12 K12
      refine c_ret ?_
      refine e_ret 0 hm (res_tmps rfl) ?_
      refine ⟨congrArg Value.bool ?_, rfl⟩
      have hie : i = s1.n := by simp at h1; omega
      refine (decide_eq_true ?_).symm
      rw [List.take_of_length_le (by omega), List.take_of_length_le (by omega)] at hinv
      exact hinv
set_option maxRecDepth 100000 in
theorem actSame_ok (s1 s2 : Sl) (l1 l2 : List ActD) (m : Snap) (H : Hp) (hz1 : FzA m s1 l1) (hz2 : FzA m s2 l2) : Fn Try.prog 124 [s1.v, s2.v] m H (fun v _ H' => v = .bool (decide (l1 = l2)) ∧ H' = H) := by
  have hm : m.le m := Snap.le.refl m
  refine fn_end Try.func124 rfl rfl rfl ?_
  refine c_seq (fun K0 hK0 => ?_)
  refine c_region ?_
  refine r_y rfl rfl (y_assign rfl) ?_
  refine r_nil ?_
  refine hK0 _ _ _ ?_
  clear hK0 K0
  refine c_seq (fun K1 hK1 => ?_)
  refine c_region ?_
  refine r_y rfl rfl (y_move rfl) ?_
  refine r_y rfl rfl (y_move rfl) ?_
  refine r_s rfl ?_
  refine s_call0 rfl Try.call153 rfl (eqActs_ok s1 s2 l1 l2 _ _ hz1 hz2) ?_
  rintro _ m2 _ hm2 ⟨rfl, rfl⟩
  replace hm := hm.trans hm2
  replace hz1 := hz1.mono hm2
  replace hz2 := hz2.mono hm2
  clear hm2
  refine r_y rfl rfl (y_assign rfl) ?_
  refine r_nil ?_
  refine hK1 _ _ _ ?_
  clear hK1 K1
  refine c_ret ?_
  refine e_ret 0 hm (res_tmps rfl) ?_
  exact ⟨rfl, rfl⟩
set_option maxRecDepth 100000 in
theorem idxActs_ok (s : Sl) (l : List ActD) (f : Nat) (cp : List Value) (p : ActD → Bool) (m : Snap) (H : Hp) (hz : FzA m s l) (hr : runs Try.prog f) (hf : ∀ m' x, m.le m' → x ∈ l → Fn Try.prog f (.agg (encAct x).toArray :: cp) m' H (fun v _ H' => v = .bool (p x) ∧ H' = H)) : Fn Try.prog 155 [s.v, .func (.func f) [].toArray cp.toArray] m H (fun v _ H' => v = .int .i64 (idxF p l) ∧ H' = H) := by
  have hm : m.le m := Snap.le.refl m
  refine fn_end Try.func155 rfl rfl rfl ?_
  refine c_seq (fun K0 hK0 => ?_)
  refine c_region ?_
  refine r_y rfl rfl (y_assign rfl) ?_
  refine r_nil ?_
  refine hK0 _ _ _ ?_
  clear hK0 K0
  refine c_seq (fun K1 hK1 => ?_)
  refine c_seq (fun K2 hK2 => ?_)
  refine c_region ?_
  refine r_y rfl rfl (y_move rfl) ?_
  refine r_y rfl rfl (y_len tl30 rfl) ?_
  refine r_y rfl rfl (y_move rfl) ?_
  refine r_nil ?_
  refine hK2 _ _ _ ?_
  clear hK2 K2
  refine c_block ?_
  have hl := hz.lenA
  have hmx := hz.max
  have hle := hz.le
  unfold maxLen at hmx
  refine c_loopx (α := Nat) (fun i => [(0, s.v), (1, .func (.func f) [].toArray cp.toArray), (7, .int .i64 (s.n : Nat)), (8, .int .i64 (i : Nat))]) (fun i => H) (fun k0 i m1 => (i + k0 = s.n ∧ (l.take i).any p = false) ∧ m.le m1 ∧ (Fz m1 s.a s.n s.cap 4 (l.map encAct))) (s.n) 0 ⟨rfl, rfl, rfl, rfl, trivial⟩ rfl ⟨⟨by omega, rfl⟩, hm, hz⟩ ?_
  clear hm hz
  rintro k0 i m1 ⟨hi0, hm, hz⟩
  obtain ⟨hi, hinv⟩ := hi0
  refine c_seq (fun K3 hK3 => ?_)
  refine c_region ?_
  refine r_y rfl rfl (y_iop rfl rfl rfl) ?_
  refine r_nil ?_
  refine hK3 _ _ _ ?_
  clear hK3 K3
  refine c_seq (fun K4 hK4 => ?_)
  refine c_cond rfl (fun h0 => ?_) (fun h0 => ?_)
  ·
    have hlt : i < s.n := by simp at h0; omega
    obtain ⟨x, hx⟩ := get_of_lt (l := l) (k := i) (by omega)
    refine c_skip ?_
    refine hK4 _ _ _ ?_
    clear hK4 K4
    refine c_seq (fun K5 hK5 => ?_)
    refine c_block ?_
    refine c_seq (fun K6 hK6 => ?_)
    refine c_region ?_
    refine r_y rfl rfl (y_move rfl) ?_
    refine r_y rfl rfl (y_assign rfl) ?_
    refine r_nil ?_
    refine hK6 _ _ _ ?_
    clear hK6 K6
    refine c_seq (fun K7 hK7 => ?_)
    refine c_region ?_
    refine r_y rfl rfl (y_move rfl) ?_
    refine r_y rfl rfl (y_move rfl) ?_
    refine r_y rfl rfl (y_move rfl) ?_
    refine r_y rfl rfl (y_indexAddr_slice rfl rfl tl30 hlt (At.fz hz hlt)) ?_
    refine r_y rfl rfl (y_load_a rfl ts53 (RdA.fz0 hz (map_get hx))) ?_
    refine r_s rfl ?_
    refine s_call rfl hr rfl rfl (hf _ x hm (List.mem_of_getElem? hx)) ?_
    rintro _ m2 _ hm2 ⟨rfl, rfl⟩
    replace hm := hm.trans hm2
    replace hz := hz.mono hm2
    clear hm2
    refine r_nil ?_
    refine hK7 _ _ _ ?_
    clear hK7 K7
    refine c_cond rfl (fun h1 => ?_) (fun h1 => ?_)
    ·
      refine c_seq (fun K8 hK8 => ?_)
      refine c_region ?_
      refine r_y rfl rfl (y_move rfl) ?_
      refine r_y rfl rfl (y_assign rfl) ?_
      refine r_nil ?_
      refine hK8 _ _ _ ?_
      clear hK8 K8
      refine c_ret ?_
      refine e_ret 0 hm (res_tmps rfl) ?_
      exact ⟨congrArg _ (idxF_at hinv hx h1).symm, rfl⟩
    ·
      refine c_skip ?_
      refine hK5 _ _ _ ?_
      clear hK5 K5
      refine c_region ?_
      first | refine r_y rfl rfl (y_inc rfl (by omega)) ?_ | refine r_y rfl rfl (y_iop rfl rfl rfl) ?_
      refine r_y rfl rfl (y_move rfl) ?_
      refine r_nil ?_
      exact ⟨k0 - 1, (i + 1), by omega, ⟨rfl, rfl, rfl, rfl, trivial⟩, rfl, ⟨by omega, by rw [any_take_succ hx, hinv]; simpa using h1⟩, hm, hz⟩
  ·
    refine c_exit ?_
    refine hK1 _ _ _ ?_
    clear hK4 K4 hK1 K1
    refine c_seq (fun K9 hK9 => ?_)
    refine c_region ?_
    refine r_y rfl rfl (y_assign rfl) ?_
    refine r_nil ?_
    refine hK9 _ _ _ ?_
    clear hK9 K9
    refine c_ret ?_
    refine e_ret 0 hm (res_tmps rfl) ?_
    refine ⟨congrArg _ (idxF_no ?_).symm, rfl⟩
    have hie : i = s.n := by simp at h0; omega
    rw [List.take_of_length_le (by omega)] at hinv
    exact hinv
set_option maxRecDepth 100000 in
theorem hasActs_ok (s : Sl) (l : List ActD) (f : Nat) (cp : List Value) (p : ActD → Bool) (m : Snap) (H : Hp) (hz : FzA m s l) (hr : runs Try.prog f) (hf : ∀ m' x, m.le m' → x ∈ l → Fn Try.prog f (.agg (encAct x).toArray :: cp) m' H (fun v _ H' => v = .bool (p x) ∧ H' = H)) : Fn Try.prog 136 [s.v, .func (.func f) [].toArray cp.toArray] m H (fun v _ H' => v = .bool (l.any p) ∧ H' = H) := by
  have hm : m.le m := Snap.le.refl m
  refine fn_end Try.func136 rfl rfl rfl ?_
  refine c_seq (fun K0 hK0 => ?_)
  refine c_region ?_
  refine r_y rfl rfl (y_assign rfl) ?_
  refine r_nil ?_
  refine hK0 _ _ _ ?_
  clear hK0 K0
  refine c_seq (fun K1 hK1 => ?_)
  refine c_region ?_
  refine r_y rfl rfl (y_move rfl) ?_
  refine r_y rfl rfl (y_move rfl) ?_
  refine r_s rfl ?_
  refine s_call0 rfl Try.call155 rfl (idxActs_ok s l f cp p _ _ hz hr hf) ?_
  rintro _ m2 _ hm2 ⟨rfl, rfl⟩
  replace hm := hm.trans hm2
  clear hm2
  refine r_y rfl rfl (y_iop rfl rfl rfl) ?_
  refine r_y rfl rfl (y_assign rfl) ?_
  refine r_nil ?_
  refine hK1 _ _ _ ?_
  clear hK1 K1
  refine c_ret ?_
  refine e_ret 0 hm (res_tmps rfl) ?_
  exact ⟨congrArg _ (idxF_nonneg p l), rfl⟩
set_option maxRecDepth 100000 in
theorem headSet_ok (h : Head) (n : Int) (x : W) (m : Snap) (H : Hp) : Fn Try.prog 156 [.agg (encHead h).toArray, .int .i64 n, wv x] m H (fun v _ H' => v = .tuple [.agg (encHead (setF h n x).1).toArray, .int .i64 (setF h n x).2].toArray ∧ H' = H) := by
  have hm : m.le m := Snap.le.refl m
  refine fn_end Try.func156 rfl rfl rfl ?_
  refine c_seq (fun K0 hK0 => ?_)
  refine c_region ?_
  refine r_s rfl ?_
  refine s_box_a rfl rfl (fun b0 => ?_)
  refine r_s rfl ?_
  refine s_alloc rfl tz27 (fun b1 => ?_)
  refine r_y rfl rfl (y_assign rfl) ?_
  refine r_nil ?_
  refine hK0 _ _ _ ?_
  clear hK0 K0
  refine c_seq (fun K1 hK1 => ?_)
  refine c_block ?_
  refine c_seq (fun K2 hK2 => ?_)
  refine c_region ?_
  refine r_y rfl rfl (y_move rfl) ?_
  refine r_s rfl ?_
  refine s_call0 rfl Try.call167 rfl (there_ok _ _ _) ?_
  rintro _ m2 _ hm2 ⟨rfl, rfl⟩
  replace hm := hm.trans hm2
  clear hm2
  refine r_y rfl rfl (y_not rfl) ?_
  refine r_y rfl rfl (y_assign rfl) ?_
  refine r_nil ?_
  refine hK2 _ _ _ ?_
  clear hK2 K2
  refine c_cond rfl (fun h0 => ?_) (fun h0 => ?_)
  ·
    refine c_seq (fun K3 hK3 => ?_)
    refine c_region ?_
    refine r_y rfl rfl (y_bld rfl tz27 fk27 bp27_ rfl rfl) ?_
    refine r_s rfl ?_
    refine s_store rfl rfl rfl ts27 rfl rfl (by simp [Value.oneCell', wv, Sl.v]) (i := 0) rfl rfl ?_
    refine r_y rfl rfl (y_assign rfl) ?_
    refine r_nil ?_
    refine hK3 _ _ _ ?_
    clear hK3 K3
    refine c_ret ?_
    refine e_ret 2 hm (res2 (r1_cell_a rfl ts27 (RdA.blk (i := 0) rfl rfl)) (r1_tmp rfl)) ?_
    simp only [setF, h0, if_true]
    exact ⟨rfl, rfl⟩
  ·
    obtain ⟨k, hk, rfl⟩ := there_spec h0
    refine c_seq (fun K4 hK4 => ?_)
    refine c_region ?_
    refine r_y rfl rfl (y_move rfl) ?_
    refine r_y rfl rfl (y_move rfl) ?_
    refine r_s rfl ?_
    refine s_call0 rfl Try.call154 rfl (fits_ok _ _ _ _) ?_
    rintro _ m2 _ hm2 ⟨rfl, rfl⟩
    replace hm := hm.trans hm2
    clear hm2
    refine r_y rfl rfl (y_not rfl) ?_
    refine r_y rfl rfl (y_assign rfl) ?_
    refine r_nil ?_
    refine hK4 _ _ _ ?_
    clear hK4 K4
    refine c_cond rfl (fun h1 => ?_) (fun h1 => ?_)
    ·
      refine c_seq (fun K5 hK5 => ?_)
      refine c_region ?_
      refine r_y rfl rfl (y_bld rfl tz27 fk27 bp27_ rfl rfl) ?_
      refine r_s rfl ?_
      refine s_store rfl rfl rfl ts27 rfl rfl (by simp [Value.oneCell', wv, Sl.v]) (i := 0) rfl rfl ?_
      refine r_y rfl rfl (y_assign rfl) ?_
      refine r_nil ?_
      refine hK5 _ _ _ ?_
      clear hK5 K5
      refine c_ret ?_
      refine e_ret 2 hm (res2 (r1_cell_a rfl ts27 (RdA.blk (i := 0) rfl rfl)) (r1_tmp rfl)) ?_
      have h0' : (!there (k : Int)) = false := h0
      simp only [setF, h0', h1, if_true, Bool.false_eq_true, if_false]
      exact ⟨rfl, rfl⟩
    ·
      refine c_skip ?_
      refine hK1 _ _ _ ?_
      clear hK1 K1
      refine c_seq (fun K6 hK6 => ?_)
      refine c_region ?_
      refine r_y rfl rfl (y_move rfl) ?_
      refine r_y rfl rfl (y_move rfl) ?_
      refine r_y rfl rfl (y_indexAddr_arr rfl rfl ta27 hk At.lit) ?_
      refine r_s rfl ?_
      refine s_store rfl rfl rfl ts25 rfl rfl (by simp [Value.oneCell', wv]) (i := 1) rfl (cput_head _ _ _ hk) ?_
      refine r_nil ?_
      refine hK6 _ _ _ ?_
      clear hK6 K6
      refine c_seq (fun K7 hK7 => ?_)
      refine c_region ?_
      refine r_y rfl rfl (y_load_a (cs := encHead (h.set k x)) rfl ts27 (RdA.blk (i := 1) rfl rfl)) ?_
      refine r_s rfl ?_
      refine s_store (us := encHead (h.set k x)) rfl rfl rfl ts27 rfl rfl (one_head _) (i := 0) rfl rfl ?_
      refine r_y rfl rfl (y_assign rfl) ?_
      refine r_nil ?_
      refine hK7 _ _ _ ?_
      clear hK7 K7
      refine c_ret ?_
      refine e_ret 2 hm (res2 (r1_cell_a rfl ts27 (RdA.blk (i := 0) rfl rfl)) (r1_tmp rfl)) ?_
      have h0' : (!there (k : Int)) = false := h0
      simp only [setF, h0', h1, Bool.false_eq_true, if_false, Int.toNat_natCast]
      exact ⟨rfl, rfl⟩
set_option maxRecDepth 100000 in
theorem actsound_ok (a : ActD) (m : Snap) (H : Hp) : Fn Try.prog 138 [.agg (encAct a).toArray] m H (fun v _ H' => v = .bool (actSound a) ∧ H' = H) := by
  have hm : m.le m := Snap.le.refl m
  refine fn_end Try.func138 rfl rfl rfl ?_
  refine c_seq (fun K0 hK0 => ?_)
  refine c_region ?_
  refine r_s rfl ?_
  refine s_box_a rfl rfl (fun b0 => ?_)
  refine r_y rfl rfl (y_assign rfl) ?_
  refine r_nil ?_
  refine hK0 _ _ _ ?_
  clear hK0 K0
  refine c_seq (fun K1 hK1 => ?_)
  refine c_seq (fun K2 hK2 => ?_)
  refine c_region ?_
  refine r_y rfl rfl (y_fieldAddr rfl At.lit fo53_0 rfl) ?_
  refine r_y rfl rfl (y_load_s rfl ts3 (RdS.blk (i := 0) rfl rfl)) ?_
  refine r_nil ?_
  refine hK2 _ _ _ ?_
  clear hK2 K2
  refine c_block ?_
  refine c_seq (fun K3 hK3 => ?_)
  refine c_region ?_
  refine r_y rfl rfl (y_iop rfl rfl rfl) ?_
  refine r_y rfl rfl (y_assign rfl) ?_
  refine r_nil ?_
  refine hK3 _ _ _ ?_
  clear hK3 K3
  refine c_cond rfl (fun h0 => ?_) (fun h0 => ?_)
  ·
    refine c_seq (fun K4 hK4 => ?_)
    refine c_region ?_
    refine r_y rfl rfl (y_fieldAddr rfl At.lit fo53_1 rfl) ?_
    refine r_y rfl rfl (y_load_s rfl ts3 (RdS.blk (i := 0) rfl rfl)) ?_
    refine r_y rfl rfl (y_iop rfl rfl rfl) ?_
    refine r_y rfl rfl (y_move rfl) ?_
    refine r_split (j := 3) rfl (fun h1 => ?_) (fun h1 => ?_)
    ·
      refine r_yg rfl h1 rfl (y_fieldAddr rfl At.lit fo53_1 rfl) ?_
      refine r_yg rfl h1 rfl (y_load_s rfl ts3 (RdS.blk (i := 0) rfl rfl)) ?_
      refine r_yg rfl h1 rfl (y_iop rfl rfl rfl) ?_
      refine r_y rfl rfl (y_pickt rfl h1 rfl) ?_
      refine r_y rfl rfl (y_move rfl) ?_
      refine r_split (j := 8) rfl (fun h2 => ?_) (fun h2 => ?_)
      ·
        refine r_yg rfl h2 rfl (y_fieldAddr rfl At.lit fo53_2 rfl) ?_
        refine r_yg rfl h2 rfl (y_load_s rfl ts3 (RdS.blk (i := 0) rfl rfl)) ?_
        refine r_yg rfl h2 rfl (y_iop rfl rfl rfl) ?_
        refine r_y rfl rfl (y_pickt rfl h2 rfl) ?_
        refine r_y rfl rfl (y_move rfl) ?_
        refine r_split (j := 13) rfl (fun h3 => ?_) (fun h3 => ?_)
        ·
          refine r_yg rfl h3 rfl (y_fieldAddr rfl At.lit fo53_3 rfl) ?_
          refine r_yg rfl h3 rfl (y_load_s rfl ts25 (RdS.blk (i := 0) rfl rfl)) ?_
          refine r_yg rfl h3 rfl (y_wop rfl (opv_wc 0#64) rfl) ?_
          refine r_y rfl rfl (y_pickt rfl h3 rfl) ?_
          refine r_y rfl rfl (y_assign rfl) ?_
          refine r_nil ?_
          refine hK4 _ _ _ ?_
          clear hK4 K4
          refine c_ret ?_
          refine e_ret 1 hm (res_tmps rfl) ?_
          refine ⟨congrArg Value.bool ?_, rfl⟩
          first | (simp_all [actSound, ceq_act]; done) | (simp_all [actSound, ceq_act]; omega) | (simp_all [actSound, ceq_act]; intros; omega) | (rw [Bool.eq_iff_iff]; simp_all [actSound, ceq_act]; done)
        ·
          refine r_no' rfl rfl h3 ?_
          refine r_no' rfl rfl h3 ?_
          refine r_no' rfl rfl h3 ?_
          refine r_y rfl rfl (y_pickf rfl h3 rfl) ?_
          refine r_y rfl rfl (y_assign rfl) ?_
          refine r_nil ?_
          refine hK4 _ _ _ ?_
          clear hK4 K4
          refine c_ret ?_
          refine e_ret 1 hm (res_tmps rfl) ?_
          refine ⟨congrArg Value.bool ?_, rfl⟩
          first | (simp_all [actSound, ceq_act]; done) | (simp_all [actSound, ceq_act]; omega) | (simp_all [actSound, ceq_act]; intros; omega) | (rw [Bool.eq_iff_iff]; simp_all [actSound, ceq_act]; done)
      ·
        refine r_no' rfl rfl h2 ?_
        refine r_no' rfl rfl h2 ?_
        refine r_no' rfl rfl h2 ?_
        refine r_y rfl rfl (y_pickf rfl h2 rfl) ?_
        refine r_y rfl rfl (y_move rfl) ?_
        refine r_no' rfl rfl rfl ?_
        refine r_no' rfl rfl rfl ?_
        refine r_no' rfl rfl rfl ?_
        refine r_y rfl rfl (y_pickf rfl rfl rfl) ?_
        refine r_y rfl rfl (y_assign rfl) ?_
        refine r_nil ?_
        refine hK4 _ _ _ ?_
        clear hK4 K4
        refine c_ret ?_
        refine e_ret 1 hm (res_tmps rfl) ?_
        refine ⟨congrArg Value.bool ?_, rfl⟩
        first | (simp_all [actSound, ceq_act]; done) | (simp_all [actSound, ceq_act]; omega) | (simp_all [actSound, ceq_act]; intros; omega) | (rw [Bool.eq_iff_iff]; simp_all [actSound, ceq_act]; done)
    ·
      refine r_no' rfl rfl h1 ?_
      refine r_no' rfl rfl h1 ?_
      refine r_no' rfl rfl h1 ?_
      refine r_y rfl rfl (y_pickf rfl h1 rfl) ?_
      refine r_y rfl rfl (y_move rfl) ?_
      refine r_no' rfl rfl rfl ?_
      refine r_no' rfl rfl rfl ?_
      refine r_no' rfl rfl rfl ?_
      refine r_y rfl rfl (y_pickf rfl rfl rfl) ?_
      refine r_y rfl rfl (y_move rfl) ?_
      refine r_no' rfl rfl rfl ?_
      refine r_no' rfl rfl rfl ?_
      refine r_no' rfl rfl rfl ?_
      refine r_y rfl rfl (y_pickf rfl rfl rfl) ?_
      refine r_y rfl rfl (y_assign rfl) ?_
      refine r_nil ?_
      refine hK4 _ _ _ ?_
      clear hK4 K4
      refine c_ret ?_
      refine e_ret 1 hm (res_tmps rfl) ?_
      refine ⟨congrArg Value.bool ?_, rfl⟩
      first | (simp_all [actSound, ceq_act]; done) | (simp_all [actSound, ceq_act]; omega) | (simp_all [actSound, ceq_act]; intros; omega) | (rw [Bool.eq_iff_iff]; simp_all [actSound, ceq_act]; done)
  ·
    refine c_seq (fun K5 hK5 => ?_)
    refine c_region ?_
    refine r_y rfl rfl (y_iop rfl rfl rfl) ?_
    refine r_y rfl rfl (y_assign rfl) ?_
    refine r_nil ?_
    refine hK5 _ _ _ ?_
    clear hK5 K5
    refine c_cond rfl (fun h4 => ?_) (fun h4 => ?_)
    ·
      refine c_seq (fun K6 hK6 => ?_)
      refine c_region ?_
      refine r_y rfl rfl (y_bld rfl tz27 fk27 bp27_ rfl rfl) ?_
      refine r_y rfl rfl (y_fieldAddr rfl At.lit fo53_2 rfl) ?_
      refine r_y rfl rfl (y_load_s rfl ts3 (RdS.blk (i := 0) rfl rfl)) ?_
      refine r_y rfl rfl (y_fieldAddr rfl At.lit fo53_3 rfl) ?_
      refine r_y rfl rfl (y_load_s rfl ts25 (RdS.blk (i := 0) rfl rfl)) ?_
      refine r_s rfl ?_
      refine s_call0 rfl Try.call156 rfl (headSet_ok zHead a.field a.val _ _) ?_
      rintro _ m2 _ hm2 ⟨rfl, rfl⟩
      replace hm := hm.trans hm2
      clear hm2
      refine r_y rfl rfl (y_move rfl) ?_
      refine r_y rfl rfl (y_extract rfl rfl) ?_
      refine r_y rfl rfl (y_extract rfl rfl) ?_
      refine r_s rfl ?_
      refine s_alloc rfl tz27 (fun b1 => ?_)
      refine r_s rfl ?_
      refine s_store (us := encHead (setF zHead a.field a.val).1) rfl rfl rfl ts27 rfl rfl (one_head _) (i := 0) rfl rfl ?_
      refine r_y rfl rfl (y_assign rfl) ?_
      refine r_nil ?_
      refine hK6 _ _ _ ?_
      clear hK6 K6
      refine c_seq (fun K7 hK7 => ?_)
      refine c_region ?_
      refine r_y rfl rfl (y_move rfl) ?_
      refine r_y rfl rfl (y_iop rfl rfl rfl) ?_
      refine r_y rfl rfl (y_move rfl) ?_
      refine r_split (j := 2) rfl (fun h5 => ?_) (fun h5 => ?_)
      ·
        refine r_yg rfl h5 rfl (y_fieldAddr rfl At.lit fo53_1 rfl) ?_
        refine r_yg rfl h5 rfl (y_load_s rfl ts3 (RdS.blk (i := 1) rfl rfl)) ?_
        refine r_yg rfl h5 rfl (y_iop rfl rfl rfl) ?_
        refine r_y rfl rfl (y_pickt rfl h5 rfl) ?_
        refine r_y rfl rfl (y_assign rfl) ?_
        refine r_nil ?_
        refine hK7 _ _ _ ?_
        clear hK7 K7
        refine c_ret ?_
        refine e_ret 2 hm (res_tmps rfl) ?_
        refine ⟨congrArg Value.bool ?_, rfl⟩
        first | (simp_all [actSound, ceq_act]; done) | (simp_all [actSound, ceq_act]; omega) | (simp_all [actSound, ceq_act]; intros; omega) | (rw [Bool.eq_iff_iff]; simp_all [actSound, ceq_act]; done)
      ·
        refine r_no' rfl rfl h5 ?_
        refine r_no' rfl rfl h5 ?_
        refine r_no' rfl rfl h5 ?_
        refine r_y rfl rfl (y_pickf rfl h5 rfl) ?_
        refine r_y rfl rfl (y_assign rfl) ?_
        refine r_nil ?_
        refine hK7 _ _ _ ?_
        clear hK7 K7
        refine c_ret ?_
        refine e_ret 2 hm (res_tmps rfl) ?_
        refine ⟨congrArg Value.bool ?_, rfl⟩
        first | (simp_all [actSound, ceq_act]; done) | (simp_all [actSound, ceq_act]; omega) | (simp_all [actSound, ceq_act]; intros; omega) | (rw [Bool.eq_iff_iff]; simp_all [actSound, ceq_act]; done)
    ·
      refine c_skip ?_
      refine hK1 _ _ _ ?_
      clear hK1 K1
      refine c_seq (fun K8 hK8 => ?_)
      refine c_region ?_
      refine r_y rfl rfl (y_load_a (cs := encAct a) rfl ts53 (RdA.blk (i := 0) rfl rfl)) ?_
      refine r_y rfl rfl (y_bld rfl tz53 fk53 bp53_0 rfl rfl) ?_
      refine r_y rfl rfl (y_eqagg (dd := 6) (ys := encAct ⟨3, 0, 0, 0⟩) rfl rfl en53 ia53 rfl Try.eqGuardType53 rfl (alike_act _ ⟨3, 0, 0, 0⟩)) ?_
      refine r_y rfl rfl (y_assign rfl) ?_
      refine r_nil ?_
      refine hK8 _ _ _ ?_
      clear hK8 K8
      refine c_ret ?_
      refine e_ret 1 hm (res_tmps rfl) ?_
      refine ⟨congrArg Value.bool ?_, rfl⟩
      first | (simp_all [actSound, ceq_act]; done) | (simp_all [actSound, ceq_act]; omega) | (simp_all [actSound, ceq_act]; intros; omega) | (rw [Bool.eq_iff_iff]; simp_all [actSound, ceq_act]; done)
set_option maxRecDepth 100000 in
theorem actSound1_ok (a : ActD) (m : Snap) (H : Hp) : Fn Try.prog 137 [.agg (encAct a).toArray] m H (fun v _ H' => v = .bool (!actSound a) ∧ H' = H) := by
  have hm : m.le m := Snap.le.refl m
  refine fn_end Try.func137 rfl rfl rfl ?_
  refine c_seq (fun K0 hK0 => ?_)
  refine c_region ?_
  refine r_s rfl ?_
  refine s_box_a rfl rfl (fun b0 => ?_)
  refine r_y rfl rfl (y_assign rfl) ?_
  refine r_nil ?_
  refine hK0 _ _ _ ?_
  clear hK0 K0
  refine c_seq (fun K1 hK1 => ?_)
  refine c_region ?_
  refine r_y rfl rfl (y_load_a (cs := encAct a) rfl ts53 (RdA.blk (i := 0) rfl rfl)) ?_
  refine r_s rfl ?_
  refine s_call0 rfl Try.call138 rfl (actsound_ok a _ _) ?_
  rintro _ m2 _ hm2 ⟨rfl, rfl⟩
  replace hm := hm.trans hm2
  clear hm2
  refine r_y rfl rfl (y_not rfl) ?_
  refine r_y rfl rfl (y_assign rfl) ?_
  refine r_nil ?_
  refine hK1 _ _ _ ?_
  clear hK1 K1
  refine c_ret ?_
  refine e_ret 1 hm (res_tmps rfl) ?_
  exact ⟨rfl, rfl⟩
set_option maxRecDepth 100000 in
theorem actsSound_ok (s : Sl) (l : List ActD) (m : Snap) (H : Hp) (hz : FzA m s l) : Fn Try.prog 91 [s.v] m H (fun v _ H' => v = .bool (actsSound l) ∧ H' = H) := by
  have hl := hz.lenA
  have hm : m.le m := Snap.le.refl m
  refine fn_end Try.func91 rfl rfl rfl ?_
  refine c_seq (fun K0 hK0 => ?_)
  refine c_region ?_
  refine r_y rfl rfl (y_assign rfl) ?_
  refine r_nil ?_
  refine hK0 _ _ _ ?_
  clear hK0 K0
  refine c_seq (fun K1 hK1 => ?_)
  refine c_region ?_
  refine r_y rfl rfl (y_move rfl) ?_
  refine r_y rfl rfl (y_len tl30 rfl) ?_
  refine r_y rfl rfl (y_iop rfl rfl rfl) ?_
  refine r_y rfl rfl (y_move rfl) ?_
  refine r_split (j := 3) rfl (fun h0 => ?_) (fun h0 => ?_)
  ·
    refine r_yg rfl h0 rfl (y_move rfl) ?_
    refine r_sg rfl h0 ?_
    refine s_call0 rfl Try.call136 rfl (hasActs_ok s l 137 [] (fun a => !actSound a) _ _ hz Try.call137 (fun m' x _ _ => actSound1_ok x m' _)) ?_
    rintro _ m2 _ hm2 ⟨rfl, rfl⟩
    replace hm := hm.trans hm2
    replace hz := hz.mono hm2
    clear hm2
    refine r_yg rfl h0 rfl (y_not rfl) ?_
    refine r_y rfl rfl (y_pickt rfl h0 rfl) ?_
    refine r_y rfl rfl (y_assign rfl) ?_
    refine r_nil ?_
    refine hK1 _ _ _ ?_
    clear hK1 K1
    refine c_ret ?_
    refine e_ret 0 hm (res_tmps rfl) ?_
    refine ⟨congrArg Value.bool ?_, rfl⟩
    first | (simp_all [actsSound]; done) | (simp_all [actsSound]; omega) | (simp_all [actsSound]; intros; omega) | (rw [Bool.eq_iff_iff]; simp_all [actsSound]; done)
  ·
    refine r_no' rfl rfl h0 ?_
    refine r_no' rfl rfl h0 ?_
    refine r_no' rfl rfl h0 ?_
    refine r_y rfl rfl (y_pickf rfl h0 rfl) ?_
    refine r_y rfl rfl (y_assign rfl) ?_
    refine r_nil ?_
    refine hK1 _ _ _ ?_
    clear hK1 K1
    refine c_ret ?_
    refine e_ret 0 hm (res_tmps rfl) ?_
    refine ⟨congrArg Value.bool ?_, rfl⟩
    first | (simp_all [actsSound]; done) | (simp_all [actsSound]; omega) | (simp_all [actsSound]; intros; omega) | (rw [Bool.eq_iff_iff]; simp_all [actsSound]; done)
set_option maxRecDepth 100000 in
theorem spanM_ok (n k : Int) (m : Snap) (H : Hp) : Fn Try.prog 92 [.int .i64 n, .int .i64 k] m H (fun v _ H' => v = .bool (span n k) ∧ H' = H) := by
  have hm : m.le m := Snap.le.refl m
  refine fn_end Try.func92 rfl rfl rfl ?_
  refine c_seq (fun K0 hK0 => ?_)
  refine c_region ?_
  refine r_y rfl rfl (y_assign rfl) ?_
  refine r_nil ?_
  refine hK0 _ _ _ ?_
  clear hK0 K0
  refine c_seq (fun K1 hK1 => ?_)
  refine c_region ?_
  refine r_y rfl rfl (y_move rfl) ?_
  refine r_y rfl rfl (y_iop rfl rfl rfl) ?_
  refine r_y rfl rfl (y_move rfl) ?_
  refine r_split (j := 2) rfl (fun h0 => ?_) (fun h0 => ?_)
  ·
    refine r_yg rfl h0 rfl (y_move rfl) ?_
    refine r_yg rfl h0 rfl (y_move rfl) ?_
    refine r_yg rfl h0 rfl (y_iop rfl rfl rfl) ?_
    refine r_y rfl rfl (y_pickt rfl h0 rfl) ?_
    refine r_y rfl rfl (y_assign rfl) ?_
    refine r_nil ?_
    refine hK1 _ _ _ ?_
    clear hK1 K1
    refine c_ret ?_
    refine e_ret 0 hm (res_tmps rfl) ?_
    refine ⟨congrArg Value.bool ?_, rfl⟩
    first | (simp_all [span]; done) | (simp_all [span]; omega) | (simp_all [span]; intros; omega) | (rw [Bool.eq_iff_iff]; simp_all [span]; done)
  ·
    refine r_no' rfl rfl h0 ?_
    refine r_no' rfl rfl h0 ?_
    refine r_no' rfl rfl h0 ?_
    refine r_y rfl rfl (y_pickf rfl h0 rfl) ?_
    refine r_y rfl rfl (y_assign rfl) ?_
    refine r_nil ?_
    refine hK1 _ _ _ ?_
    clear hK1 K1
    refine c_ret ?_
    refine e_ret 0 hm (res_tmps rfl) ?_
    refine ⟨congrArg Value.bool ?_, rfl⟩
    first | (simp_all [span]; done) | (simp_all [span]; omega) | (simp_all [span]; intros; omega) | (rw [Bool.eq_iff_iff]; simp_all [span]; done)
set_option maxRecDepth 100000 in
theorem spanR_ok (n k : Int) (m : Snap) (H : Hp) : Fn Try.prog 120 [.int .i64 n, .int .i64 k] m H (fun v _ H' => v = .bool (span n k) ∧ H' = H) := by
  have hm : m.le m := Snap.le.refl m
  refine fn_end Try.func120 rfl rfl rfl ?_
  refine c_seq (fun K0 hK0 => ?_)
  refine c_region ?_
  refine r_y rfl rfl (y_assign rfl) ?_
  refine r_nil ?_
  refine hK0 _ _ _ ?_
  clear hK0 K0
  refine c_seq (fun K1 hK1 => ?_)
  refine c_region ?_
  refine r_y rfl rfl (y_move rfl) ?_
  refine r_y rfl rfl (y_iop rfl rfl rfl) ?_
  refine r_y rfl rfl (y_move rfl) ?_
  refine r_split (j := 2) rfl (fun h0 => ?_) (fun h0 => ?_)
  ·
    refine r_yg rfl h0 rfl (y_move rfl) ?_
    refine r_yg rfl h0 rfl (y_move rfl) ?_
    refine r_yg rfl h0 rfl (y_iop rfl rfl rfl) ?_
    refine r_y rfl rfl (y_pickt rfl h0 rfl) ?_
    refine r_y rfl rfl (y_assign rfl) ?_
    refine r_nil ?_
    refine hK1 _ _ _ ?_
    clear hK1 K1
    refine c_ret ?_
    refine e_ret 0 hm (res_tmps rfl) ?_
    refine ⟨congrArg Value.bool ?_, rfl⟩
    first | (simp_all [span]; done) | (simp_all [span]; omega) | (simp_all [span]; intros; omega) | (rw [Bool.eq_iff_iff]; simp_all [span]; done)
  ·
    refine r_no' rfl rfl h0 ?_
    refine r_no' rfl rfl h0 ?_
    refine r_no' rfl rfl h0 ?_
    refine r_y rfl rfl (y_pickf rfl h0 rfl) ?_
    refine r_y rfl rfl (y_assign rfl) ?_
    refine r_nil ?_
    refine hK1 _ _ _ ?_
    clear hK1 K1
    refine c_ret ?_
    refine e_ret 0 hm (res_tmps rfl) ?_
    refine ⟨congrArg Value.bool ?_, rfl⟩
    first | (simp_all [span]; done) | (simp_all [span]; omega) | (simp_all [span]; intros; omega) | (rw [Bool.eq_iff_iff]; simp_all [span]; done)
set_option maxRecDepth 100000 in
theorem spanF_ok (n k : Int) (m : Snap) (H : Hp) : Fn Try.prog 96 [.int .i64 n, .int .i64 k] m H (fun v _ H' => v = .bool (span n k) ∧ H' = H) := by
  have hm : m.le m := Snap.le.refl m
  refine fn_end Try.func96 rfl rfl rfl ?_
  refine c_seq (fun K0 hK0 => ?_)
  refine c_region ?_
  refine r_y rfl rfl (y_assign rfl) ?_
  refine r_nil ?_
  refine hK0 _ _ _ ?_
  clear hK0 K0
  refine c_seq (fun K1 hK1 => ?_)
  refine c_region ?_
  refine r_y rfl rfl (y_move rfl) ?_
  refine r_y rfl rfl (y_iop rfl rfl rfl) ?_
  refine r_y rfl rfl (y_move rfl) ?_
  refine r_split (j := 2) rfl (fun h0 => ?_) (fun h0 => ?_)
  ·
    refine r_yg rfl h0 rfl (y_move rfl) ?_
    refine r_yg rfl h0 rfl (y_move rfl) ?_
    refine r_yg rfl h0 rfl (y_iop rfl rfl rfl) ?_
    refine r_y rfl rfl (y_pickt rfl h0 rfl) ?_
    refine r_y rfl rfl (y_assign rfl) ?_
    refine r_nil ?_
    refine hK1 _ _ _ ?_
    clear hK1 K1
    refine c_ret ?_
    refine e_ret 0 hm (res_tmps rfl) ?_
    refine ⟨congrArg Value.bool ?_, rfl⟩
    first | (simp_all [span]; done) | (simp_all [span]; omega) | (simp_all [span]; intros; omega) | (rw [Bool.eq_iff_iff]; simp_all [span]; done)
  ·
    refine r_no' rfl rfl h0 ?_
    refine r_no' rfl rfl h0 ?_
    refine r_no' rfl rfl h0 ?_
    refine r_y rfl rfl (y_pickf rfl h0 rfl) ?_
    refine r_y rfl rfl (y_assign rfl) ?_
    refine r_nil ?_
    refine hK1 _ _ _ ?_
    clear hK1 K1
    refine c_ret ?_
    refine e_ret 0 hm (res_tmps rfl) ?_
    refine ⟨congrArg Value.bool ?_, rfl⟩
    first | (simp_all [span]; done) | (simp_all [span]; omega) | (simp_all [span]; intros; omega) | (rw [Bool.eq_iff_iff]; simp_all [span]; done)
set_option maxRecDepth 100000 in
theorem plain_ok (a : ModD) (s : Sl) (m : Snap) (H : Hp) : Fn Try.prog 93 [.agg (encMod a s).toArray] m H (fun v _ H' => v = .bool (modPlain a) ∧ H' = H) := by
  have hm : m.le m := Snap.le.refl m
  refine fn_end Try.func93 rfl rfl rfl ?_
  refine c_seq (fun K0 hK0 => ?_)
  refine c_region ?_
  refine r_s rfl ?_
  refine s_box_a rfl rfl (fun b0 => ?_)
  refine r_y rfl rfl (y_assign rfl) ?_
  refine r_nil ?_
  refine hK0 _ _ _ ?_
  clear hK0 K0
  refine c_seq (fun K1 hK1 => ?_)
  refine c_region ?_
  refine r_y rfl rfl (y_fieldAddr rfl At.lit fo32_4 rfl) ?_
  refine r_y rfl rfl (y_load_s rfl ts3 (RdS.blk (i := 0) rfl rfl)) ?_
  refine r_y rfl rfl (y_iop rfl rfl rfl) ?_
  refine r_y rfl rfl (y_move rfl) ?_
  refine r_split (j := 3) rfl (fun h0 => ?_) (fun h0 => ?_)
  ·
    refine r_yg rfl h0 rfl (y_fieldAddr rfl At.lit fo32_5 rfl) ?_
    refine r_yg rfl h0 rfl (y_load_s rfl ts3 (RdS.blk (i := 0) rfl rfl)) ?_
    refine r_yg rfl h0 rfl (y_iop rfl rfl rfl) ?_
    refine r_y rfl rfl (y_pickt rfl h0 rfl) ?_
    refine r_y rfl rfl (y_move rfl) ?_
    refine r_split (j := 8) rfl (fun h1 => ?_) (fun h1 => ?_)
    ·
      refine r_yg rfl h1 rfl (y_fieldAddr rfl At.lit fo32_7 rfl) ?_
      refine r_yg rfl h1 rfl (y_load_s rfl ts4 (RdS.blk (i := 0) rfl rfl)) ?_
      refine r_yg rfl h1 rfl (y_not rfl) ?_
      refine r_y rfl rfl (y_pickt rfl h1 rfl) ?_
      refine r_y rfl rfl (y_assign rfl) ?_
      refine r_nil ?_
      refine hK1 _ _ _ ?_
      clear hK1 K1
      refine c_ret ?_
      refine e_ret 1 hm (res_tmps rfl) ?_
      refine ⟨congrArg Value.bool ?_, rfl⟩
      first | (simp_all [modPlain]; done) | (simp_all [modPlain]; omega) | (simp_all [modPlain]; intros; omega) | (rw [Bool.eq_iff_iff]; simp_all [modPlain]; done)
    ·
      refine r_no' rfl rfl h1 ?_
      refine r_no' rfl rfl h1 ?_
      refine r_no' rfl rfl h1 ?_
      refine r_y rfl rfl (y_pickf rfl h1 rfl) ?_
      refine r_y rfl rfl (y_assign rfl) ?_
      refine r_nil ?_
      refine hK1 _ _ _ ?_
      clear hK1 K1
      refine c_ret ?_
      refine e_ret 1 hm (res_tmps rfl) ?_
      refine ⟨congrArg Value.bool ?_, rfl⟩
      first | (simp_all [modPlain]; done) | (simp_all [modPlain]; omega) | (simp_all [modPlain]; intros; omega) | (rw [Bool.eq_iff_iff]; simp_all [modPlain]; done)
  ·
    refine r_no' rfl rfl h0 ?_
    refine r_no' rfl rfl h0 ?_
    refine r_no' rfl rfl h0 ?_
    refine r_y rfl rfl (y_pickf rfl h0 rfl) ?_
    refine r_y rfl rfl (y_move rfl) ?_
    refine r_no' rfl rfl rfl ?_
    refine r_no' rfl rfl rfl ?_
    refine r_no' rfl rfl rfl ?_
    refine r_y rfl rfl (y_pickf rfl rfl rfl) ?_
    refine r_y rfl rfl (y_assign rfl) ?_
    refine r_nil ?_
    refine hK1 _ _ _ ?_
    clear hK1 K1
    refine c_ret ?_
    refine e_ret 1 hm (res_tmps rfl) ?_
    refine ⟨congrArg Value.bool ?_, rfl⟩
    first | (simp_all [modPlain]; done) | (simp_all [modPlain]; omega) | (simp_all [modPlain]; intros; omega) | (rw [Bool.eq_iff_iff]; simp_all [modPlain]; done)
end Go.Aw
