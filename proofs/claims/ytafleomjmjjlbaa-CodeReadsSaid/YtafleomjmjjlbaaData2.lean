/- The data of the program: actions, rules, changes, messages. -/
import Derived.Test.YtafleomjmjjlbaaData1
import Derived.Test.YtafleomjmjjlbaaAw13
namespace Go.Aw
open Go

abbrev i64 (n : Int) : Value := .int .i64 n

theorem wv_beq (a b : W) : ((a.toNat : Int) == (b.toNat : Int)) = (a == b) := by
  rw [Bool.eq_iff_iff, beq_iff_eq, beq_iff_eq, Int.ofNat_inj, BitVec.toNat_inj]

theorem Head.eq_iff (a b : Head) : a = b ↔ (a 0 = b 0 ∧ a 1 = b 1 ∧ a 2 = b 2 ∧ a 3 = b 3 ∧ a 4 = b 4 ∧ a 5 = b 5 ∧ a 6 = b 6 ∧ a 7 = b 7 ∧ a 8 = b 8 ∧ a 9 = b 9 ∧ a 10 = b 10 ∧ a 11 = b 11) := by
  constructor
  · rintro rfl; simp
  · rintro ⟨h0, h1, h2, h3, h4, h5, h6, h7, h8, h9, h10, h11⟩
    funext i
    match i with
    | 0 => exact h0
    | 1 => exact h1
    | 2 => exact h2
    | 3 => exact h3
    | 4 => exact h4
    | 5 => exact h5
    | 6 => exact h6
    | 7 => exact h7
    | 8 => exact h8
    | 9 => exact h9
    | 10 => exact h10
    | 11 => exact h11

instance : DecidableEq Head := fun a b => decidable_of_iff _ (Head.eq_iff a b).symm

theorem alike_head (a b : Head) : alike (encHead a) (encHead b) := by simp [encHead, alike, wv]
theorem ceq_head (a b : Head) : ceq (encHead a) (encHead b) = decide (a = b) := by
  rw [Bool.eq_iff_iff, decide_eq_true_iff, Head.eq_iff]
  simp only [encHead, ceq, wv, wv_beq, Bool.and_true, Bool.and_eq_true, beq_iff_eq]

deriving instance DecidableEq for Cube
theorem alike_append : ∀ {a b c d : List Value}, alike a b → alike c d → alike (a ++ c) (b ++ d)
  | [], [], c, d, _, h => h
  | .int _ _ :: a, .int _ _ :: b, c, d, h, h' => by simp only [alike] at h; simp only [List.cons_append, alike]; exact ⟨h.1, alike_append h.2 h'⟩
theorem ceq_append : ∀ {a b c d : List Value}, alike a b → ceq (a ++ c) (b ++ d) = (ceq a b && ceq c d)
  | [], [], c, d, _ => by simp [ceq]
  | .int _ _ :: a, .int _ _ :: b, c, d, h => by simp only [alike] at h; simp only [List.cons_append, ceq, ceq_append h.2, Bool.and_assoc]
theorem alike_cube (a b : Cube) : alike (encCube a) (encCube b) := alike_append (alike_head _ _) (alike_head _ _)
theorem ceq_cube (a b : Cube) : ceq (encCube a) (encCube b) = decide (a = b) := by
  unfold encCube
  rw [ceq_append (alike_head _ _), ceq_head, ceq_head, Bool.eq_iff_iff]
  cases a; cases b; simp

structure ActD where
  kind : Int
  port : Int
  field : Int
  val : W
deriving DecidableEq
def encAct (a : ActD) : List Value := [i64 a.kind, i64 a.port, i64 a.field, wv a.val]
theorem alike_act (a b : ActD) : alike (encAct a) (encAct b) := by simp [encAct, alike, wv]
theorem ceq_act (a b : ActD) : ceq (encAct a) (encAct b) = decide (a = b) := by
  rw [Bool.eq_iff_iff, decide_eq_true_iff]
  cases a; cases b
  simp only [encAct, ceq, wv, wv_beq, Bool.and_true, Bool.and_eq_true, beq_iff_eq, ActD.mk.injEq]

structure RuleD where
  m : Cube
  prio : Int
  acts : List ActD
  idle : Int
  hard : Int
  owner : Int
  hits : Int
  quiet : Int
  age : Int
deriving DecidableEq
def encRule (r : RuleD) (s : Sl) : List Value := encCube r.m ++ [i64 r.prio, s.v, i64 r.idle, i64 r.hard, i64 r.owner, i64 r.hits, i64 r.quiet, i64 r.age]

structure ModD where
  kind : Int
  m : Cube
  prio : Int
  acts : List ActD
  idle : Int
  hard : Int
  owner : Int
  check : Bool
deriving DecidableEq
def encMod (r : ModD) (s : Sl) : List Value := i64 r.kind :: encCube r.m ++ [i64 r.prio, s.v, i64 r.idle, i64 r.hard, i64 r.owner, .bool r.check]

structure MsgD where
  kind : Int
  txn : Int
  e : Int
  mod : ModD
  port : Int
  head : Head
  rules : List RuleD
deriving DecidableEq
def encMsg (x : MsgD) (sm sr : Sl) : List Value := [i64 x.kind, i64 x.txn, i64 x.e] ++ encMod x.mod sm ++ [i64 x.port] ++ encHead x.head ++ [sr.v]

/-- Actions that lie in memory that stays. -/
abbrev FzA (m : Snap) (s : Sl) (l : List ActD) : Prop := Fz m s.a s.n s.cap 4 (l.map encAct)
theorem Fz.lenA {m : Snap} {s : Sl} {l : List ActD} (h : FzA m s l) : s.n = l.length := by have := h.len; simpa using this.symm
/-- Rules likewise, each with its actions' head. -/
structure FzR (m : Snap) (s : Sl) (l : List (RuleD × Sl)) : Prop where
  fz : Fz m s.a s.n s.cap 32 (l.map fun p => encRule p.1 p.2)
  acts : ∀ p ∈ l, FzA m p.2 p.1.acts ∧ p.2.ok
theorem FzR.mono {m m' : Snap} {s : Sl} {l : List (RuleD × Sl)} (h : FzR m s l) (hm : m.le m') : FzR m' s l := ⟨h.fz.mono hm, fun p hp => ⟨(h.acts p hp).1.mono hm, (h.acts p hp).2⟩⟩
theorem FzR.len {m : Snap} {s : Sl} {l : List (RuleD × Sl)} (h : FzR m s l) : s.n = l.length := by have := h.fz.len; simpa using this.symm

theorem map_get {α β : Type} {f : α → β} {l : List α} {k : Nat} {x : α} (h : l[k]? = some x) : (l.map f)[k]? = some (f x) := by simp [h]
theorem get_of_lt {α : Type} {l : List α} {k : Nat} (h : k < l.length) : ∃ x, l[k]? = some x := ⟨l[k], by simp [h]⟩

theorem one_head (h : Head) : ∀ u ∈ encHead h, u.oneCell' = true := by simp [encHead, wv, Value.oneCell']
theorem one_cube (c : Cube) : ∀ u ∈ encCube c, u.oneCell' = true := by
  intro u hu
  rcases List.mem_append.1 hu with h | h
  · exact one_head _ u h
  · exact one_head _ u h
theorem one_act (a : ActD) : ∀ u ∈ encAct a, u.oneCell' = true := by simp [encAct, wv, Value.oneCell']
theorem one_rule (r : RuleD) (s : Sl) : ∀ u ∈ encRule r s, u.oneCell' = true := by
  intro u hu
  rcases List.mem_append.1 hu with h | h
  · exact one_cube _ u h
  · simp at h; rcases h with rfl | rfl | rfl | rfl | rfl | rfl | rfl | rfl <;> rfl
theorem one_mod (r : ModD) (s : Sl) : ∀ u ∈ encMod r s, u.oneCell' = true := by
  intro u hu
  rcases List.mem_cons.1 hu with rfl | hu
  · rfl
  · rcases List.mem_append.1 hu with h | h
    · exact one_cube _ u h
    · simp at h; rcases h with rfl | rfl | rfl | rfl | rfl | rfl <;> rfl
theorem one_msg (x : MsgD) (s t : Sl) : ∀ u ∈ encMsg x s t, u.oneCell' = true := by
  intro u hu
  simp only [encMsg, List.mem_append] at hu
  rcases hu with (((h | h) | h) | h) | h
  · simp at h; rcases h with rfl | rfl | rfl <;> rfl
  · exact one_mod _ _ u h
  · simp at h; subst h; rfl
  · exact one_head _ u h
  · simp at h; subst h; rfl

/-- Where the first one is, or -1. -/
def idxF {α : Type} (p : α → Bool) (l : List α) : Int := match l.findIdx? p with
  | some k => (k : Int)
  | none => -1

theorem idxF_at {α : Type} {p : α → Bool} {l : List α} {i : Nat} {x : α} (h : (l.take i).any p = false) (hx : l[i]? = some x) (hp : p x = true) : idxF p l = (i : Int) := by
  have hlt : i < l.length := (List.getElem?_eq_some_iff.1 hx).1
  have hxe : l[i] = x := (List.getElem?_eq_some_iff.1 hx).2
  have : l.findIdx? p = some i := by
    rw [List.findIdx?_eq_some_iff_getElem]
    refine ⟨hlt, by rw [hxe]; exact hp, fun j hj => ?_⟩
    simp only [List.any_eq_false] at h
    have := h l[j] (by rw [List.mem_take_iff_getElem]; exact ⟨j, by omega, rfl⟩)
    simpa using this
  simp [idxF, this]

theorem idxF_no {α : Type} {p : α → Bool} {l : List α} (h : l.any p = false) : idxF p l = -1 := by
  have : l.findIdx? p = none := by
    rw [List.findIdx?_eq_none_iff]
    simpa using h
  simp [idxF, this]

theorem idxF_nonneg {α : Type} (p : α → Bool) (l : List α) : decide (idxF p l ≥ 0) = l.any p := by
  cases h : l.any p with
  | false => rw [idxF_no h]; rfl
  | true =>
    unfold idxF
    cases hf : l.findIdx? p with
    | none => rw [List.findIdx?_eq_none_iff] at hf; simp at h; obtain ⟨x, hx, hp⟩ := h; simp [hf x hx] at hp
    | some k => simp

theorem any_take_succ {α : Type} {p : α → Bool} {l : List α} {i : Nat} {x : α} (hx : l[i]? = some x) : (l.take (i + 1)).any p = ((l.take i).any p || p x) := by
  rw [List.take_add_one, hx]; simp

def Head.set (h : Head) (k : Nat) (x : W) : Head := fun i => if i = Fin.ofNat 12 k then x else h i
theorem cput_head (h : Head) (k : Nat) (x : W) (hk : k < 12) : cput (encHead h) (0 + k * 1) [wv x] = some (encHead (h.set k x)) := by
  match k, hk with
  | 0, _ | 1, _ | 2, _ | 3, _ | 4, _ | 5, _ | 6, _ | 7, _ | 8, _ | 9, _ | 10, _ | 11, _ => rfl

def zHead : Head := fun _ => 0
def zCube : Cube := ⟨zHead, zHead⟩
def zMod : ModD := ⟨0, zCube, 0, [], 0, 0, 0, false⟩
def zSl : Sl := ⟨none, 0, 0⟩
def cmpW (a b : W) : Int := if a < b then -1 else if b < a then 1 else 0
def cmpL : List W → List W → Int
  | [], [] => 0
  | [], _ :: _ => -1
  | _ :: _, [] => 1
  | a :: as, b :: bs => if cmpW a b ≠ 0 then cmpW a b else cmpL as bs
def headL (h : Head) : List W := [h 0, h 1, h 2, h 3, h 4, h 5, h 6, h 7, h 8, h 9, h 10, h 11]
theorem encHead_eq (h : Head) : encHead h = (headL h).map wv := rfl
def headCmp (a b : Head) : Int := cmpL (headL a) (headL b)
def orL (l : List Int) : Int := (l.find? (fun x => x != 0)).getD 0
def cubeCmp (a b : Cube) : Int := orL [headCmp a.care b.care, headCmp a.value b.value]
def ruleCmp (a b : RuleD) : Int := if a.prio ≠ b.prio then (if a.prio > b.prio then -1 else 1) else cubeCmp a.m b.m
def ruleBefore (a b : RuleD) : Bool := decide (ruleCmp a b < 0)
def words1 (l : List W) : List (List Value) := l.map fun x => [wv x]
def ints1 (l : List Int) : List (List Value) := l.map fun x => [i64 x]
theorem flatten_words1 (l : List W) : (words1 l).flatten = l.map wv := by simp [words1, List.flatten_eq_flatMap, List.flatMap_map]; induction l <;> simp_all
theorem flatten_ints1 (l : List Int) : (ints1 l).flatten = l.map i64 := by simp [ints1, List.flatten_eq_flatMap, List.flatMap_map]; induction l <;> simp_all
theorem drop_cons {α : Type} {l : List α} {i : Nat} {x : α} (h : l[i]? = some x) : l.drop i = x :: l.drop (i + 1) := by
  have hlt := (List.getElem?_eq_some_iff.1 h).1
  rw [List.drop_eq_getElem_cons hlt, (List.getElem?_eq_some_iff.1 h).2]

/-- head.Set: the header, the error. -/
def setF (h : Head) (n : Int) (v : W) : Head × Int := if !there n then (zHead, 1) else if !fits n v then (zHead, 13) else (h.set n.toNat v, 0)
def actSound (a : ActD) : Bool :=
  if a.kind = 1 then decide (a.port ≥ 1) && decide (a.port ≤ 16) && (a.field == 0) && (a.val == 0)
  else if a.kind = 2 then ((setF zHead a.field a.val).2 == 0) && (a.port == 0)
  else decide (a = ⟨3, 0, 0, 0⟩)
def actsSound (l : List ActD) : Bool := decide ((l.length : Int) ≤ 8) && !(l.any fun a => !actSound a)
def span (n m : Int) : Bool := decide (n ≥ 0) && decide (n ≤ m)
def modPlain (m : ModD) : Bool := (m.idle == 0) && (m.hard == 0) && !m.check
def modSound (m : ModD) : Bool :=
  if !cubeSound m.m || !actsSound m.acts || !span m.prio 65535 || !span m.owner 255 then false
  else if m.kind = 1 then span m.idle 1048576 && span m.hard 1048576
  else if m.kind = 2 then modPlain m && (m.prio == 0)
  else if m.kind = 3 then modPlain m && (m.prio == 0) && ((m.acts.length : Int) == 0)
  else if m.kind = 4 then modPlain m
  else if m.kind = 5 then modPlain m && ((m.acts.length : Int) == 0)
  else false
def ruleSound (r : RuleD) : Bool := cubeSound r.m && actsSound r.acts && span r.prio 65535 && span r.idle 1048576 && span r.hard 1048576 && span r.owner 255 && decide (min r.hits (min r.quiet r.age) ≥ 0)
def okAt (l : List RuleD) (i : Nat) : Bool := match l[i]? with
  | some r => ruleSound r && (decide (i = 0) || match l[i - 1]? with
    | some q => ruleBefore q r
    | none => false)
  | none => false
def ruleTable (l : List RuleD) : Bool := (List.range l.length).all (okAt l)
def msgEmpty (x : MsgD) : Bool := (x.e == 0) && decide (x.mod = zMod) && (x.port == 0) && decide (x.head = zHead) && ((x.rules.length : Int) == 0)
def msgBody (x : MsgD) : Bool :=
  if x.kind = 1 then msgEmpty { x with mod := zMod } && modSound x.mod
  else if x.kind = 6 then msgEmpty { x with e := 0 } && decide (x.e ≥ 1) && decide (x.e ≤ 17)
  else if x.kind = 8 then msgEmpty { x with port := 0, head := zHead } && decide (x.port ≥ 1) && decide (x.port ≤ 16) && headSound x.head
  else if x.kind = 9 ∨ x.kind = 10 then msgEmpty { x with rules := [] } && ruleTable x.rules && (decide (x.kind = 10) || ((x.rules.length : Int) == 1))
  else msgEmpty x && decide (x.kind ≥ 1) && decide (x.kind ≤ 10)
def msgSound (x : MsgD) : Bool := decide (x.txn ≥ 0) && decide (x.txn ≤ 4294967295) && msgBody x
/-- A message that lies in memory that stays. -/
structure MsgOk (m : Snap) (x : MsgD) (sm sr : Sl) (lr : List (RuleD × Sl)) : Prop where
  mod : FzA m sm x.mod.acts
  modok : sm.ok
  rules : FzR m sr lr
  eq : x.rules = lr.map (·.1)
theorem MsgOk.mono {m m' : Snap} {x : MsgD} {sm sr : Sl} {lr : List (RuleD × Sl)} (h : MsgOk m x sm sr lr) (hm : m.le m') : MsgOk m' x sm sr lr := ⟨h.mod.mono hm, h.modok, h.rules.mono hm, h.eq⟩
theorem MsgOk.len {m : Snap} {x : MsgD} {sm sr : Sl} {lr : List (RuleD × Sl)} (h : MsgOk m x sm sr lr) : sr.n = x.rules.length := by rw [h.rules.len, h.eq]; simp
theorem fzA_nil (m : Snap) : FzA m zSl [] := ⟨rfl, fun c h => (by cases h), Nat.le_refl _, Nat.zero_le _, fun k c h => (by simp at h)⟩
theorem fzR_nil (m : Snap) : FzR m zSl [] := ⟨⟨rfl, fun c h => (by cases h), Nat.le_refl _, Nat.zero_le _, fun k c h => (by simp at h)⟩, fun p h => (by cases h)⟩
end Go.Aw
