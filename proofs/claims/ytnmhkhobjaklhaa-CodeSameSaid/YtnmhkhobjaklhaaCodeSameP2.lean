/- Part 2 of the words and walks that the proof behind it uses. -/
import Derived.Test.YtnmhkhobjaklhaaCodeSameP1
import Derived.Laws.BytesString
import Derived.Below
import Derived.OpenShut
import Derived.Laws.OwnMore
import Derived.Deep.Slices
import Derived.Test.YtnmhkhobjaklhaaProg
import Derived.KernelRfl
set_option linter.unusedVariables false
set_option linter.unusedSimpArgs false
namespace Go.Aw
open Go
theorem St.front {m : Snap} {H : Hp} {w : World} {i : Nat} {it : Item} (h : St m H w) (hi : hget H i = some it) : St m (it :: hdel H i) w := h.perm (hget_perm hi).1
def bv (c : UInt8) : Value := .int .u8 (c.toNat : Int)
theorem wrap_u8 (n : Int) : IntKind.u8.wrap n = n % 256 := by simp [IntKind.wrap, IntKind.bits, IntKind.signed]
theorem wrap_i64_w (a : W) : IntKind.i64.wrap (a.toNat : Int) = a.toInt := by
  have := a.isLt
  simp only [IntKind.wrap, IntKind.bits, IntKind.signed, BitVec.toInt]
  simp
  omega
theorem wrap_u64_i (n : Int) : IntKind.u64.wrap n = ((BitVec.ofInt 64 n).toNat : Int) := by
  simp only [IntKind.wrap, IntKind.bits, IntKind.signed, BitVec.toNat_ofInt]
  simp
  omega
section
variable {P : Program} {n : Nat} {Q : Post} {L : Slots} {m m0 : Snap} {H X : Hp} {ops : Array Oper} {rest : List Oper} {d : Option Tmp} {ty : TypeId} {ps : String} {af : Array Edge} {gd : Option (Nat × Bool)} {fuel : Nat} {listed : Array Bool}
theorem c_front {c : Code} (i : Nat) {it : Item} (hi : hget H i = some it) (h : RunC P n c Q L m (it :: hdel H i)) : RunC P n c Q L m H := fun a w hf hs => h a w hf (hs.front hi)
theorem r_front {l : List Oper} (i : Nat) {it : Item} (hi : hget H i = some it) (h : Run P n ops Q l L m (it :: hdel H i)) : Run P n ops Q l L m H := fun a w hf hs => h a w hf (hs.front hi)
theorem g_del {S : World → Prop} (i : Nat) {it : Item} (hi : hget H i = some it) (h : AG P n ops Q S fuel listed L m (hdel H i)) : AG P n ops Q S fuel listed L m H := fun a w hf hs => h a w hf (hs.del hi)
theorem y_conv_w8 {src dst : TypeId} {x : Operand} {a : W} (hx : opv L x = some (wv a)) (hs : P.underlying src = some (.int .u64)) (ht : P.underlying dst = some (.int .u8)) :
    Yl P n L m H ⟨d, .convert src dst x, ty, ps, af, gd⟩ (bv (UInt8.ofNat a.toNat)) :=
  y_conv_int hx (by rw [hs]; rfl) ht (by rw [wrap_u8]; simp)
theorem y_conv_i8 {src dst : TypeId} {x : Operand} {k : IntKind} {a : Int} (hx : opv L x = some (.int k a)) (hs : P.underlying src = some (.int k)) (ht : P.underlying dst = some (.int .u8)) :
    Yl P n L m H ⟨d, .convert src dst x, ty, ps, af, gd⟩ (bv (UInt8.ofNat (a % 256).toNat)) :=
  y_conv_int hx (by rw [hs]; rfl) ht (by
    rw [wrap_u8]
    simp only [UInt8.toNat_ofNat']
    omega)
theorem y_conv_8w {src dst : TypeId} {x : Operand} {c : UInt8} (hx : opv L x = some (bv c)) (hs : P.underlying src = some (.int .u8)) (ht : P.underlying dst = some (.int .u64)) :
    Yl P n L m H ⟨d, .convert src dst x, ty, ps, af, gd⟩ (wv (BitVec.ofNat 64 c.toNat)) :=
  y_conv_int hx (by rw [hs]; rfl) ht (by
    have := c.toNat_lt
    rw [wrap_u64_nat]; simp)
theorem y_conv_wi {src dst : TypeId} {x : Operand} {a : W} (hx : opv L x = some (wv a)) (hs : P.underlying src = some (.int .u64)) (ht : P.underlying dst = some (.int .i64)) :
    Yl P n L m H ⟨d, .convert src dst x, ty, ps, af, gd⟩ (.int .i64 a.toInt) :=
  y_conv_int hx (by rw [hs]; rfl) ht (wrap_i64_w a)
theorem y_conv_iw {src dst : TypeId} {x : Operand} {a : Int} (hx : opv L x = some (.int .i64 a)) (hs : P.underlying src = some (.int .i64)) (ht : P.underlying dst = some (.int .u64)) :
    Yl P n L m H ⟨d, .convert src dst x, ty, ps, af, gd⟩ (wv (BitVec.ofInt 64 a)) :=
  y_conv_int hx (by rw [hs]; rfl) ht (wrap_u64_i a)
end
end Go.Aw
namespace Go.Aw
open Go
abbrev i64 (n : Int) : Value := .int .i64 n
theorem wv_beq (a b : W) : ((a.toNat : Int) == (b.toNat : Int)) = (a == b) := by
  rw [Bool.eq_iff_iff, beq_iff_eq, beq_iff_eq, Int.ofNat_inj, BitVec.toNat_inj]
theorem Head.eq_iff (a b : Head) : a = b ↔ (a 0 = b 0 ∧ a 1 = b 1 ∧ a 2 = b 2 ∧ a 3 = b 3 ∧ a 4 = b 4 ∧ a 5 = b 5 ∧ a 6 = b 6 ∧ a 7 = b 7 ∧ a 8 = b 8 ∧ a 9 = b 9 ∧ a 10 = b 10 ∧ a 11 = b 11) := by
  constructor
  · rintro rfl; simp
  · rintro ⟨h0, h1, h2, h3, h4, h5, h6, h7, h8, h9, h10, h11⟩
    funext i
    match i with
    | 0 => exact h0
    | 1 => exact h1
    | 2 => exact h2
    | 3 => exact h3
    | 4 => exact h4
    | 5 => exact h5
    | 6 => exact h6
    | 7 => exact h7
    | 8 => exact h8
    | 9 => exact h9
    | 10 => exact h10
    | 11 => exact h11
instance : DecidableEq Head := fun a b => decidable_of_iff _ (Head.eq_iff a b).symm
theorem alike_head (a b : Head) : alike (encHead a) (encHead b) := by simp [encHead, alike, wv]
theorem ceq_head (a b : Head) : ceq (encHead a) (encHead b) = decide (a = b) := by
  rw [Bool.eq_iff_iff, decide_eq_true_iff, Head.eq_iff]
  simp only [encHead, ceq, wv, wv_beq, Bool.and_true, Bool.and_eq_true, beq_iff_eq]
deriving instance DecidableEq for Cube
theorem alike_append : ∀ {a b c d : List Value}, alike a b → alike c d → alike (a ++ c) (b ++ d)
  | [], [], c, d, _, h => h
  | .int _ _ :: a, .int _ _ :: b, c, d, h, h' => by simp only [alike] at h; simp only [List.cons_append, alike]; exact ⟨h.1, alike_append h.2 h'⟩
theorem ceq_append : ∀ {a b c d : List Value}, alike a b → ceq (a ++ c) (b ++ d) = (ceq a b && ceq c d)
  | [], [], c, d, _ => by simp [ceq]
  | .int _ _ :: a, .int _ _ :: b, c, d, h => by simp only [alike] at h; simp only [List.cons_append, ceq, ceq_append h.2, Bool.and_assoc]
theorem alike_cube (a b : Cube) : alike (encCube a) (encCube b) := alike_append (alike_head _ _) (alike_head _ _)
theorem ceq_cube (a b : Cube) : ceq (encCube a) (encCube b) = decide (a = b) := by
  unfold encCube
  rw [ceq_append (alike_head _ _), ceq_head, ceq_head, Bool.eq_iff_iff]
  cases a; cases b; simp
structure ActD where
  kind : Int
  port : Int
  field : Int
  val : W
deriving DecidableEq
def encAct (a : ActD) : List Value := [i64 a.kind, i64 a.port, i64 a.field, wv a.val]
theorem alike_act (a b : ActD) : alike (encAct a) (encAct b) := by simp [encAct, alike, wv]
theorem ceq_act (a b : ActD) : ceq (encAct a) (encAct b) = decide (a = b) := by
  rw [Bool.eq_iff_iff, decide_eq_true_iff]
  cases a; cases b
  simp only [encAct, ceq, wv, wv_beq, Bool.and_true, Bool.and_eq_true, beq_iff_eq, ActD.mk.injEq]
structure RuleD where
  m : Cube
  prio : Int
  acts : List ActD
  idle : Int
  hard : Int
  owner : Int
  hits : Int
  quiet : Int
  age : Int
deriving DecidableEq
def encRule (r : RuleD) (s : Sl) : List Value := encCube r.m ++ [i64 r.prio, s.v, i64 r.idle, i64 r.hard, i64 r.owner, i64 r.hits, i64 r.quiet, i64 r.age]
structure ModD where
  kind : Int
  m : Cube
  prio : Int
  acts : List ActD
  idle : Int
  hard : Int
  owner : Int
  check : Bool
deriving DecidableEq
def encMod (r : ModD) (s : Sl) : List Value := i64 r.kind :: encCube r.m ++ [i64 r.prio, s.v, i64 r.idle, i64 r.hard, i64 r.owner, .bool r.check]
structure MsgD where
  kind : Int
  txn : Int
  e : Int
  mod : ModD
  port : Int
  head : Head
  rules : List RuleD
deriving DecidableEq
def encMsg (x : MsgD) (sm sr : Sl) : List Value := [i64 x.kind, i64 x.txn, i64 x.e] ++ encMod x.mod sm ++ [i64 x.port] ++ encHead x.head ++ [sr.v]
/-- Actions that lie in memory that stays. -/
abbrev FzA (m : Snap) (s : Sl) (l : List ActD) : Prop := Fz m s.a s.n s.cap 4 (l.map encAct)
theorem Fz.lenA {m : Snap} {s : Sl} {l : List ActD} (h : FzA m s l) : s.n = l.length := by have := h.len; simpa using this.symm
/-- Rules likewise, each with its actions' head. -/
structure FzR (m : Snap) (s : Sl) (l : List (RuleD × Sl)) : Prop where
  fz : Fz m s.a s.n s.cap 32 (l.map fun p => encRule p.1 p.2)
  acts : ∀ p ∈ l, FzA m p.2 p.1.acts ∧ p.2.ok
theorem FzR.mono {m m' : Snap} {s : Sl} {l : List (RuleD × Sl)} (h : FzR m s l) (hm : m.le m') : FzR m' s l := ⟨h.fz.mono hm, fun p hp => ⟨(h.acts p hp).1.mono hm, (h.acts p hp).2⟩⟩
theorem FzR.len {m : Snap} {s : Sl} {l : List (RuleD × Sl)} (h : FzR m s l) : s.n = l.length := by have := h.fz.len; simpa using this.symm
theorem map_get {α β : Type} {f : α → β} {l : List α} {k : Nat} {x : α} (h : l[k]? = some x) : (l.map f)[k]? = some (f x) := by simp [h]
theorem get_of_lt {α : Type} {l : List α} {k : Nat} (h : k < l.length) : ∃ x, l[k]? = some x := ⟨l[k], by simp [h]⟩
theorem one_head (h : Head) : ∀ u ∈ encHead h, u.oneCell' = true := by simp [encHead, wv, Value.oneCell']
theorem one_cube (c : Cube) : ∀ u ∈ encCube c, u.oneCell' = true := by
  intro u hu
  rcases List.mem_append.1 hu with h | h
  · exact one_head _ u h
  · exact one_head _ u h
theorem one_act (a : ActD) : ∀ u ∈ encAct a, u.oneCell' = true := by simp [encAct, wv, Value.oneCell']
theorem one_rule (r : RuleD) (s : Sl) : ∀ u ∈ encRule r s, u.oneCell' = true := by
  intro u hu
  rcases List.mem_append.1 hu with h | h
  · exact one_cube _ u h
  · simp at h; rcases h with rfl | rfl | rfl | rfl | rfl | rfl | rfl | rfl <;> rfl
theorem one_mod (r : ModD) (s : Sl) : ∀ u ∈ encMod r s, u.oneCell' = true := by
  intro u hu
  rcases List.mem_cons.1 hu with rfl | hu
  · rfl
  · rcases List.mem_append.1 hu with h | h
    · exact one_cube _ u h
    · simp at h; rcases h with rfl | rfl | rfl | rfl | rfl | rfl <;> rfl
theorem one_msg (x : MsgD) (s t : Sl) : ∀ u ∈ encMsg x s t, u.oneCell' = true := by
  intro u hu
  simp only [encMsg, List.mem_append] at hu
  rcases hu with (((h | h) | h) | h) | h
  · simp at h; rcases h with rfl | rfl | rfl <;> rfl
  · exact one_mod _ _ u h
  · simp at h; subst h; rfl
  · exact one_head _ u h
  · simp at h; subst h; rfl
/-- Where the first one is, or -1. -/
def idxF {α : Type} (p : α → Bool) (l : List α) : Int := match l.findIdx? p with
  | some k => (k : Int)
  | none => -1
theorem idxF_at {α : Type} {p : α → Bool} {l : List α} {i : Nat} {x : α} (h : (l.take i).any p = false) (hx : l[i]? = some x) (hp : p x = true) : idxF p l = (i : Int) := by
  have hlt : i < l.length := (List.getElem?_eq_some_iff.1 hx).1
  have hxe : l[i] = x := (List.getElem?_eq_some_iff.1 hx).2
  have : l.findIdx? p = some i := by
    rw [List.findIdx?_eq_some_iff_getElem]
    refine ⟨hlt, by rw [hxe]; exact hp, fun j hj => ?_⟩
    simp only [List.any_eq_false] at h
    have := h l[j] (by rw [List.mem_take_iff_getElem]; exact ⟨j, by omega, rfl⟩)
    simpa using this
  simp [idxF, this]
theorem idxF_no {α : Type} {p : α → Bool} {l : List α} (h : l.any p = false) : idxF p l = -1 := by
  have : l.findIdx? p = none := by
    rw [List.findIdx?_eq_none_iff]
    simpa using h
  simp [idxF, this]
theorem idxF_nonneg {α : Type} (p : α → Bool) (l : List α) : decide (idxF p l ≥ 0) = l.any p := by
  cases h : l.any p with
  | false => rw [idxF_no h]; rfl
  | true =>
    unfold idxF
    cases hf : l.findIdx? p with
    | none => rw [List.findIdx?_eq_none_iff] at hf; simp at h; obtain ⟨x, hx, hp⟩ := h; simp [hf x hx] at hp
    | some k => simp
theorem any_take_succ {α : Type} {p : α → Bool} {l : List α} {i : Nat} {x : α} (hx : l[i]? = some x) : (l.take (i + 1)).any p = ((l.take i).any p || p x) := by
  rw [List.take_add_one, hx]; simp
def Head.set (h : Head) (k : Nat) (x : W) : Head := fun i => if i = Fin.ofNat 12 k then x else h i
theorem cput_head (h : Head) (k : Nat) (x : W) (hk : k < 12) : cput (encHead h) (0 + k * 1) [wv x] = some (encHead (h.set k x)) := by
  match k, hk with
  | 0, _ | 1, _ | 2, _ | 3, _ | 4, _ | 5, _ | 6, _ | 7, _ | 8, _ | 9, _ | 10, _ | 11, _ => rfl
def zHead : Head := fun _ => 0
def zCube : Cube := ⟨zHead, zHead⟩
def zMod : ModD := ⟨0, zCube, 0, [], 0, 0, 0, false⟩
def zSl : Sl := ⟨none, 0, 0⟩
def cmpW (a b : W) : Int := if a < b then -1 else if b < a then 1 else 0
def cmpL : List W → List W → Int
  | [], [] => 0
  | [], _ :: _ => -1
  | _ :: _, [] => 1
  | a :: aas, b :: bs => if cmpW a b ≠ 0 then cmpW a b else cmpL aas bs
def headL (h : Head) : List W := [h 0, h 1, h 2, h 3, h 4, h 5, h 6, h 7, h 8, h 9, h 10, h 11]
def headCmp (a b : Head) : Int := cmpL (headL a) (headL b)
def orL (l : List Int) : Int := (l.find? (fun x => x != 0)).getD 0
def cubeCmp (a b : Cube) : Int := orL [headCmp a.care b.care, headCmp a.value b.value]
def ruleCmp (a b : RuleD) : Int := if a.prio ≠ b.prio then (if a.prio > b.prio then -1 else 1) else cubeCmp a.m b.m
def ruleBefore (a b : RuleD) : Bool := decide (ruleCmp a b < 0)
def words1 (l : List W) : List (List Value) := l.map fun x => [wv x]
def ints1 (l : List Int) : List (List Value) := l.map fun x => [i64 x]
theorem flatten_words1 (l : List W) : (words1 l).flatten = l.map wv := by simp [words1, List.flatten_eq_flatMap, List.flatMap_map]; induction l <;> simp_all
theorem drop_cons {α : Type} {l : List α} {i : Nat} {x : α} (h : l[i]? = some x) : l.drop i = x :: l.drop (i + 1) := by
  have hlt := (List.getElem?_eq_some_iff.1 h).1
  rw [List.drop_eq_getElem_cons hlt, (List.getElem?_eq_some_iff.1 h).2]
/-- head.Set: the header, the error. -/
def setF (h : Head) (n : Int) (v : W) : Head × Int := if !there n then (zHead, 1) else if !fits n v then (zHead, 13) else (h.set n.toNat v, 0)
def actSound (a : ActD) : Bool :=
  if a.kind = 1 then decide (a.port ≥ 1) && decide (a.port ≤ 16) && (a.field == 0) && (a.val == 0)
  else if a.kind = 2 then ((setF zHead a.field a.val).2 == 0) && (a.port == 0)
  else decide (a = ⟨3, 0, 0, 0⟩)
def actsSound (l : List ActD) : Bool := decide ((l.length : Int) ≤ 8) && !(l.any fun a => !actSound a)
def span (n m : Int) : Bool := decide (n ≥ 0) && decide (n ≤ m)
def modPlain (m : ModD) : Bool := (m.idle == 0) && (m.hard == 0) && !m.check
def modSound (m : ModD) : Bool :=
  if !cubeSound m.m || !actsSound m.acts || !span m.prio 65535 || !span m.owner 255 then false
  else if m.kind = 1 then span m.idle 1048576 && span m.hard 1048576
  else if m.kind = 2 then modPlain m && (m.prio == 0)
  else if m.kind = 3 then modPlain m && (m.prio == 0) && ((m.acts.length : Int) == 0)
  else if m.kind = 4 then modPlain m
  else if m.kind = 5 then modPlain m && ((m.acts.length : Int) == 0)
  else false
def ruleSound (r : RuleD) : Bool := cubeSound r.m && actsSound r.acts && span r.prio 65535 && span r.idle 1048576 && span r.hard 1048576 && span r.owner 255 && decide (min r.hits (min r.quiet r.age) ≥ 0)
def okAt (l : List RuleD) (i : Nat) : Bool := match l[i]? with
  | some r => ruleSound r && (decide (i = 0) || match l[i - 1]? with
    | some q => ruleBefore q r
    | none => false)
  | none => false
def ruleTable (l : List RuleD) : Bool := (List.range l.length).all (okAt l)
def msgEmpty (x : MsgD) : Bool := (x.e == 0) && decide (x.mod = zMod) && (x.port == 0) && decide (x.head = zHead) && ((x.rules.length : Int) == 0)
def msgBody (x : MsgD) : Bool :=
  if x.kind = 1 then msgEmpty { x with mod := zMod } && modSound x.mod
  else if x.kind = 6 then msgEmpty { x with e := 0 } && decide (x.e ≥ 1) && decide (x.e ≤ 17)
  else if x.kind = 8 then msgEmpty { x with port := 0, head := zHead } && decide (x.port ≥ 1) && decide (x.port ≤ 16) && headSound x.head
  else if x.kind = 9 ∨ x.kind = 10 then msgEmpty { x with rules := [] } && ruleTable x.rules && (decide (x.kind = 10) || ((x.rules.length : Int) == 1))
  else msgEmpty x && decide (x.kind ≥ 1) && decide (x.kind ≤ 10)
def msgSound (x : MsgD) : Bool := decide (x.txn ≥ 0) && decide (x.txn ≤ 4294967295) && msgBody x
/-- A message that lies in memory that stays. -/
structure MsgOk (m : Snap) (x : MsgD) (sm sr : Sl) (lr : List (RuleD × Sl)) : Prop where
  mod : FzA m sm x.mod.acts
  modok : sm.ok
  rules : FzR m sr lr
  eq : x.rules = lr.map (·.1)
theorem MsgOk.mono {m m' : Snap} {x : MsgD} {sm sr : Sl} {lr : List (RuleD × Sl)} (h : MsgOk m x sm sr lr) (hm : m.le m') : MsgOk m' x sm sr lr := ⟨h.mod.mono hm, h.modok, h.rules.mono hm, h.eq⟩
theorem MsgOk.len {m : Snap} {x : MsgD} {sm sr : Sl} {lr : List (RuleD × Sl)} (h : MsgOk m x sm sr lr) : sr.n = x.rules.length := by rw [h.rules.len, h.eq]; simp
theorem fzA_nil (m : Snap) : FzA m zSl [] := ⟨rfl, fun c h => (by cases h), Nat.le_refl _, Nat.zero_le _, fun k c h => (by simp at h)⟩
theorem fzR_nil (m : Snap) : FzR m zSl [] := ⟨⟨rfl, fun c h => (by cases h), Nat.le_refl _, Nat.zero_le _, fun k c h => (by simp at h)⟩, fun p h => (by cases h)⟩
end Go.Aw
namespace Go.Aw
open Go
def hfront (H : Hp) (i : Nat) : Hp := match hget H i with
  | some it => it :: hdel H i
  | none => H
theorem St.hfront {m : Snap} {H : Hp} {w : World} (i : Nat) (h : St m H w) : St m (hfront H i) w := by
  unfold Go.Aw.hfront
  split
  · rename_i hi; exact h.front hi
  · exact h
def hfronts (H : Hp) : List Nat → Hp
  | [] => H
  | i :: is => hfronts (hfront H i) is
theorem St.hfronts {m : Snap} {w : World} : ∀ {H : Hp} (is : List Nat), St m H w → St m (hfronts H is) w
  | _, [], h => h
  | _, i :: is, h => St.hfronts is (h.hfront i)
section
variable {P : Program} {n : Nat} {L : Slots} {m : Snap} {H : Hp}
theorem e_retf {rs : List ResultVar} {m0 : Snap} {R : Value → Snap → Hp → Prop} {v : Value} (is : List Nat) (k : Nat) (hm : m0.le m) (hv : Res P rs L m H v) (hR : R v m (hdrop (hfronts H is) k)) :
    endQ P rs m0 R .ret L m H := ⟨hm, v, hv, fun _ hs => ⟨m, _, Snap.le.refl m, (hs.hfronts is).hdrop k, hR⟩⟩
theorem e_normf {rs : List ResultVar} {m0 : Snap} {R : Value → Snap → Hp → Prop} {v : Value} (is : List Nat) (k : Nat) (hm : m0.le m) (hv : Res P rs L m H v) (hR : R v m (hdrop (hfronts H is) k)) :
    endQ P rs m0 R .normal L m H := ⟨hm, v, hv, fun _ hs => ⟨m, _, Snap.le.refl m, (hs.hfronts is).hdrop k, hR⟩⟩
theorem wrap_i64_small {n : Int} (h1 : -9223372036854775808 ≤ n) (h2 : n < 9223372036854775808) : IntKind.i64.wrap n = n := by
  simp only [IntKind.wrap, IntKind.bits, IntKind.signed]
  simp
  omega
variable {ops : Array Oper} {d : Option Tmp} {ty : TypeId} {ps : String} {af : Array Edge} {gd : Option (Nat × Bool)}
theorem y_dec' {t t' : TypeId} {x : Operand} {a : Nat} (hx : opv L x = some (.int .i64 (a : Int))) (hb : a ≤ 9223372036854775807) :
    Yl P n L m H ⟨d, .binOp .sub t x (.const (.int .i64 1)) t', ty, ps, af, gd⟩ (.int .i64 ((a : Int) - 1)) :=
  y_iop hx rfl (by
    show some (Value.int .i64 (IntKind.i64.wrap ((a : Int) - 1))) = _
    rw [wrap_i64_small (by omega) (by omega)])
theorem y_decj {t t' : TypeId} {x : Operand} {j : Nat} (hx : opv L x = some (.int .i64 (((j + 1 : Nat) : Int) - 1))) (hb : j ≤ 1152921504606846976) :
    Yl P n L m H ⟨d, .binOp .sub t x (.const (.int .i64 1)) t', ty, ps, af, gd⟩ (.int .i64 ((j : Int) - 1)) :=
  y_iop hx rfl (by
    show some (Value.int .i64 (IntKind.i64.wrap (((j + 1 : Nat) : Int) - 1 - 1))) = _
    rw [wrap_i64_small (by omega) (by omega)]
    congr 2; omega)
theorem y_mul8 {t t' : TypeId} {x : Operand} {j : Nat} (hx : opv L x = some (.int .i64 (((j + 1 : Nat) : Int) - 1))) (hb : j ≤ 1152921504606846) :
    Yl P n L m H ⟨d, .binOp .mul t (.const (.int .i64 8)) x t', ty, ps, af, gd⟩ (.int .i64 ((8 * j : Nat) : Int)) :=
  y_iop rfl hx (by
    show some (Value.int .i64 (IntKind.i64.wrap (8 * (((j + 1 : Nat) : Int) - 1)))) = _
    rw [wrap_i64_small (by omega) (by omega)]
    congr 2; omega)
end
end Go.Aw
namespace Go.Aw
open Go
def bytes1 (l : List UInt8) : List (List Value) := l.map fun c => [bv c]
abbrev FzB (m : Snap) (s : Sl) (l : List UInt8) : Prop := Fz m s.a s.n s.cap 1 (bytes1 l)
theorem Fz.lenB {m : Snap} {s : Sl} {l : List UInt8} (h : FzB m s l) : s.n = l.length := by have := h.len; simpa [bytes1] using this.symm
theorem bytes1_get {l : List UInt8} {k : Nat} {x : UInt8} (h : l[k]? = some x) : (bytes1 l)[k]? = some [bv x] := by simp [bytes1, h]
theorem bytes1_take {l : List UInt8} {i n : Nat} {x : UInt8} (h : l[i]? = some x) (hn : i < n) : (((bytes1 l).drop 0).take n)[i]? = some [bv x] := by
  rw [List.getElem?_take, if_pos hn, List.drop_zero]; exact bytes1_get h
def Sl.cut (s : Sl) (lo hi w : Nat) : Sl := ⟨sadd s.a lo w s.cap, hi - lo, s.cap - lo⟩
theorem FzB.cut {m : Snap} {s : Sl} {l : List UInt8} (h : FzB m s l) {lo hi : Nat} (h1 : lo ≤ hi) (h2 : hi ≤ s.n) : FzB m (s.cut lo hi 1) ((l.drop lo).take (hi - lo)) := by
  have e : bytes1 ((l.drop lo).take (hi - lo)) = ((bytes1 l).drop lo).take (hi - lo) := by simp [bytes1, List.map_take, List.map_drop]
  show Fz m _ _ _ 1 (bytes1 _)
  rw [e]
  exact h.slice h1 h2
/-- A reader: its slice, the bytes of it, whether it has ended. -/
structure Rs where
  s : Sl
  l : List UInt8
  e : Bool
def Rs.ok (q : Rs) (m : Snap) : Prop := FzB m q.s q.l
theorem Rs.ok.mono {q : Rs} {m m' : Snap} (h : q.ok m) (hm : m.le m') : q.ok m' := Fz.mono h hm
abbrev rdItem (r : Nat) (q : Rs) : Item := .blk r (.cells [q.s.v, .bool q.e].toArray 98)
def rnum (l : List UInt8) : W := l.foldl (fun n c => n <<< 8 ||| BitVec.ofNat 64 c.toNat) 0
theorem rnum_take {l : List UInt8} {i : Nat} {x : UInt8} (h : l[i]? = some x) : rnum (l.take (i + 1)) = rnum (l.take i) <<< 8 ||| BitVec.ofNat 64 x.toNat := by
  rw [List.take_add_one, h]; simp [rnum]
def rget (k : Nat) (q : Rs) : W × Rs := if q.e || decide (q.l.length < k) then (0, { q with e := true }) else (rnum (q.l.take k), ⟨q.s.cut k q.s.n 1, q.l.drop k, q.e⟩)
theorem rget_no {k : Nat} {q : Rs} (h : (q.e || decide (q.l.length < k)) = true) : rget k q = (0, { q with e := true }) := by unfold rget; rw [if_pos h]
theorem rget_yes {k : Nat} {q : Rs} (h : (q.e || decide (q.l.length < k)) = false) : rget k q = (rnum (q.l.take k), ⟨q.s.cut k q.s.n 1, q.l.drop k, q.e⟩) := by unfold rget; rw [if_neg (by simp [h])]
theorem rget_ok {k : Nat} {q : Rs} {m : Snap} (h : q.ok m) : (rget k q).2.ok m := by
  unfold rget
  split
  · exact h
  · rename_i h0
    have hl := Fz.lenB (s := q.s) (l := q.l) h
    have := FzB.cut (s := q.s) (l := q.l) h (lo := k) (hi := q.s.n) (by simp at h0; omega) (Nat.le_refl _)
    simp only [Rs.ok]
    rwa [List.take_of_length_le (by simp; omega)] at this
def rint (k : Nat) (q : Rs) : Int × Rs := ((rget k q).1.toInt, (rget k q).2)
theorem rint_ok {k : Nat} {q : Rs} {m : Snap} (h : q.ok m) : (rint k q).2.ok m := rget_ok h
def rheadN : Nat → Rs → Head × Rs
  | 0, q => (zHead, q)
  | i + 1, q => ((rheadN i q).1.set i (rget 8 (rheadN i q).2).1, (rget 8 (rheadN i q).2).2)
theorem rheadN_ok {q : Rs} {m : Snap} (h : q.ok m) : ∀ i, (rheadN i q).2.ok m
  | 0 => h
  | i + 1 => rget_ok (rheadN_ok h i)
def rhead (q : Rs) : Head × Rs := rheadN 12 q
theorem rhead_ok {q : Rs} {m : Snap} (h : q.ok m) : (rhead q).2.ok m := rheadN_ok h 12
def rcube (q : Rs) : Cube × Rs := (⟨(rhead q).1, (rhead (rhead q).2).1⟩, (rhead (rhead q).2).2)
theorem rcube_ok {q : Rs} {m : Snap} (h : q.ok m) : (rcube q).2.ok m := rhead_ok (rhead_ok h)
def ract (q : Rs) : ActD × Rs :=
  let a := rint 1 q; let b := rint 1 a.2; let c := rint 1 b.2; let d := rget 8 c.2
  (⟨a.1, b.1, c.1, d.1⟩, d.2)
theorem ract_ok {q : Rs} {m : Snap} (h : q.ok m) : (ract q).2.ok m := rget_ok (rget_ok (rget_ok (rget_ok h)))
def ractsN : Nat → Rs → List ActD × Rs
  | 0, q => ([], q)
  | n + 1, q => if q.e then ([], q) else ((ract q).1 :: (ractsN n (ract q).2).1, (ractsN n (ract q).2).2)
def racts (q : Rs) : List ActD × Rs := ractsN (rint 1 q).1.toNat (rint 1 q).2
theorem toNat_shl8_or {a : W} {c : UInt8} {k : Nat} (ha : a.toNat < 256 ^ k) (hk : k ≤ 7) : (a <<< 8 ||| BitVec.ofNat 64 c.toNat).toNat = a.toNat * 256 + c.toNat := by
  have hc := c.toNat_lt
  have hp : (256 : Nat) ^ k ≤ 256 ^ 7 := Nat.pow_le_pow_right (by decide) hk
  have h1 : a.toNat <<< 8 < 2 ^ 64 := by rw [Nat.shiftLeft_eq]; simp at hp ⊢; omega
  rw [BitVec.toNat_or, BitVec.toNat_shiftLeft, BitVec.toNat_ofNat, Nat.mod_eq_of_lt h1, Nat.mod_eq_of_lt (by omega), ← Nat.shiftLeft_add_eq_or_of_lt (by simpa using hc), Nat.shiftLeft_eq]
theorem rnum_lt' : ∀ (l : List UInt8) (a : W) (j k : Nat), a.toNat < 256 ^ j → j + l.length ≤ k → k ≤ 7 → (l.foldl (fun (n : W) (c : UInt8) => n <<< 8 ||| BitVec.ofNat 64 c.toNat) a).toNat < 256 ^ k
  | [], a, j, k, h, hk, h7 => Nat.lt_of_lt_of_le h (Nat.pow_le_pow_right (by decide) (by simpa using hk))
  | c :: l, a, j, k, h, hk, h7 => by
    simp at hk
    have hc := c.toNat_lt
    exact rnum_lt' l _ (j + 1) k (by rw [toNat_shl8_or h (by omega), Nat.pow_succ]; omega) (by omega) h7
theorem rnum_lt {l : List UInt8} {k : Nat} (h : l.length ≤ k) (hk : k ≤ 7) : (rnum l).toNat < 256 ^ k := rnum_lt' l 0 0 k (by decide) (by omega) hk
theorem rint_nat {k : Nat} (hk : k ≤ 7) (q : Rs) : ∃ n : Nat, (rint k q).1 = n ∧ n < 256 ^ k := by
  have hp : (256 : Nat) ^ k ≤ 256 ^ 7 := Nat.pow_le_pow_right (by decide) hk
  have h : (rget k q).1.toNat < 256 ^ k := by
    unfold rget
    split
    · simpa using Nat.pow_pos (by decide)
    · exact rnum_lt (by simp; omega) hk
  refine ⟨(rget k q).1.toNat, ?_, h⟩
  simp only [rint, BitVec.toInt]
  rw [if_pos]
  simp at hp ⊢; omega
theorem ractsN_end {n : Nat} {q : Rs} (h : q.e = true) : ractsN n q = ([], q) := by cases n <;> simp [ractsN, h]
theorem ractsN_succ {n : Nat} {q : Rs} (h : q.e = false) : ractsN (n + 1) q = ((ract q).1 :: (ractsN n (ract q).2).1, (ractsN n (ract q).2).2) := by simp [ractsN, h]
theorem ractsN_ok {m : Snap} : ∀ {n : Nat} {q : Rs}, q.ok m → (ractsN n q).2.ok m
  | 0, q, h => h
  | n + 1, q, h => by
    unfold ractsN; split
    · exact h
    · exact ractsN_ok (ract_ok h)
theorem racts_ok {q : Rs} {m : Snap} (h : q.ok m) : (racts q).2.ok m := ractsN_ok (rint_ok h)
def rmod0 (q : Rs) : ModD × Rs :=
  let k := rint 1 q; let c := rcube k.2; let p := rint 2 c.2; let i := rint 4 p.2; let h := rint 4 i.2; let o := rint 1 h.2
  (⟨k.1, c.1, p.1, [], i.1, h.1, o.1, false⟩, o.2)
theorem rmod0_ok {q : Rs} {m : Snap} (h : q.ok m) : (rmod0 q).2.ok m := rint_ok (rint_ok (rint_ok (rint_ok (rcube_ok (rint_ok h)))))
def rmod (q : Rs) : (ModD × Bool) × Rs :=
  let c := rint 1 (rmod0 q).2
  (({ (rmod0 q).1 with check := c.1 == 1, acts := (racts c.2).1 }, decide (c.1 ≤ 1)), (racts c.2).2)
theorem rmod_ok {q : Rs} {m : Snap} (h : q.ok m) : (rmod q).2.ok m := racts_ok (rint_ok (rmod0_ok h))
def rrule0 (q : Rs) : RuleD × Rs :=
  let c := rcube q; let p := rint 2 c.2; let i := rint 4 p.2; let h := rint 4 i.2; let o := rint 1 h.2; let x := rint 8 o.2; let y := rint 8 x.2; let z := rint 8 y.2
  (⟨c.1, p.1, [], i.1, h.1, o.1, x.1, y.1, z.1⟩, z.2)
def rrule (q : Rs) : RuleD × Rs := ({ (rrule0 q).1 with acts := (racts (rrule0 q).2).1 }, (racts (rrule0 q).2).2)
set_option maxRecDepth 100000 in
theorem rrule0_ok {q : Rs} {m : Snap} (h : q.ok m) : (rrule0 q).2.ok m := rint_ok (rint_ok (rint_ok (rint_ok (rint_ok (rint_ok (rint_ok (rcube_ok h)))))))
set_option maxRecDepth 100000 in
theorem rrule_ok {q : Rs} {m : Snap} (h : q.ok m) : (rrule q).2.ok m := racts_ok (rrule0_ok h)
def rrulesN : Nat → Rs → List RuleD × Rs
  | 0, q => ([], q)
  | n + 1, q => if q.e then ([], q) else ((rrule q).1 :: (rrulesN n (rrule q).2).1, (rrulesN n (rrule q).2).2)
def rrules (q : Rs) : List RuleD × Rs := rrulesN (rint 2 q).1.toNat (rint 2 q).2
theorem rrulesN_end {n : Nat} {q : Rs} (h : q.e = true) : rrulesN n q = ([], q) := by cases n <;> simp [rrulesN, h]
theorem rrulesN_succ {n : Nat} {q : Rs} (h : q.e = false) : rrulesN (n + 1) q = ((rrule q).1 :: (rrulesN n (rrule q).2).1, (rrulesN n (rrule q).2).2) := by simp [rrulesN, h]
theorem rrulesN_ok {m : Snap} : ∀ {n : Nat} {q : Rs}, q.ok m → (rrulesN n q).2.ok m
  | 0, q, h => h
  | n + 1, q, h => by
    unfold rrulesN; split
    · exact h
    · exact rrulesN_ok (rrule_ok h)
theorem rrules_ok {q : Rs} {m : Snap} (h : q.ok m) : (rrules q).2.ok m := rrulesN_ok (rint_ok h)
def rmsg0 (q : Rs) : MsgD × Rs := let k := rint 1 q; let t := rint 4 k.2; (⟨k.1, t.1, 0, zMod, 0, zHead, []⟩, t.2)
theorem rmsg0_ok {q : Rs} {m : Snap} (h : q.ok m) : (rmsg0 q).2.ok m := rint_ok (rint_ok h)
def rmsg (q : Rs) : (MsgD × Bool) × Rs :=
  let x := (rmsg0 q).1; let q := (rmsg0 q).2
  if x.kind = 1 then (({ x with mod := (rmod q).1.1 }, (rmod q).1.2), (rmod q).2)
  else if x.kind = 6 then (({ x with e := (rint 1 q).1 }, true), (rint 1 q).2)
  else if x.kind = 8 then (({ x with port := (rint 1 q).1, head := (rhead (rint 1 q).2).1 }, true), (rhead (rint 1 q).2).2)
  else if x.kind = 9 ∨ x.kind = 10 then (({ x with rules := (rrules q).1 }, true), (rrules q).2)
  else ((x, true), q)
def zMsg : MsgD := ⟨0, 0, 0, zMod, 0, zHead, []⟩
def decode (s : Sl) (l : List UInt8) : MsgD × Int :=
  let x := rmsg ⟨s, l, false⟩
  if x.2.e then (zMsg, 8) else if !x.1.2 || decide (0 < x.2.l.length) || !msgSound x.1.1 then (zMsg, 2) else (x.1.1, 0)
def AllA (m : Snap) (l : List (RuleD × Sl)) : Prop := ∀ p ∈ l, FzA m p.2 p.1.acts ∧ p.2.ok
theorem AllA.mono {m m' : Snap} {l : List (RuleD × Sl)} (h : AllA m l) (hm : m.le m') : AllA m' l := fun p hp => ⟨(h p hp).1.mono hm, (h p hp).2⟩
theorem AllA.snoc {m : Snap} {l : List (RuleD × Sl)} {x : RuleD} {s : Sl} (h : AllA m l) (hx : FzA m s x.acts) (hs : s.ok) : AllA m (l ++ [(x, s)]) := fun p hp => by
  rcases List.mem_append.1 hp with hp | hp
  · exact h p hp
  · simp at hp; subst hp; exact ⟨hx, hs⟩
theorem rmsg_1 {q : Rs} (h : ((rmsg0 q).1.kind == 1) = true) : rmsg q = (({ (rmsg0 q).1 with mod := (rmod (rmsg0 q).2).1.1 }, (rmod (rmsg0 q).2).1.2), (rmod (rmsg0 q).2).2) := by
  simp only [beq_iff_eq] at h; unfold rmsg; simp only [h, if_true]
theorem rmsg_6 {q : Rs} (h1 : ((rmsg0 q).1.kind == 1) = false) (h : ((rmsg0 q).1.kind == 6) = true) : rmsg q = (({ (rmsg0 q).1 with e := (rint 1 (rmsg0 q).2).1 }, true), (rint 1 (rmsg0 q).2).2) := by
  simp only [beq_iff_eq] at h; unfold rmsg; simp [h]
theorem rmsg_8 {q : Rs} (h1 : ((rmsg0 q).1.kind == 1) = false) (h6 : ((rmsg0 q).1.kind == 6) = false) (h : ((rmsg0 q).1.kind == 8) = true) : rmsg q = (({ (rmsg0 q).1 with port := (rint 1 (rmsg0 q).2).1, head := (rhead (rint 1 (rmsg0 q).2).2).1 }, true), (rhead (rint 1 (rmsg0 q).2).2).2) := by
  simp only [beq_iff_eq] at h; unfold rmsg; simp [h]
theorem rmsg_9 {q : Rs} (h1 : ((rmsg0 q).1.kind == 1) = false) (h6 : ((rmsg0 q).1.kind == 6) = false) (h8 : ((rmsg0 q).1.kind == 8) = false) (h : ((rmsg0 q).1.kind == 9) = true) : rmsg q = (({ (rmsg0 q).1 with rules := (rrules (rmsg0 q).2).1 }, true), (rrules (rmsg0 q).2).2) := by
  simp only [beq_iff_eq] at h; unfold rmsg; simp [h]
theorem rmsg_10 {q : Rs} (h1 : ((rmsg0 q).1.kind == 1) = false) (h6 : ((rmsg0 q).1.kind == 6) = false) (h8 : ((rmsg0 q).1.kind == 8) = false) (h9 : ((rmsg0 q).1.kind == 9) = false) (h : ((rmsg0 q).1.kind == 10) = true) : rmsg q = (({ (rmsg0 q).1 with rules := (rrules (rmsg0 q).2).1 }, true), (rrules (rmsg0 q).2).2) := by
  simp only [beq_iff_eq] at h; unfold rmsg; simp [h]
theorem rmsg_o {q : Rs} (h1 : ((rmsg0 q).1.kind == 1) = false) (h6 : ((rmsg0 q).1.kind == 6) = false) (h8 : ((rmsg0 q).1.kind == 8) = false) (h9 : ((rmsg0 q).1.kind == 9) = false) (h : ((rmsg0 q).1.kind == 10) = false) : rmsg q = (((rmsg0 q).1, true), (rmsg0 q).2) := by
  simp only [beq_eq_false_iff_ne] at h1 h6 h8 h9 h; unfold rmsg; simp [h1, h6, h8, h9, h]
theorem decode_short {s : Sl} {l : List UInt8} {p : (MsgD × Bool) × Rs} (hx : rmsg ⟨s, l, false⟩ = p) (h : p.2.e = true) : decode s l = (zMsg, 8) := by unfold decode; simp [hx, h]
theorem decode_bad {s : Sl} {l : List UInt8} {p : (MsgD × Bool) × Rs} (hx : rmsg ⟨s, l, false⟩ = p) (h : p.2.e = false) (hb : (!p.1.2 || decide (0 < p.2.l.length) || !msgSound p.1.1) = true) : decode s l = (zMsg, 2) := by unfold decode; simp only [hx, h, hb]; rfl
theorem decode_ok {s : Sl} {l : List UInt8} {p : (MsgD × Bool) × Rs} (hx : rmsg ⟨s, l, false⟩ = p) (h : p.2.e = false) (hb : (!p.1.2 || decide (0 < p.2.l.length) || !msgSound p.1.1) = false) : decode s l = (p.1.1, 0) := by unfold decode; simp only [hx, h, hb]; rfl
theorem zMsg_ok (m : Snap) : MsgOk m zMsg zSl zSl [] := ⟨fzA_nil _, fun _ => rfl, fzR_nil _, rfl⟩
end Go.Aw
namespace Go.Aw
open Go
abbrev lim : Nat := 140737488355328
abbrev wItem (r : Nat) (s : Sl) : Item := .blk r (.cells [s.v].toArray 111)
abbrev vItem (s : Sl) (l : List UInt8) : Item := .vec s.a s.n s.cap 5 1 (bytes1 l)
def wput (x : W) : Nat → List UInt8
  | 0 => []
  | k + 1 => UInt8.ofNat (x >>> (8 * k)).toNat :: wput x k
@[simp] theorem wput_len (x : W) : ∀ k, (wput x k).length = k
  | 0 => rfl
  | k + 1 => by simp [wput, wput_len x k]
theorem bytes1_snoc (l : List UInt8) (c : UInt8) : bytes1 (l ++ [c]) = bytes1 l ++ [[bv c]] := by simp [bytes1]
def wputs (k : Nat) : List W → List UInt8
  | [] => []
  | x :: r => wput x k ++ wputs k r
@[simp] theorem wputs_len (k : Nat) : ∀ l, (wputs k l).length = k * l.length
  | [] => rfl
  | x :: r => by simp [wputs, wputs_len k r, Nat.mul_add]; omega
theorem wputs_append (k : Nat) : ∀ a b, wputs k (a ++ b) = wputs k a ++ wputs k b
  | [], b => rfl
  | x :: r, b => by simp [wputs, wputs_append k r b]
abbrev iw (n : Int) : W := BitVec.ofInt 64 n
def whead (h : Head) : List UInt8 := wputs 8 (headL h)
@[simp] theorem whead_len (h : Head) : (whead h).length = 96 := by simp [whead, headL]
def wmatch (c : Cube) (prio idle hard owner : Int) : List UInt8 := whead c.value ++ whead c.care ++ wput (iw prio) 2 ++ wput (iw idle) 4 ++ wput (iw hard) 4 ++ wput (iw owner) 1
@[simp] theorem wmatch_len (c : Cube) (prio idle hard owner : Int) : (wmatch c prio idle hard owner).length = 203 := by simp [wmatch]
def wact (a : ActD) : List UInt8 := wput (iw a.kind) 1 ++ wput (iw a.port) 1 ++ wput (iw a.field) 1 ++ wput a.val 8
@[simp] theorem wact_len (a : ActD) : (wact a).length = 11 := by simp [wact]
def wactsL : List ActD → List UInt8
  | [] => []
  | a :: r => wact a ++ wactsL r
@[simp] theorem wactsL_len : ∀ l, (wactsL l).length = 11 * l.length
  | [] => rfl
  | a :: r => by simp [wactsL, wactsL_len r]; omega
theorem wactsL_append : ∀ a b, wactsL (a ++ b) = wactsL a ++ wactsL b
  | [], b => rfl
  | x :: r, b => by simp [wactsL, wactsL_append r b]
def wacts (l : List ActD) : List UInt8 := wput (iw (l.length : Nat)) 1 ++ wactsL l
@[simp] theorem wacts_len (l : List ActD) : (wacts l).length = 1 + 11 * l.length := by simp [wacts]
def wmod (m : ModD) : List UInt8 := wput (iw m.kind) 1 ++ wmatch m.m m.prio m.idle m.hard m.owner ++ wput (if m.check then 1 else 0) 1 ++ wacts m.acts
@[simp] theorem wmod_len (m : ModD) : (wmod m).length = 206 + 11 * m.acts.length := by simp [wmod]; omega
def wrule (r : RuleD) : List UInt8 := wmatch r.m r.prio r.idle r.hard r.owner ++ wputs 8 [iw r.hits, iw r.quiet, iw r.age] ++ wacts r.acts
@[simp] theorem wrule_len (r : RuleD) : (wrule r).length = 228 + 11 * r.acts.length := by simp [wrule]; omega
def wrulesL : List RuleD → List UInt8
  | [] => []
  | a :: r => wrule a ++ wrulesL r
theorem wrulesL_append : ∀ a b, wrulesL (a ++ b) = wrulesL a ++ wrulesL b
  | [], b => rfl
  | x :: r, b => by simp [wrulesL, wrulesL_append r b]
def wrules (l : List RuleD) : List UInt8 := wput (iw (l.length : Nat)) 2 ++ wrulesL l
theorem wrulesL_len {k : Nat} : ∀ {l : List RuleD}, (∀ r ∈ l, r.acts.length ≤ k) → (wrulesL l).length ≤ l.length * (228 + 11 * k)
  | [], _ => Nat.zero_le _
  | x :: r, h => by
    have h1 := h x (by simp)
    have h2 := wrulesL_len (l := r) (fun y hy => h y (by simp [hy]))
    simp only [wrulesL, List.length_append, wrule_len, List.length_cons]
    rw [Nat.add_mul]
    omega
def encode (m : MsgD) : Option (List UInt8) :=
  if !msgSound m || decide ((m.rules.length : Int) > 65535) then none else some (wput (iw m.kind) 1 ++ wput (iw m.txn) 4 ++
    (if m.kind = 1 then wmod m.mod else if m.kind = 6 then wput (iw m.e) 1 else if m.kind = 8 then wput (iw m.port) 1 ++ whead m.head else if m.kind = 9 ∨ m.kind = 10 then wrules m.rules else []))
theorem whead_step (h : Head) {i : Nat} (hlt : i < 12) : wputs 8 ((headL h).take i) ++ wput (h.at i) 8 = wputs 8 ((headL h).take (i + 1)) := by
  match i, hlt with
  | 0, _ | 1, _ | 2, _ | 3, _ | 4, _ | 5, _ | 6, _ | 7, _ | 8, _ | 9, _ | 10, _ | 11, _ => simp [headL, wputs, Head.at]
theorem wacts_step {l : List ActD} {i : Nat} {a : ActD} (h : l[i]? = some a) : wactsL (l.take (i + 1)) = wactsL (l.take i) ++ (wput (iw a.kind) 1 ++ (wput (iw a.port) 1 ++ (wput (iw a.field) 1 ++ wput a.val 8))) := by
  rw [List.take_add_one, h, wactsL_append]; simp [wactsL, wact]
theorem wrules_step {l : List RuleD} {i : Nat} {a : RuleD} (h : l[i]? = some a) : wrulesL (l.take (i + 1)) = wrulesL (l.take i) ++ wrule a := by
  rw [List.take_add_one, h, wrulesL_append]; simp [wrulesL]
theorem cget_ints {l : List Int} {i : Nat} {x : Int} (h : l[i]? = some x) : cget (l.map i64) (i * 1) = some (i64 x) := by
  rw [cget_eq, Nat.mul_one]; simp [h]
theorem wputs_step {k : Nat} {l : List Int} {i : Nat} {x : Int} (h : l[i]? = some x) : wputs k ((l.take (i + 1)).map iw) = wputs k ((l.take i).map iw) ++ wput (iw x) k := by
  rw [List.take_add_one, h, List.map_append, wputs_append]; simp [wputs]
theorem wrulesL_take {k : Nat} {l : List RuleD} (i : Nat) (h : ∀ r ∈ l, r.acts.length ≤ k) : (wrulesL (l.take i)).length ≤ i * (228 + 11 * k) := by
  have := wrulesL_len (l := l.take i) (fun r hr => h r (List.mem_of_mem_take hr))
  exact Nat.le_trans this (Nat.mul_le_mul_right _ (by simp; omega))
theorem modSound_acts {x : ModD} (h : modSound x = true) : x.acts.length ≤ 8 := by
  unfold modSound at h
  split at h
  · cases h
  · rename_i h1
    simp [actsSound] at h1
    omega
theorem ruleSound_acts {x : RuleD} (h : ruleSound x = true) : x.acts.length ≤ 8 := by
  simp [ruleSound, actsSound] at h
  omega
theorem ruleTable_acts {l : List RuleD} (h : ruleTable l = true) : ∀ r ∈ l, r.acts.length ≤ 8 := by
  intro r hr
  obtain ⟨i, hi, rfl⟩ := List.mem_iff_getElem.1 hr
  unfold ruleTable at h
  rw [List.all_eq_true] at h
  have := h i (by simpa using hi)
  unfold okAt at this
  rw [List.getElem?_eq_getElem hi] at this
  simp at this
  exact ruleSound_acts this.1
theorem msgSound_mod {x : MsgD} (h : msgSound x = true) (k : (x.kind == 1) = true) : x.mod.acts.length ≤ 8 := by
  simp only [beq_iff_eq] at k
  simp [msgSound, msgBody, k] at h
  exact modSound_acts h.2.2
theorem msgSound_rules {x : MsgD} (h : msgSound x = true) (k : x.kind = 9 ∨ x.kind = 10) : ∀ r ∈ x.rules, r.acts.length ≤ 8 := by
  have h1 : ¬ x.kind = 1 := by omega
  have h6 : ¬ x.kind = 6 := by omega
  have h8 : ¬ x.kind = 8 := by omega
  simp [msgSound, msgBody, h1, h6, h8, k] at h
  exact ruleTable_acts h.2.1.2
theorem encode_9 {x : MsgD} (hs : msgSound x = true) (hr : x.rules.length ≤ 65535) (k : x.kind = 9 ∨ x.kind = 10) : encode x = some ([] ++ wput (iw x.kind) 1 ++ wput (iw x.txn) 4 ++ wrules x.rules) := by
  have h1 : ¬ x.kind = 1 := by omega
  have h6 : ¬ x.kind = 6 := by omega
  have h8 : ¬ x.kind = 8 := by omega
  unfold encode
  rw [if_neg (by simp [hs]; omega)]
  simp only [h1, h6, h8, k, if_true, if_false, List.nil_append]
end Go.Aw
namespace Go.Aw
open Go
def strB (l : List UInt8) : ByteArray := (l.map fun c => (c.toNat : Int)).foldl (fun r n => r.push (UInt8.ofNat n.toNat)) ByteArray.empty
section
variable {P : Program} {n : Nat} {L : Slots} {m : Snap} {H : Hp} {d : Option Tmp} {ty : TypeId} {ps : String} {af : Array Edge} {gd : Option (Nat × Bool)}
theorem y_conv_str {src dst e : TypeId} {x : Operand} {s : Sl} {l : List UInt8} (hx : opv L x = some s.v) (hz : FzB m s l)
    (hs : P.underlying src = some (.slice e)) (he : P.underlying e = some (.int .u8)) (hd : P.underlying dst = some .string) :
    Yl P n L m H ⟨d, .convert src dst x, ty, ps, af, gd⟩ (.string (strB l)) := fun ac hf w hst => by
  have hl := Fz.lenB hz
  have key : (convert src dst (.slice s.a s.n s.cap)).run P w = .ok (.string (strB l)) w := by
    rw [run_convert_bytes_string w src dst e s.a s.n s.cap hs he hd]
    cases ha : s.a with
    | none =>
      cases l with
      | nil => simp [Conv.bytesToString, strB]
      | cons c r =>
        obtain ⟨g, o, h, _⟩ := hz.get 0 [bv c] rfl
        rw [ha] at h; cases h
    | some a =>
      refine run_bytesToString w a s.n s.cap (l.map fun c => (c.toNat : Int)) ?_
      have := run_loadCells_list (P := P) w a (l.map bv) (fun j v hj => by
        simp only [List.getElem?_map, Option.map_eq_some_iff] at hj
        obtain ⟨c, hc, rfl⟩ := hj
        obtain ⟨g, o, h, hv⟩ := hz.get j [bv c] (bytes1_get hc)
        rw [ha] at h; cases h
        rw [addr_add]
        have := hst.cell (hv 0 (bv c) rfl)
        simpa using this)
      rw [List.length_map, ← hl] at this
      rw [this, List.map_map]
      rfl
  simp only [execOp, hf.eval hx, Sl.v, key, Sem.run_bind, Result.andThen_ok]
  rfl
theorem y_eqstr {t t' : TypeId} {x y : Operand} {a b : ByteArray} (hx : opv L x = some (.string a)) (hy : opv L y = some (.string b)) :
    Yl P n L m H ⟨d, .binOp .eql t x y t', ty, ps, af, gd⟩ (.bool (a.toList == b.toList)) := fun ac hf w _ => by
  have hg : (eqGuard .eql t x y (.string a) (.string b)).run P w = .ok () w := rfl
  have hb : (binOp .eql t (.string a) (.string b)).run P w = .ok (.bool (a.toList == b.toList)) w := rfl
  simp only [execOp, hf.eval hx, hf.eval hy, Sem.run_bind, hg, Result.andThen_ok, hb]
  rfl
end
end Go.Aw
namespace Go.Aw
open Go
def ansMsg : MsgD := ⟨2, 7, 0, zMod, 0, zHead, []⟩
set_option maxRecDepth 100000 in
theorem encode_ans : encode ansMsg = some [2, 0, 0, 0, 7] := by decide +kernel
set_option maxRecDepth 100000 in
theorem decode_ans (s : Sl) : decode s [2, 0, 0, 0, 7] = (ansMsg, 0) := by rfl
theorem ansMsg_ok (m : Snap) : MsgOk m ansMsg zSl zSl [] := ⟨fzA_nil _, fun _ => rfl, fzR_nil _, rfl⟩
theorem strA : ((strB [2, 0, 0, 0, 7]).toList == ({ data := #[2, 0, 0, 0, 7] } : ByteArray).toList) = true := by decide +kernel
end Go.Aw
namespace Go.Aw
open Go
section
variable {P : Program} {n : Nat} {L : Slots} {m : Snap} {H : Hp} {d : Option Tmp} {ty : TypeId} {ps : String} {af : Array Edge} {gd : Option (Nat × Bool)}
end
theorem shl8_or (a : W) (c : UInt8) : a <<< 8 ||| BitVec.ofNat 64 c.toNat = a * 256#64 + BitVec.ofNat 64 c.toNat := by
  have hc := c.toNat_lt
  apply BitVec.eq_of_toNat_eq
  rw [BitVec.toNat_or, BitVec.toNat_shiftLeft, BitVec.toNat_add, BitVec.toNat_mul, BitVec.toNat_ofNat, BitVec.toNat_ofNat, Nat.mod_eq_of_lt (a := c.toNat) (by omega)]
  have e : a.toNat <<< 8 % 2 ^ 64 = (a.toNat % 2 ^ 56) <<< 8 := by simp only [Nat.shiftLeft_eq]; omega
  rw [e, ← Nat.shiftLeft_add_eq_or_of_lt (by simpa using hc), Nat.shiftLeft_eq]
  omega
/-- What is left is an end of the bytes. -/
def Suf (l : List UInt8) (q : Rs) : Prop := q.l.length ≤ l.length ∧ q.l = l.drop (l.length - q.l.length)
theorem Suf.get {l : List UInt8} {q : Rs} (h : Suf l q) (i : Nat) : q.l[i]? = l[l.length - q.l.length + i]? := by
  have := h.2
  conv => lhs; rw [this]
  rw [List.getElem?_drop]
theorem Suf.start (s : Sl) (l : List UInt8) : Suf l ⟨s, l, false⟩ := ⟨Nat.le_refl _, by simp⟩
end Go.Aw
namespace Go.Aw
open Go
section
variable {P : Program} {n : Nat} {L : Slots} {m : Snap} {H : Hp} {d : Option Tmp} {ty : TypeId} {ps : String} {af : Array Edge} {gd : Option (Nat × Bool)}
theorem y_conv_in {src dst : TypeId} {x : Operand} {a : Nat} (hx : opv L x = some (.int .i64 (a : Int))) (hs : P.underlying src = some (.int .i64)) (ht : P.underlying dst = some (.int .u64)) (ha : a < 18446744073709551616) :
    Yl P n L m H ⟨d, .convert src dst x, ty, ps, af, gd⟩ (.int .u64 (a : Int)) :=
  y_conv_int hx (by rw [hs]; rfl) ht (by rw [wrap_u64_nat, Nat.mod_eq_of_lt (by simpa using ha)])
theorem y_conv_ij {src dst : TypeId} {x : Operand} {a : Nat} (hx : opv L x = some (.int .i64 (((a + 1 : Nat) : Int) - 1))) (hs : P.underlying src = some (.int .i64)) (ht : P.underlying dst = some (.int .u64)) (ha : a < 18446744073709551616) :
    Yl P n L m H ⟨d, .convert src dst x, ty, ps, af, gd⟩ (.int .u64 (a : Int)) :=
  y_conv_int hx (by rw [hs]; rfl) ht (by rw [show (((a + 1 : Nat) : Int) - 1) = (a : Int) by omega, wrap_u64_nat, Nat.mod_eq_of_lt (by simpa using ha)])
end
theorem fits_lt {x : W} {k : Nat} (hk : k ≤ 63) : decide (((x.toNat : Nat) : Int) < (((1#64) <<< k).toNat : Nat)) = ((x >>> k) == 0) := by
  have e : ((1#64) <<< k).toNat = 2 ^ k := by
    rw [BitVec.toNat_shiftLeft, Nat.shiftLeft_eq]
    simp
    exact (Nat.pow_lt_pow_right (by decide : 1 < 2) (by omega : k < 64))
  rw [e, Bool.eq_iff_iff, decide_eq_true_iff, beq_iff_eq, Int.ofNat_lt]
  constructor
  · intro h
    apply BitVec.eq_of_toNat_eq
    rw [BitVec.toNat_ushiftRight, Nat.shiftRight_eq_div_pow, Nat.div_eq_of_lt h]; rfl
  · intro h
    have := congrArg BitVec.toNat h
    rw [BitVec.toNat_ushiftRight, Nat.shiftRight_eq_div_pow] at this
    have h0 : x.toNat / 2 ^ k = 0 := this
    exact (Nat.div_eq_zero_iff_lt (Nat.pow_pos (by decide))).1 h0
theorem hsz_le (n : Int) : hsz n ≤ 48 := by
  unfold hsz
  split
  · rename_i h
    obtain ⟨k, hk, rfl⟩ : ∃ k : Nat, k < 12 ∧ n = k := by simp [there] at h; exact ⟨n.toNat, by omega, by omega⟩
    match k, hk with
    | 0, _ | 1, _ | 2, _ | 3, _ | 4, _ | 5, _ | 6, _ | 7, _ | 8, _ | 9, _ | 10, _ | 11, _ => decide
  · omega
theorem cget_size (k : Nat) (hk : k < 12) : cget (size12.map fun n => i64 ((n : Nat) : Int)) (0 + k * 1) = some (i64 ((size12.getD k 0 : Nat) : Int)) := by
  match k, hk with
  | 0, _ | 1, _ | 2, _ | 3, _ | 4, _ | 5, _ | 6, _ | 7, _ | 8, _ | 9, _ | 10, _ | 11, _ => rfl
theorem cget_head0 (h : Head) (k : Nat) (hk : k < 12) : cget (encHead h) (0 + k * 1) = some (wv (h.at k)) := by rw [Nat.zero_add]; exact cget_head h k hk
theorem headCmp_drop (a b : Head) {i : Nat} (hi : i < 12) : cmpL ((headL a).drop i) ((headL b).drop i) = if cmpW (a.at i) (b.at i) ≠ 0 then cmpW (a.at i) (b.at i) else cmpL ((headL a).drop (i + 1)) ((headL b).drop (i + 1)) := by
  match i, hi with
  | 0, _ | 1, _ | 2, _ | 3, _ | 4, _ | 5, _ | 6, _ | 7, _ | 8, _ | 9, _ | 10, _ | 11, _ => rfl
theorem all_take_succ {α : Type} {p : α → Bool} {l : List α} {i : Nat} {x : α} (hx : l[i]? = some x) : (l.take (i + 1)).all p = ((l.take i).all p && p x) := by
  rw [List.take_add_one, hx]; simp
theorem all_false_at {α : Type} {p : α → Bool} {l : List α} {i : Nat} {x : α} (hx : l[i]? = some x) (h : p x = false) : l.all p = false := by
  simp only [List.all_eq_false, Bool.not_eq_true]
  exact ⟨x, List.mem_of_getElem? hx, h⟩
theorem cmpW_lt {a b : W} (h : a < b) : cmpW a b = -1 := by simp [cmpW, h]
theorem cmpW_gt {a b : W} (h1 : b ≤ a) (h : b < a) : cmpW a b = 1 := by unfold cmpW; rw [if_neg (BitVec.not_lt.2 h1), if_pos h]
theorem cmpW_eq {a b : W} (h1 : b ≤ a) (h : a ≤ b) : cmpW a b = 0 := by unfold cmpW; rw [if_neg (BitVec.not_lt.2 h1), if_neg (BitVec.not_lt.2 h)]
abbrev FzT (m : Snap) (s : Sl) (l : List Bool) : Prop := Fz m s.a s.n s.cap 1 (l.map fun b => [.bool b])
theorem Fz.lenT {m : Snap} {s : Sl} {l : List Bool} (h : FzT m s l) : s.n = l.length := by have := h.len; simpa using this.symm
def bitsL (x : W) : Nat → List Bool
  | 0 => []
  | k + 1 => ((x >>> k) &&& 1#64 == 1#64) :: bitsL x k
@[simp] theorem bitsL_len (x : W) : ∀ k, (bitsL x k).length = k
  | 0 => rfl
  | k + 1 => by simp [bitsL, bitsL_len x k]
def tch (p q : Bool) : UInt8 := if !q then 120 else if p then 49 else 48
theorem tch_x {p q : Bool} (h : (!q) = true) : tch p q = 120 := by unfold tch; rw [if_pos h]
theorem tch_1 {p q : Bool} (h : (!q) = false) (hp : p = true) : tch p q = 49 := by unfold tch; rw [if_neg (by simp [h]), if_pos hp]
theorem tch_0 {p q : Bool} (h : (!q) = false) (hp : p = false) : tch p q = 48 := by unfold tch; rw [if_neg (by simp [h]), if_neg (by simp [hp])]
def rowT (c : Cube) (i : Nat) : List UInt8 := List.zipWith tch (bitsL (c.value.at i) (hsz (i : Int))) (bitsL (c.care.at i) (hsz (i : Int)))
@[simp] theorem rowT_len (c : Cube) (i : Nat) : (rowT c i).length = hsz (i : Int) := by simp [rowT]
def textN (c : Cube) : Nat → List UInt8
  | 0 => []
  | i + 1 => textN c i ++ rowT c i
theorem textN_len (c : Cube) : ∀ i, (textN c i).length ≤ 48 * i
  | 0 => Nat.le_refl _
  | i + 1 => by
    have h1 := textN_len c i
    have h2 := hsz_le (i : Int)
    simp only [textN, List.length_append, rowT_len]
    omega
theorem rowT_step {c : Cube} {i k : Nat} {p q : Bool} (h1 : (bitsL (c.value.at i) (hsz (i : Int)))[k]? = some p) (h2 : (bitsL (c.care.at i) (hsz (i : Int)))[k]? = some q) : (rowT c i).take (k + 1) = (rowT c i).take k ++ [tch p q] := by
  rw [List.take_add_one]
  congr 1
  simp [rowT, List.getElem?_zipWith, h1, h2]
theorem textN_step {c : Cube} {i k : Nat} (h : hsz (i : Int) ≤ k) : textN c (i + 1) = textN c i ++ (rowT c i).take k := by
  rw [List.take_of_length_le (by simpa using h)]; rfl
theorem actsSound_all (l : List ActD) : actsSound l = (l.all actSound && decide ((l.length : Int) ≤ 8)) := by
  unfold actsSound
  rw [Bool.and_comm]
  congr 1
  induction l with
  | nil => rfl
  | cons a r ih => simp only [List.any_cons, List.all_cons, Bool.not_or, Bool.not_not, ih]
end Go.Aw
namespace Go.Aw
open Go
theorem ruleTable_one {l : List (RuleD × Sl)} {x : RuleD × Sl} (h : l.length = 1) (hx : l[0]? = some x) : ruleTable (l.map (·.1)) = ruleSound x.1 := by
  match l, h with
  | [y], _ =>
    simp at hx
    subst hx
    simp [ruleTable, okAt, List.range_succ]
structure MsgS where
  x : MsgD
  sm : Sl
  sr : Sl
  lr : List (RuleD × Sl)
structure FzMs (m : Snap) (s : Sl) (l : List MsgS) : Prop where
  fz : Fz m s.a s.n s.cap 48 (l.map fun p => encMsg p.x p.sm p.sr)
  ok : ∀ p ∈ l, MsgOk m p.x p.sm p.sr p.lr
theorem FzMs.mono {m m' : Snap} {s : Sl} {l : List MsgS} (h : FzMs m s l) (hm : m.le m') : FzMs m' s l := ⟨h.fz.mono hm, fun p hp => (h.ok p hp).mono hm⟩
theorem FzMs.len {m : Snap} {s : Sl} {l : List MsgS} (h : FzMs m s l) : s.n = l.length := by have := h.fz.len; simpa using this.symm
section
variable {P : Program} {n : Nat} {L : Slots} {m : Snap} {H : Hp} {d : Option Tmp} {ty : TypeId} {ps : String} {af : Array Edge} {gd : Option (Nat × Bool)}
end
end Go.Aw
namespace Go.Aw
open Go
def numN : List UInt8 → Nat
  | [] => 0
  | c :: r => c.toNat * 256 ^ r.length + numN r
theorem numN_lt : ∀ l, numN l < 256 ^ l.length
  | [] => by simp [numN]
  | c :: r => by
    have h := numN_lt r
    have hc := c.toNat_lt
    simp only [numN, List.length_cons, Nat.pow_succ]
    have : c.toNat * 256 ^ r.length ≤ 255 * 256 ^ r.length := Nat.mul_le_mul_right _ (by omega)
    omega
theorem foldl_num : ∀ (l : List UInt8) (a : W), (l.foldl (fun (n : W) (c : UInt8) => n <<< 8 ||| BitVec.ofNat 64 c.toNat) a).toNat = (a.toNat * 256 ^ l.length + numN l) % 2 ^ 64
  | [], a => by simp [numN]; omega
  | c :: r, a => by
    have hc := c.toNat_lt
    rw [List.foldl_cons, foldl_num r, shl8_or]
    simp only [BitVec.toNat_add, BitVec.toNat_mul, BitVec.toNat_ofNat, numN, List.length_cons, Nat.pow_succ]
    rw [Nat.mod_eq_of_lt (a := c.toNat) (by omega)]
    generalize 256 ^ r.length = m
    rw [show (256 % 2 ^ 64 : Nat) = 256 from rfl]
    have e1 : ((a.toNat * 256 % 2 ^ 64 + c.toNat) % 2 ^ 64 * m + numN r) % 2 ^ 64 = ((a.toNat * 256 + c.toNat) * m + numN r) % 2 ^ 64 := by
      rw [Nat.add_mod, Nat.mul_mod, Nat.mod_mod, Nat.add_mod (a.toNat * 256 % 2 ^ 64), Nat.mod_mod, ← Nat.add_mod (a.toNat * 256), ← Nat.mul_mod, ← Nat.add_mod]
    rw [e1]
    congr 1
    rw [Nat.add_mul, Nat.add_assoc, Nat.mul_assoc, Nat.mul_comm m 256]
theorem rnum_num {l : List UInt8} (h : l.length ≤ 8) : (rnum l).toNat = numN l := by
  unfold rnum
  rw [foldl_num]
  have h1 := numN_lt l
  have h2 : (256 : Nat) ^ l.length ≤ 256 ^ 8 := Nat.pow_le_pow_right (by decide) h
  simp at h2 ⊢
  omega
theorem byte_of (x : W) (k : Nat) : (x >>> (8 * k)).toNat = x.toNat / 256 ^ k := by
  rw [BitVec.toNat_ushiftRight, Nat.shiftRight_eq_div_pow, Nat.pow_mul]
end Go.Aw
namespace Go.Aw
open Go Go.RowKit
def snapOf (w : World) : Snap := ⟨fun k => w.heap[k]?, w.os, w.tape, w.output⟩
theorem St.start (w : World) : St (snapOf w) [] w := ⟨rfl, rfl, rfl, fun _ _ h => h, fun _ h => (by cases h), List.nodup_nil, fun _ h => (by cases h)⟩
theorem below_of {m' : Snap} {H' : Hp} {w w' : World} (hm : (snapOf w).le m') (hs : St m' H' w') : Below w.heap.size w w' := by
  have hb : ∀ k, k < w.heap.size → w'.heap[k]? = w.heap[k]? := fun k hk => by
    have h1 : w.heap[k]? = some w.heap[k] := Array.getElem?_eq_getElem hk
    rw [h1]
    exact hs.frz k _ (hm.heap k _ h1)
  refine ⟨hs.os.trans hm.os, hs.tape.trans hm.tape, hs.output.trans hm.output, ?_, hb⟩
  rcases Nat.eq_zero_or_pos w.heap.size with h | h
  · omega
  · have h1 := hb (w.heap.size - 1) (by omega)
    rw [Array.getElem?_eq_getElem (by omega : w.heap.size - 1 < w.heap.size)] at h1
    have := (Array.getElem?_eq_some_iff.1 h1).1
    omega
theorem cell_snap {w : World} {a : Addr} {v : Value} (h : w.cell? a = some v) : a = ⟨a.block, a.off, none⟩ ∧ (snapOf w).cell a.block a.off = some v := by
  obtain ⟨b, o, sp⟩ := a
  unfold World.cell? at h
  split at h
  · rename_i c _ _ hh
    cases sp with
    | some x => simp at h
    | none =>
      refine ⟨rfl, ?_⟩
      simp only [Option.isSome_none] at h
      simp only [Snap.cell, snapOf]
      simp at hh
      rw [hh]
      simpa using h
  · cases h
section
variable {P : Program} {n : Nat} {Q : Post} {L : Slots} {m : Snap} {H : Hp} {ops : Array Oper} {l : List Oper}
theorem r_toVec {i b k s : Nat} {cs : List Value} {e : TypeId} (news : List (List Value)) (hi : hget H i = some (.blk b (.cells cs.toArray e (0, 0)))) (hl : news.length = k) (he : ∀ c ∈ news, c.length = s) (hf : news.flatten = cs) (hk : k ≤ maxLen)
    (h : Run P n ops Q l L m (hset H i (.vec (some ⟨b, 0, none⟩) k k e s news))) : Run P n ops Q l L m H := fun a w hfr hs => h a w hfr (hs.toVec hi hl he hf hk)
end
theorem one_bytes (l : List UInt8) : ∀ c ∈ bytes1 l, ∀ u ∈ c, u.oneCell' = true := by
  intro c hc u hu
  simp only [bytes1, List.mem_map] at hc
  obtain ⟨x, _, rfl⟩ := hc
  simp at hu; subst hu; rfl
theorem fzMs_one {m : Snap} {b : Nat} {x : MsgD} {sm sr : Sl} {lr : List (RuleD × Sl)} (hc : ∀ (j : Nat) (v : Value), (encMsg x sm sr)[j]? = some v → m.cell b j = some v) (hx : MsgOk m x sm sr lr) : FzMs m ⟨some ⟨b, 0, none⟩, 1, 1⟩ [⟨x, sm, sr, lr⟩] :=
  ⟨Fz.of_cells hc rfl (fun c hc => by simp at hc; subst hc; simp [encMsg, encMod, encCube, encHead]) (by simp) (by show 1 ≤ maxLen; decide), fun p hp => by simp at hp; subst hp; exact hx⟩
end Go.Aw
namespace Go.Aw
open Go
section
variable {P : Program} {n : Nat} {L : Slots} {m : Snap} {H : Hp} {d : Option Tmp} {ty : TypeId} {ps : String} {af : Array Edge} {gd : Option (Nat × Bool)}
theorem s_makeSlice1 {K : Slots → Snap → Hp → Prop} {t e : TypeId} {x y : Operand} {k B : Nat} {k1 k2 : IntKind} {z : Value} (hd : dstOk n d = true) (hx : opv L x = some (.int k1 (k : Int))) (hy : opv L y = some (.int k2 (k : Int)))
    (ht : tslice P t = some (e, 1)) (hz : tzero P e = some [z]) (hB : tbytes P e = some B) (hfit : B * k ≤ 281474976710656) (hlen : k ≤ maxLen)
    (h : ∀ b, K (lput L d (.slice (some ⟨b, 0, none⟩) k k)) m (.blk b (.cells (List.replicate k z).toArray e) :: H)) : SP P n L m H ⟨d, .makeSlice t x y, ty, ps, af, gd⟩ K := by
  refine s_value hd fun ac w hf hs => ?_
  unfold tslice at ht
  cases hu : P.underlying t with
  | none => simp [hu] at ht
  | some D =>
    cases D <;> simp only [hu, reduceCtorEq] at ht
    rename_i e'
    cases hi : P.info? e' with
    | none => simp [hi] at ht
    | some inf =>
      simp only [hi, Option.some.injEq, Prod.mk.injEq] at ht
      obtain ⟨rfl, hsz⟩ := ht
      unfold tzero at hz
      simp only [hi] at hz
      cases hzv : inf.zero with
      | none => simp [hzv] at hz
      | some zv =>
        simp only [hzv, Option.some.injEq] at hz
        have hBy : inf.bytes = B := by simpa [tbytes, hi] using hB
        have hzc : zv.cells = #[z] := by
          apply Array.ext'
          simpa using hz
        have hb' : (inf.bytes : Int) * (k : Int) ≤ 281474976710656 := by
          rw [hBy, ← Int.natCast_mul]; exact Int.ofNat_le.2 hfit
        have h63 : (k : Int) ≤ 9223372036854775807 := by
          have h := hlen
          unfold maxLen at h
          omega
        have hr := run_make (P := P) w t e' inf zv hu hi hzv k1 k2 k k (by omega) (Int.le_refl _) hb' h63
        simp only [Int.toNat_natCast, hzc, hsz, Nat.mul_one] at hr
        have ha : madeCells #[z] k = (List.replicate k z).toArray := by
          apply Array.ext'
          rw [toList_madeCells_one]
        rw [ha] at hr
        refine ⟨_, m, _, w.alloc (.cells (List.replicate k z).toArray e'), ?_, hs.alloc _, h _⟩
        simp only [execOp, hf.eval hx, hf.eval hy]
        rw [Sem.run_bind, hr]; rfl
theorem y_wrem {t t' : TypeId} {x : Operand} {a : W} (hx : opv L x = some (wv a)) :
    Yl P n L m H ⟨d, .binOp .rem t x (.const (.int .u64 256)) t', ty, ps, af, gd⟩ (wv (a % 256#64)) :=
  y_iop hx rfl (by
    show some (Value.int .u64 (Int.tmod (a.toNat : Int) 256)) = _
    rw [show (256 : Int) = ((256 : Nat) : Int) from rfl, ← Int.ofNat_tmod a.toNat 256]
    simp [wv])
theorem y_wquo {t t' : TypeId} {x : Operand} {a : W} (hx : opv L x = some (wv a)) :
    Yl P n L m H ⟨d, .binOp .quo t x (.const (.int .u64 256)) t', ty, ps, af, gd⟩ (wv (a / 256#64)) :=
  y_iop hx rfl (by
    show some (Value.int .u64 (IntKind.u64.wrap (Int.tdiv (a.toNat : Int) 256))) = _
    rw [show (256 : Int) = ((256 : Nat) : Int) from rfl, ← Int.ofNat_tdiv a.toNat 256, wrap_u64_nat]
    have := a.isLt
    rw [Nat.mod_eq_of_lt (by omega)]
    simp [wv])
theorem y_indexAddr_sl {t e : TypeId} {x ix : Operand} {s : Nat} {kd : IntKind} {k len cap : Nat} {c : Int} {a : Option Addr} (hx : opv L x = some (.slice a len cap)) (hi : opv L ix = some (.int kd c)) (hc : c = (k : Int))
    (ht : tslice P t = some (e, s)) (hk : k < len) (ha : At m H a) :
    Yl P n L m H ⟨d, .indexAddr t x ix, ty, ps, af, gd⟩ (.pointer (eadd a (k * s))) := by
  subst hc
  exact y_indexAddr_slice hx hi ht hk ha
end
theorem cput_set {cs : List Value} {k : Nat} {v : Value} (hk : k < cs.length) : cput cs (0 + k * 1) [v] = some (cs.set k v) := by
  rw [Nat.zero_add, Nat.mul_one]
  induction cs generalizing k with
  | nil => simp at hk
  | cons c r ih =>
    cases k with
    | zero => cases r <;> rfl
    | succ k => 
      have := ih (k := k) (by simpa using hk)
      simp [cput, this]
theorem byte_toNat (x : W) (k : Nat) : (x >>> (8 * k)).toNat = x.toNat / 256 ^ k := by
  rw [BitVec.toNat_ushiftRight, Nat.shiftRight_eq_div_pow, Nat.pow_mul]
theorem numCells_step (j : Nat) (v : Value) (A : List Value) : cput (List.replicate (j + 1) (bv 0) ++ A) (0 + j * 1) [v] = some (List.replicate j (bv 0) ++ v :: A) := by
  rw [cput_set (by simp; omega)]
  congr 1
  rw [List.set_append_left _ _ (by simp), List.replicate_succ', List.set_append_right _ _ (by simp)]
  simp
theorem shr_step (z : W) (i : Nat) : (z >>> (8 * i)) / 256#64 = z >>> (8 * (i + 1)) := by
  apply BitVec.eq_of_toNat_eq
  rw [BitVec.toNat_udiv, byte_toNat, byte_toNat, Nat.pow_succ, ← Nat.div_div_eq_div_mul]
  rfl
theorem byte_rem (w : W) : UInt8.ofNat (w % 256#64).toNat = UInt8.ofNat w.toNat := by
  apply UInt8.toNat_inj.1
  simp
end Go.Aw
namespace Go.Aw
open Go
theorem fzB_num {m : Snap} {b k : Nat} {z : W} (hc : ∀ (j : Nat) (v : Value), ((wput z k).map bv)[j]? = some v → m.cell b j = some v) (hk : k ≤ maxLen) : FzB m ⟨some ⟨b, 0, none⟩, k, k⟩ (wput z k) :=
  Fz.of_cells hc (by simp [bytes1]) (fun c hc => by simp only [bytes1, List.mem_map] at hc; obtain ⟨x, _, rfl⟩ := hc; rfl) (by simp [bytes1, List.flatten_eq_flatMap, List.flatMap_map]; induction (wput z k) <;> simp_all) hk
theorem encode_some {x : MsgD} {l : List UInt8} (h : encode x = some l) : msgSound x = true ∧ x.rules.length ≤ 65535 := by
  unfold encode at h
  split at h
  · cases h
  · rename_i h0
    simp at h0
    exact ⟨h0.1, by omega⟩
theorem cget_msghead (x : MsgD) (sm sr : Sl) {k : Nat} (hk : k < 12) : cget (encMsg x sm sr) (0 + 35 + k * 1) = some (wv (x.head.at k)) := by
  match k, hk with
  | 0, _ | 1, _ | 2, _ | 3, _ | 4, _ | 5, _ | 6, _ | 7, _ | 8, _ | 9, _ | 10, _ | 11, _ => rfl
theorem bytes1_append (a b : List UInt8) : bytes1 (a ++ b) = bytes1 a ++ bytes1 b := by simp [bytes1]
def b8 (a : Int) : UInt8 := UInt8.ofNat (a % 256).toNat
theorem wput_b8 (a : Int) : wput (iw a) 1 = [b8 a] := by
  simp only [wput, b8, List.cons.injEq, and_true]
  apply UInt8.toNat_inj.1
  simp
  omega
theorem bytes1_one (c : UInt8) : bytes1 [c] = [[bv c]] := rfl
section
variable {P : Program} {n : Nat} {Q : Post} {L : Slots} {m : Snap} {H : Hp} {ops : Array Oper} {fuel : Nat} {listed : Array Bool}
theorem g_toVec {S : World → Prop} {i b k s : Nat} {cs : List Value} {e : TypeId} (news : List (List Value)) (hi : hget H i = some (.blk b (.cells cs.toArray e (0, 0)))) (hl : news.length = k) (he : ∀ c ∈ news, c.length = s) (hf : news.flatten = cs) (hk : k ≤ maxLen)
    (h : AG P n ops Q S fuel listed L m (hset H i (.vec (some ⟨b, 0, none⟩) k k e s news))) : AG P n ops Q S fuel listed L m H := fun a w hfr hs => h a w hfr (hs.toVec hi hl he hf hk)
end
end Go.Aw
namespace Go.Aw
open Go
def Reads {α : Type} (f : Rs → α × Rs) (b : List UInt8) (x : α) : Prop := ∀ q t, q.e = false → q.l = b ++ t → (f q).1 = x ∧ (f q).2.e = false ∧ (f q).2.l = t
theorem Reads.bind {α β : Type} {f : Rs → α × Rs} {g : α → Rs → β × Rs} {b b' : List UInt8} {x : α} {y : β} (hf : Reads f b x) (hg : Reads (g x) b' y) : Reads (fun q => g (f q).1 (f q).2) (b ++ b') y := by
  intro q t he hl
  obtain ⟨h1, h2, h3⟩ := hf q (b' ++ t) he (by rw [hl, List.append_assoc])
  obtain ⟨h4, h5, h6⟩ := hg (f q).2 t h2 h3
  simp only [h1]
  exact ⟨h4, h5, h6⟩
theorem Reads.map {α β : Type} {f : Rs → α × Rs} {b : List UInt8} {x : α} (h : α → β) (hf : Reads f b x) : Reads (fun q => (h (f q).1, (f q).2)) b (h x) := by
  intro q t he hl
  obtain ⟨h1, h2, h3⟩ := hf q t he hl
  exact ⟨congrArg h h1, h2, h3⟩
theorem Reads.nil {α : Type} (x : α) : Reads (fun q => (x, q)) [] x := fun q t he hl => ⟨rfl, he, hl⟩
theorem Reads.eq {α : Type} {f f' : Rs → α × Rs} {b b' : List UInt8} {x x' : α} (h : Reads f b x) (hf : ∀ q, q.e = false → f' q = f q) (hb : b' = b) (hx : x' = x) : Reads f' b' x' := by
  subst hb; subst hx
  intro q t he hl
  rw [hf q he]
  exact h q t he hl
def Pre (q q' : Rs) : Prop := q.e = false ∧ q'.e = false ∧ ∃ t, t ≠ [] ∧ q.l = q'.l ++ t
def Cuts {α : Type} (f : Rs → α × Rs) : Prop := (∀ q, q.e = true → (f q).2.e = true) ∧ ∀ q q', Pre q q' → (f q').2.e = true ∨ ((f q').1 = (f q).1 ∧ Pre (f q).2 (f q').2)
theorem Cuts.bind {α β : Type} {f : Rs → α × Rs} {g : α → Rs → β × Rs} (hf : Cuts f) (hg : ∀ x, Cuts (g x)) : Cuts (fun q => g (f q).1 (f q).2) := by
  refine ⟨fun q he => (hg _).1 _ (hf.1 q he), fun q q' hp => ?_⟩
  rcases hf.2 q q' hp with h | ⟨h1, h2⟩
  · exact .inl ((hg _).1 _ h)
  · simp only [h1]
    exact (hg _).2 _ _ h2
theorem Cuts.map {α β : Type} {f : Rs → α × Rs} (h : α → β) (hf : Cuts f) : Cuts (fun q => (h (f q).1, (f q).2)) := by
  refine ⟨hf.1, fun q q' hp => ?_⟩
  rcases hf.2 q q' hp with h' | ⟨h1, h2⟩
  · exact .inl h'
  · exact .inr ⟨congrArg h h1, h2⟩
theorem Cuts.nil {α : Type} (x : α) : Cuts (fun q => (x, q)) := ⟨fun _ h => h, fun _ _ h => .inr ⟨rfl, h⟩⟩
theorem Cuts.guard {α : Type} {f f' : Rs → α × Rs} (h : Cuts f) (h1 : ∀ q, q.e = true → (f' q).2 = q) (h2 : ∀ q, q.e = false → f' q = f q) : Cuts f' := by
  refine ⟨fun q he => by rw [h1 q he]; exact he, fun q q' hp => ?_⟩
  rw [h2 q hp.1, h2 q' hp.2.1]
  exact h.2 q q' hp
theorem numN_wput (x : W) : ∀ k, numN (wput x k) = x.toNat % 256 ^ k
  | 0 => by simp [wput, numN, Nat.mod_one]
  | k + 1 => by
    simp only [wput, numN, wput_len, numN_wput x k]
    rw [Nat.mod_pow_succ, UInt8.toNat_ofNat', byte_of, Nat.mul_comm, Nat.add_comm]
theorem reads_get {k : Nat} {x : W} (hk : k ≤ 8) (hx : x.toNat < 256 ^ k) : Reads (rget k) (wput x k) x := by
  intro q t he hl
  have e := rget_yes (k := k) (q := q) (by simp [he, hl])
  rw [e]
  refine ⟨?_, he, ?_⟩
  · apply BitVec.eq_of_toNat_eq
    simp only [hl]
    rw [List.take_append_of_le_length (by simp), List.take_of_length_le (by simp), rnum_num (by simpa using hk), numN_wput, Nat.mod_eq_of_lt hx]
  · simp [hl]
theorem iw_nat {n : Int} (h0 : 0 ≤ n) (h : n < 9223372036854775808) : (iw n).toNat = n.toNat ∧ (iw n).toInt = n := by
  have e : (iw n).toNat = n.toNat := by
    unfold iw
    rw [BitVec.toNat_ofInt]
    omega
  refine ⟨e, ?_⟩
  unfold BitVec.toInt
  rw [e, if_pos (by omega)]
  omega
theorem reads_int {k : Nat} {n : Int} (hk : k ≤ 8) (h0 : 0 ≤ n) (h : n < 9223372036854775808) (hx : n < ((256 ^ k : Nat) : Int)) : Reads (rint k) (wput (iw n) k) n := by
  obtain ⟨h1, h2⟩ := iw_nat h0 h
  have := Reads.map (f := rget k) BitVec.toInt (reads_get (x := iw n) hk (by rw [h1]; omega))
  rw [h2] at this
  exact this
theorem reads_int1 {n : Int} (h0 : 0 ≤ n) (h : n ≤ 255) : Reads (rint 1) (wput (iw n) 1) n := reads_int (by decide) h0 (by omega) (by simp; omega)
theorem reads_int2 {n : Int} (h0 : 0 ≤ n) (h : n ≤ 65535) : Reads (rint 2) (wput (iw n) 2) n := reads_int (by decide) h0 (by omega) (by simp; omega)
theorem reads_int4 {n : Int} (h0 : 0 ≤ n) (h : n ≤ 4294967295) : Reads (rint 4) (wput (iw n) 4) n := reads_int (by decide) h0 (by omega) (by simp; omega)
theorem reads_int8 {n : Int} (h0 : 0 ≤ n) (h : n < 9223372036854775808) : Reads (rint 8) (wput (iw n) 8) n := reads_int (by decide) h0 h (by simp; omega)
def Head.upto (h : Head) (i : Nat) : Head := fun k => if k.val < i then h k else 0
theorem upto_set (h : Head) {i : Nat} (hi : i < 12) : (h.upto i).set i (h.at i) = h.upto (i + 1) := by
  funext k
  unfold Head.set Head.upto Head.at
  by_cases e : k = Fin.ofNat 12 i
  · subst e
    rw [if_pos rfl, if_pos (by simp [Fin.ofNat, Nat.mod_eq_of_lt hi])]
  · have hne : k.val ≠ i := fun h => e (Fin.ext (by simp [Fin.ofNat, Nat.mod_eq_of_lt hi, h]))
    rw [if_neg e]
    by_cases hlt : k.val < i
    · rw [if_pos hlt, if_pos (by omega)]
    · rw [if_neg hlt, if_neg (by omega)]
theorem upto_12 (h : Head) : h.upto 12 = h := by funext k; unfold Head.upto; rw [if_pos k.isLt]
theorem reads_headN (h : Head) : ∀ i, i ≤ 12 → Reads (rheadN i) (wputs 8 ((headL h).take i)) (h.upto i)
  | 0, _ => Reads.nil zHead
  | i + 1, hi => by
    have hb := Reads.bind (f := rheadN i) (g := fun h q => (h.set i (rget 8 q).1, (rget 8 q).2)) (reads_headN h i (by omega)) (Reads.map (f := rget 8) (fun w => (h.upto i).set i w) (reads_get (x := h.at i) (by decide) (by have := (h.at i).isLt; simpa using this)))
    exact hb.eq (fun _ _ => rfl) (whead_step h (by omega)).symm (upto_set h (by omega)).symm
theorem reads_head (h : Head) : Reads rhead (whead h) h := (reads_headN h 12 (Nat.le_refl _)).eq (fun _ _ => rfl) (by simp [whead, headL]) (upto_12 h).symm
theorem reads_cube (c : Cube) : Reads rcube (whead c.value ++ whead c.care) c :=
  Reads.bind (f := rhead) (g := fun a q => ((⟨a, (rhead q).1⟩ : Cube), (rhead q).2)) (reads_head c.value) (Reads.map (f := rhead) (fun b => (⟨c.value, b⟩ : Cube)) (reads_head c.care))
/-- What of an action can be written. -/
structure ActB (a : ActD) : Prop where
  kind : 0 ≤ a.kind ∧ a.kind ≤ 255
  port : 0 ≤ a.port ∧ a.port ≤ 255
  field : 0 ≤ a.field ∧ a.field ≤ 255
theorem reads_act {a : ActD} (h : ActB a) : Reads ract (wact a) a := by
  have h1 := Reads.bind (f := rint 1) (g := fun k q => let b := rint 1 q; let c := rint 1 b.2; let d := rget 8 c.2; ((⟨k, b.1, c.1, d.1⟩ : ActD), d.2)) (reads_int1 h.kind.1 h.kind.2)
    (Reads.bind (f := rint 1) (g := fun b q => let c := rint 1 q; let d := rget 8 c.2; ((⟨a.kind, b, c.1, d.1⟩ : ActD), d.2)) (reads_int1 h.port.1 h.port.2)
    (Reads.bind (f := rint 1) (g := fun c q => let d := rget 8 q; ((⟨a.kind, a.port, c, d.1⟩ : ActD), d.2)) (reads_int1 h.field.1 h.field.2)
    (Reads.map (f := rget 8) (fun d => (⟨a.kind, a.port, a.field, d⟩ : ActD)) (reads_get (x := a.val) (by decide) (by have := a.val.isLt; simpa using this)))))
  exact h1.eq (fun _ _ => rfl) (by simp [wact]) rfl
theorem reads_actsN : ∀ (l : List ActD), (∀ a ∈ l, ActB a) → Reads (ractsN l.length) (wactsL l) l
  | [], _ => Reads.nil []
  | a :: l, h => by
    have hb := Reads.bind (f := ract) (g := fun a q => (a :: (ractsN l.length q).1, (ractsN l.length q).2)) (reads_act (h a (by simp))) (Reads.map (f := ractsN l.length) (fun l => a :: l) (reads_actsN l fun x hx => h x (by simp [hx])))
    exact hb.eq (fun q he => ractsN_succ he) rfl rfl
theorem reads_acts {l : List ActD} (hl : l.length ≤ 255) (h : ∀ a ∈ l, ActB a) : Reads racts (wacts l) l := by
  have hb := Reads.bind (f := rint 1) (g := fun k q => ractsN k.toNat q) (reads_int1 (n := (l.length : Nat)) (by omega) (by omega)) (by rw [Int.toNat_natCast]; exact reads_actsN l h)
  exact hb.eq (fun _ _ => rfl) rfl rfl
theorem actSound_b {a : ActD} (h : actSound a = true) : ActB a := by
  unfold actSound at h
  split at h
  · rename_i k
    simp at h
    exact ⟨by omega, by omega, by omega⟩
  · split at h
    · rename_i k
      simp [setF, there] at h
      refine ⟨by omega, by omega, ?_⟩
      obtain ⟨h1, _⟩ := h
      split at h1
      · simp at h1
      · rename_i hh; omega
    · simp at h; subst h; exact ⟨by decide, by decide, by decide⟩
theorem actsSound_b {l : List ActD} (h : actsSound l = true) : l.length ≤ 255 ∧ ∀ a ∈ l, ActB a := by
  simp only [actsSound, Bool.and_eq_true, decide_eq_true_eq, Bool.not_eq_true', List.any_eq_false, Bool.not_eq_true] at h
  refine ⟨by omega, fun a ha => actSound_b ?_⟩
  have := h.2 a ha
  simpa using this
theorem reads_match (c : Cube) {prio idle hard owner : Int} {β : Type} {g : Cube → Int → Int → Int → Int → Rs → β × Rs} {b : List UInt8} {y : β} (hp : 0 ≤ prio ∧ prio ≤ 65535) (hi : 0 ≤ idle ∧ idle ≤ 4294967295) (hh : 0 ≤ hard ∧ hard ≤ 4294967295) (ho : 0 ≤ owner ∧ owner ≤ 255)
    (hg : Reads (g c prio idle hard owner) b y) :
    Reads (fun q => let c := rcube q; let p := rint 2 c.2; let i := rint 4 p.2; let h := rint 4 i.2; let o := rint 1 h.2; g c.1 p.1 i.1 h.1 o.1 o.2) (wmatch c prio idle hard owner ++ b) y := by
  have h1 := Reads.bind (f := rcube) (g := fun c q => let p := rint 2 q; let i := rint 4 p.2; let h := rint 4 i.2; let o := rint 1 h.2; g c p.1 i.1 h.1 o.1 o.2) (reads_cube c)
    (Reads.bind (f := rint 2) (g := fun p q => let i := rint 4 q; let h := rint 4 i.2; let o := rint 1 h.2; g c p i.1 h.1 o.1 o.2) (reads_int2 hp.1 hp.2)
    (Reads.bind (f := rint 4) (g := fun i q => let h := rint 4 q; let o := rint 1 h.2; g c prio i h.1 o.1 o.2) (reads_int4 hi.1 hi.2)
    (Reads.bind (f := rint 4) (g := fun h q => let o := rint 1 q; g c prio idle h o.1 o.2) (reads_int4 hh.1 hh.2)
    (Reads.bind (f := rint 1) (g := fun o q => g c prio idle hard o q) (reads_int1 ho.1 ho.2) hg))))
  exact h1.eq (fun _ _ => rfl) (by simp [wmatch]) rfl
structure ModB (x : ModD) : Prop where
  kind : 0 ≤ x.kind ∧ x.kind ≤ 255
  prio : 0 ≤ x.prio ∧ x.prio ≤ 65535
  idle : 0 ≤ x.idle ∧ x.idle ≤ 4294967295
  hard : 0 ≤ x.hard ∧ x.hard ≤ 4294967295
  owner : 0 ≤ x.owner ∧ x.owner ≤ 255
  acts : x.acts.length ≤ 255 ∧ ∀ a ∈ x.acts, ActB a
theorem modSound_b {x : ModD} (h : modSound x = true) : ModB x := by
  unfold modSound at h
  split at h
  · cases h
  rename_i h0
  simp only [Bool.or_eq_true, Bool.not_eq_true', not_or, Bool.not_eq_false] at h0
  obtain ⟨⟨⟨_, ha⟩, hp⟩, ho⟩ := h0
  have hac := actsSound_b ha
  simp [span] at hp ho
  split at h
  · rename_i k
    simp [span] at h
    exact ⟨by omega, by omega, by omega, by omega, by omega, hac⟩
  split at h
  · rename_i k
    simp [modPlain] at h
    exact ⟨by omega, by omega, by omega, by omega, by omega, hac⟩
  split at h
  · rename_i k
    simp [modPlain] at h
    exact ⟨by omega, by omega, by omega, by omega, by omega, hac⟩
  split at h
  · rename_i k
    simp [modPlain] at h
    exact ⟨by omega, by omega, by omega, by omega, by omega, hac⟩
  split at h
  · rename_i k
    simp [modPlain] at h
    exact ⟨by omega, by omega, by omega, by omega, by omega, hac⟩
  · cases h
theorem reads_mod {x : ModD} (h : ModB x) : Reads rmod (wmod x) (x, true) := by
  have hf : ∀ b : Bool, ((if b = true then (1 : W) else 0)) = iw (if b then 1 else 0) := fun b => by cases b <;> rfl
  have h1 := Reads.bind (f := rint 1) (g := fun k q => let c := rcube q; let p := rint 2 c.2; let i := rint 4 p.2; let h := rint 4 i.2; let o := rint 1 h.2; let ch := rint 1 o.2; let a := racts ch.2; (((⟨k, c.1, p.1, a.1, i.1, h.1, o.1, ch.1 == 1⟩ : ModD), decide (ch.1 ≤ 1)), a.2)) (reads_int1 h.kind.1 h.kind.2)
    (reads_match x.m (g := fun c p i h o q => let ch := rint 1 q; let a := racts ch.2; (((⟨x.kind, c, p, a.1, i, h, o, ch.1 == 1⟩ : ModD), decide (ch.1 ≤ 1)), a.2)) h.prio h.idle h.hard h.owner
    (Reads.bind (f := rint 1) (g := fun ch q => let a := racts q; (((⟨x.kind, x.m, x.prio, a.1, x.idle, x.hard, x.owner, ch == 1⟩ : ModD), decide (ch ≤ 1)), a.2)) (reads_int1 (n := if x.check then 1 else 0) (by split <;> omega) (by split <;> omega))
    (Reads.map (f := racts) (fun a => ((⟨x.kind, x.m, x.prio, a, x.idle, x.hard, x.owner, (if x.check then (1 : Int) else 0) == 1⟩ : ModD), decide ((if x.check then (1 : Int) else 0) ≤ 1))) (reads_acts h.acts.1 h.acts.2))))
  refine h1.eq (fun _ _ => rfl) (by simp only [wmod, hf, List.append_assoc]) ?_
  cases x with
  | mk k c p a i h o ch => cases ch <;> rfl
structure RuleB (x : RuleD) : Prop where
  prio : 0 ≤ x.prio ∧ x.prio ≤ 65535
  idle : 0 ≤ x.idle ∧ x.idle ≤ 4294967295
  hard : 0 ≤ x.hard ∧ x.hard ≤ 4294967295
  owner : 0 ≤ x.owner ∧ x.owner ≤ 255
  hits : 0 ≤ x.hits ∧ x.hits < 9223372036854775808
  quiet : 0 ≤ x.quiet ∧ x.quiet < 9223372036854775808
  age : 0 ≤ x.age ∧ x.age < 9223372036854775808
  acts : x.acts.length ≤ 255 ∧ ∀ a ∈ x.acts, ActB a
/-- The counts are those of a machine. -/
def RuleI (x : RuleD) : Prop := x.hits < 9223372036854775808 ∧ x.quiet < 9223372036854775808 ∧ x.age < 9223372036854775808
theorem ruleSound_b {x : RuleD} (h : ruleSound x = true) (hi : RuleI x) : RuleB x := by
  unfold ruleSound at h
  simp only [Bool.and_eq_true] at h
  obtain ⟨⟨⟨⟨⟨⟨_, ha⟩, hp⟩, hid⟩, hh⟩, ho⟩, hm⟩ := h
  obtain ⟨i1, i2, i3⟩ := hi
  simp [span] at hp hid hh ho hm
  exact ⟨by omega, by omega, by omega, by omega, by omega, by omega, by omega, actsSound_b ha⟩
set_option maxRecDepth 100000 in
theorem reads_rule {x : RuleD} (h : RuleB x) : Reads rrule (wrule x) x := by
  have h1 := reads_match x.m (g := fun c p i h o q => let x := rint 8 q; let y := rint 8 x.2; let z := rint 8 y.2; let a := racts z.2; ((⟨c, p, a.1, i, h, o, x.1, y.1, z.1⟩ : RuleD), a.2)) h.prio h.idle h.hard h.owner
    (Reads.bind (f := rint 8) (g := fun n q => let y := rint 8 q; let z := rint 8 y.2; let a := racts z.2; ((⟨x.m, x.prio, a.1, x.idle, x.hard, x.owner, n, y.1, z.1⟩ : RuleD), a.2)) (reads_int8 h.hits.1 h.hits.2)
    (Reads.bind (f := rint 8) (g := fun n q => let z := rint 8 q; let a := racts z.2; ((⟨x.m, x.prio, a.1, x.idle, x.hard, x.owner, x.hits, n, z.1⟩ : RuleD), a.2)) (reads_int8 h.quiet.1 h.quiet.2)
    (Reads.bind (f := rint 8) (g := fun n q => let a := racts q; ((⟨x.m, x.prio, a.1, x.idle, x.hard, x.owner, x.hits, x.quiet, n⟩ : RuleD), a.2)) (reads_int8 h.age.1 h.age.2)
    (Reads.map (f := racts) (fun a => (⟨x.m, x.prio, a, x.idle, x.hard, x.owner, x.hits, x.quiet, x.age⟩ : RuleD)) (reads_acts h.acts.1 h.acts.2)))))
  exact h1.eq (fun _ _ => rfl) (by simp [wrule, wputs]) rfl
theorem reads_rulesN : ∀ (l : List RuleD), (∀ a ∈ l, RuleB a) → Reads (rrulesN l.length) (wrulesL l) l
  | [], _ => Reads.nil []
  | a :: l, h => by
    have hb := Reads.bind (f := rrule) (g := fun a q => (a :: (rrulesN l.length q).1, (rrulesN l.length q).2)) (reads_rule (h a (by simp))) (Reads.map (f := rrulesN l.length) (fun l => a :: l) (reads_rulesN l fun x hx => h x (by simp [hx])))
    exact hb.eq (fun q he => rrulesN_succ he) rfl rfl
theorem reads_rules {l : List RuleD} (hl : l.length ≤ 65535) (h : ∀ a ∈ l, RuleB a) : Reads rrules (wrules l) l := by
  have hb := Reads.bind (f := rint 2) (g := fun k q => rrulesN k.toNat q) (reads_int2 (n := (l.length : Nat)) (by omega) (by omega)) (by rw [Int.toNat_natCast]; exact reads_rulesN l h)
  exact hb.eq (fun _ _ => rfl) rfl rfl
theorem ruleTable_sound {l : List RuleD} (h : ruleTable l = true) : ∀ r ∈ l, ruleSound r = true := by
  intro r hr
  obtain ⟨i, hi, rfl⟩ := List.mem_iff_getElem.1 hr
  unfold ruleTable at h
  rw [List.all_eq_true] at h
  have := h i (by simpa using hi)
  unfold okAt at this
  rw [List.getElem?_eq_getElem hi] at this
  simp at this
  exact this.1
def MsgI (x : MsgD) : Prop := ∀ r ∈ x.rules, RuleI r
theorem reads_msg {x : MsgD} {l : List UInt8} (he : encode x = some l) (hi : MsgI x) : Reads rmsg l (x, true) := by
  obtain ⟨hs, hr⟩ := encode_some he
  unfold encode at he
  rw [if_neg (by simp [hs]; omega)] at he
  have hs' := hs
  simp only [msgSound, Bool.and_eq_true, decide_eq_true_eq] at hs
  obtain ⟨⟨ht0, ht1⟩, hb⟩ := hs
  have key : ∀ {b : List UInt8}, (0 ≤ x.kind ∧ x.kind ≤ 255) → Reads (fun q => if x.kind = 1 then (({ (⟨x.kind, x.txn, 0, zMod, 0, zHead, []⟩ : MsgD) with mod := (rmod q).1.1 }, (rmod q).1.2), (rmod q).2)
      else if x.kind = 6 then (({ (⟨x.kind, x.txn, 0, zMod, 0, zHead, []⟩ : MsgD) with e := (rint 1 q).1 }, true), (rint 1 q).2)
      else if x.kind = 8 then (({ (⟨x.kind, x.txn, 0, zMod, 0, zHead, []⟩ : MsgD) with port := (rint 1 q).1, head := (rhead (rint 1 q).2).1 }, true), (rhead (rint 1 q).2).2)
      else if x.kind = 9 ∨ x.kind = 10 then (({ (⟨x.kind, x.txn, 0, zMod, 0, zHead, []⟩ : MsgD) with rules := (rrules q).1 }, true), (rrules q).2)
      else (((⟨x.kind, x.txn, 0, zMod, 0, zHead, []⟩ : MsgD), true), q)) b (x, true) → Reads rmsg (wput (iw x.kind) 1 ++ wput (iw x.txn) 4 ++ b) (x, true) := by
    intro b hk h
    have h0 := Reads.bind (f := rint 1) (g := fun k q => ((⟨k, (rint 4 q).1, 0, zMod, 0, zHead, []⟩ : MsgD), (rint 4 q).2)) (reads_int1 hk.1 hk.2) (Reads.map (f := rint 4) (fun t => (⟨x.kind, t, 0, zMod, 0, zHead, []⟩ : MsgD)) (reads_int4 ht0 ht1))
    exact (Reads.bind (f := rmsg0) (g := fun x q => if x.kind = 1 then (({ x with mod := (rmod q).1.1 }, (rmod q).1.2), (rmod q).2)
      else if x.kind = 6 then (({ x with e := (rint 1 q).1 }, true), (rint 1 q).2)
      else if x.kind = 8 then (({ x with port := (rint 1 q).1, head := (rhead (rint 1 q).2).1 }, true), (rhead (rint 1 q).2).2)
      else if x.kind = 9 ∨ x.kind = 10 then (({ x with rules := (rrules q).1 }, true), (rrules q).2)
      else ((x, true), q)) h0 h).eq (fun _ _ => rfl) rfl rfl
  cases he
  obtain ⟨kind, txn, e, mod, port, head, rules⟩ := x
  simp only at *
  unfold msgBody at hb
  simp only at hb
  by_cases k1 : kind = 1
  · rw [if_pos k1] at hb
    simp only [k1, if_true, msgEmpty, Bool.and_eq_true, beq_iff_eq, decide_eq_true_eq] at hb key ⊢
    obtain ⟨⟨⟨⟨⟨he, _⟩, hp⟩, hh⟩, hr0⟩, hm⟩ := hb
    have hr1 : rules = [] := List.eq_nil_of_length_eq_zero (by omega)
    subst he hp hh hr1
    refine key (by omega) ?_
    exact Reads.map (f := rmod) (fun y => ((⟨1, txn, 0, y.1, 0, zHead, []⟩ : MsgD), y.2)) (reads_mod (modSound_b hm))
  rw [if_neg k1] at hb
  by_cases k6 : kind = 6
  · rw [if_pos k6] at hb
    subst k6
    simp [msgEmpty] at hb key ⊢
    obtain ⟨⟨⟨⟨⟨hm, hp⟩, hh⟩, hr0⟩, h1⟩, h2⟩ := hb
    subst hm hp hh hr0
    exact key (Reads.map (f := rint 1) (fun y => ((⟨6, txn, y, zMod, 0, zHead, []⟩ : MsgD), true)) (reads_int1 (by omega) (by omega)))
  rw [if_neg k6] at hb
  by_cases k8 : kind = 8
  · rw [if_pos k8] at hb
    subst k8
    simp [msgEmpty] at hb key ⊢
    obtain ⟨⟨⟨⟨⟨he, hm⟩, hr0⟩, h1⟩, h2⟩, _⟩ := hb
    subst he hm hr0
    exact key (Reads.bind (f := rint 1) (g := fun p q => (((⟨8, txn, 0, zMod, p, (rhead q).1, []⟩ : MsgD), true), (rhead q).2)) (reads_int1 (by omega) (by omega)) (Reads.map (f := rhead) (fun h => ((⟨8, txn, 0, zMod, port, h, []⟩ : MsgD), true)) (reads_head head)))
  rw [if_neg k8] at hb
  by_cases k9 : kind = 9 ∨ kind = 10
  · rw [if_pos k9] at hb
    simp only [k1, k6, k8, k9, if_true, if_false, msgEmpty, Bool.and_eq_true, beq_iff_eq, decide_eq_true_eq] at hb key ⊢
    obtain ⟨⟨⟨⟨⟨⟨he, hm⟩, hp⟩, hh⟩, _⟩, htb⟩, _⟩ := hb
    subst he hm hp hh
    have hrs := ruleTable_sound htb
    refine key (by omega) ?_
    exact Reads.map (f := rrules) (fun y => ((⟨kind, txn, 0, zMod, 0, zHead, y⟩ : MsgD), true)) (reads_rules hr fun r hr' => ruleSound_b (hrs r hr') (hi r hr'))
  rw [if_neg k9] at hb
  simp only [k1, k6, k8, k9, if_false, msgEmpty, Bool.and_eq_true, beq_iff_eq, decide_eq_true_eq] at hb key ⊢
  obtain ⟨⟨⟨⟨⟨⟨he, hm⟩, hp⟩, hh⟩, hr0⟩, h1⟩, h2⟩ := hb
  have hr1 : rules = [] := List.eq_nil_of_length_eq_zero (by omega)
  subst he hm hp hh hr1
  exact key (by omega) (Reads.nil _)
theorem encode_decode {x : MsgD} {l : List UInt8} (he : encode x = some l) (hi : MsgI x) (s : Sl) : decode s l = (x, 0) := by
  obtain ⟨h1, h2, h3⟩ := reads_msg he hi ⟨s, l, false⟩ [] rfl (by simp)
  unfold decode
  simp only [h1, h2, h3, (encode_some he).1]
  rfl
theorem encode_inj {x y : MsgD} {l : List UInt8} (hx : encode x = some l) (hy : encode y = some l) (ix : MsgI x) (iy : MsgI y) : x = y := by
  have h1 := encode_decode hx ix zSl
  rw [encode_decode hy iy zSl] at h1
  exact (congrArg Prod.fst h1).symm
theorem encode_of_sound {x : MsgD} (h : msgSound x = true) (hr : x.rules.length ≤ 65535) : ∃ l, encode x = some l := by
  unfold encode
  rw [if_neg (by simp [h]; omega)]
  exact ⟨_, rfl⟩
end Go.Aw
namespace Go.Aw
open Go Go.RowKit
/-- It can be read as a value of its type. -/
def Tr {H : Type} (enc : TypeId × Value → H) (P : Program) (w : World) (t : TypeId) (cs : List Value) : Prop :=
  ∃ (sp : Nat → Bool) (fuel : Nat) (x : DataW H × List MemPlace), DataW.trod enc P w 0 sp true fuel t cs = some x
section
variable {H : Type} {enc : TypeId × Value → H} {P : Program} {w : World} {t : TypeId} {cs : List Value}
theorem Tr.of {v : Value} {d : DataW H} {p : List MemPlace} {sp : Nat → Bool} (h : DataW.Trod enc P w 0 sp true t v d p) : Tr enc P w t v.cells.toList := by
  obtain ⟨f, hf⟩ := h
  exact ⟨sp, f, _, hf⟩
theorem Tr.int {k : IntKind} (ht : P.underlying t = some (.int k)) (h : Tr enc P w t cs) : ∃ n, cs = [.int k n] ∧ (Lit.int k n).wf = true := by
  obtain ⟨sp, f, x, h⟩ := h
  obtain ⟨n, h1, _, h2⟩ := DataW.trod_int ht h
  exact ⟨n, h1, h2⟩
theorem Tr.bool (ht : P.underlying t = some .bool) (h : Tr enc P w t cs) : ∃ b, cs = [.bool b] := by
  obtain ⟨sp, f, x, h⟩ := h
  obtain ⟨n, h1, _⟩ := DataW.trod_bool ht h
  exact ⟨n, h1⟩
theorem Tr.struct {fs : Array Field} {n : Nat} (ht : P.underlying t = some (.struct fs)) (hc : P.cellsOf t = n) (h : Tr enc P w t cs) : cs.length = n ∧ ∀ (i : Nat) (f : Field), fs[i]? = some f → Tr enc P w f.type ((cs.drop f.offset).take (P.cellsOf f.type)) := by
  obtain ⟨sp, f, x, h⟩ := h
  obtain ⟨xs, m, _, _, hl, hx, hf⟩ := DataW.trod_struct ht h
  refine ⟨hl.trans hc, fun i f hi => ?_⟩
  have hlt : i < xs.length := by rw [hx]; exact (Array.getElem?_eq_some_iff.1 hi).1
  have := hf i f hi
  rw [List.getElem?_eq_getElem hlt] at this
  exact ⟨sp, m, _, this⟩
theorem Tr.array {e : TypeId} {n k : Nat} (ht : P.underlying t = some (.array n e)) (hc : P.cellsOf e = k) (hn : P.cellsOf t = n * k) (h : Tr enc P w t cs) : cs.length = n * k ∧ ∀ i, i < n → Tr enc P w e ((cs.drop (i * k)).take k) := by
  obtain ⟨sp, f, x, h⟩ := h
  obtain ⟨xs, m, _, _, hl, hx, hf⟩ := DataW.trod_array ht h
  refine ⟨hl.trans hn, fun i hi => ?_⟩
  have := hf i hi
  rw [List.getElem?_eq_getElem (by omega), hc] at this
  exact ⟨sp, m, _, this⟩
theorem Tr.slice {e : TypeId} {k : Nat} (ht : P.underlying t = some (.slice e)) (hc : P.cellsOf e = k) (hk : 0 < k) (h : Tr enc P w t cs) :
    ∃ (s : Sl) (rows : List (List Value)), cs = [s.v] ∧ s.ok ∧ Fz (snapOf w) s.a s.n s.cap k rows ∧ ∀ r ∈ rows, Tr enc P w e r := by
  obtain ⟨sp, f, x, h⟩ := h
  rcases Deep.open_slice ht h with ⟨rfl, _⟩ | ⟨a, len, cap, m, n, D, Pl, rfl, _, hl, hm, hmm, _, hx⟩
  · exact ⟨zSl, [], rfl, fun _ => rfl, ⟨rfl, fun c h => (by cases h), Nat.le_refl _, Nat.zero_le _, fun k c h => (by simp at h)⟩, fun r h => (by cases h)⟩
  · have hle : len ≤ m := by rw [hmm]; split <;> omega
    obtain ⟨V, hV⟩ := Deep.choose_lt (α := List Value) (n := len) (p := fun i v => w.cells? 0 (a.add (i * k)) k = some v ∧ Tr enc P w e v) (fun i hi => by
      obtain ⟨cs', h1, h2⟩ := hx i (by omega)
      rw [hc] at h1
      exact ⟨cs', h1, sp, n, _, h2⟩)
    have hr : ∀ (i : Nat) (c : List Value), ((List.range len).map V)[i]? = some c → i < len ∧ c = V i := by
      intro i c h
      simp only [List.getElem?_map, Option.map_eq_some_iff] at h
      obtain ⟨j, hj, rfl⟩ := h
      have := List.getElem?_eq_some_iff.1 hj
      simp at this
      exact ⟨by omega, by rw [this.2]⟩
    refine ⟨⟨some a, len, cap⟩, (List.range len).map V, rfl, fun h => (by cases h), ⟨by simp, ?_, hl, hm, ?_⟩, ?_⟩
    · intro c hc'
      obtain ⟨i, hi⟩ := List.getElem?_of_mem hc'
      obtain ⟨hi', rfl⟩ := hr i c hi
      exact (World.cells?_some (hV i hi').1).2.1
    · intro i c hi
      obtain ⟨hi', rfl⟩ := hr i c hi
      obtain ⟨_, hlen, hcell⟩ := World.cells?_some (hV i hi').1
      have hcs : ∀ (j : Nat) (v : Value), (V i)[j]? = some v → w.cell? ((a.add (i * k)).add j) = some v := fun j v hj => by
        rw [hcell j (by have := (List.getElem?_eq_some_iff.1 hj).1; omega), hj]
      have ha : a = ⟨a.block, a.off, none⟩ := by
        obtain ⟨_, hlen0, hcell0⟩ := World.cells?_some (hV 0 (by omega)).1
        have h0 := hcell0 0 hk
        rw [List.getElem?_eq_getElem (by omega)] at h0
        have := (cell_snap h0).1
        simpa [Addr.add] using this
      rw [ha] at hcs ⊢
      refine ⟨a.block, a.off, rfl, fun j v hj => ?_⟩
      have := hcs j v hj
      rw [addr_add, addr_add] at this
      have := (cell_snap this).2
      rwa [show a.off + i * k + j = a.off + (i * k + j) by omega] at this
    · intro c hc'
      obtain ⟨i, hi⟩ := List.getElem?_of_mem hc'
      obtain ⟨hi', rfl⟩ := hr i c hi
      exact (hV i hi').2
end
end Go.Aw
namespace Go.Aw
open Go Go.Proofs
def fieldCells : List Value := [.string ⟨#[105, 110]⟩, .int .i64 16, .string ⟨#[101, 115, 114, 99]⟩, .int .i64 48, .string ⟨#[101, 100, 115, 116]⟩, .int .i64 48, .string ⟨#[101, 116, 121, 112, 101]⟩, .int .i64 16, .string ⟨#[118, 108, 97, 110]⟩, .int .i64 12, .string ⟨#[112, 99, 112]⟩, .int .i64 4, .string ⟨#[115, 114, 99]⟩, .int .i64 32, .string ⟨#[100, 115, 116]⟩, .int .i64 32, .string ⟨#[112, 114, 111, 116, 111]⟩, .int .i64 8, .string ⟨#[116, 111, 115]⟩, .int .i64 8, .string ⟨#[115, 112, 111, 114, 116]⟩, .int .i64 12, .string ⟨#[100, 112, 111, 114, 116]⟩, .int .i64 12]
def nameCell (k : Nat) : Value := ([.string ⟨#[105, 110]⟩, .string ⟨#[101, 115, 114, 99]⟩, .string ⟨#[101, 100, 115, 116]⟩, .string ⟨#[101, 116, 121, 112, 101]⟩, .string ⟨#[118, 108, 97, 110]⟩, .string ⟨#[112, 99, 112]⟩, .string ⟨#[115, 114, 99]⟩, .string ⟨#[100, 115, 116]⟩, .string ⟨#[112, 114, 111, 116, 111]⟩, .string ⟨#[116, 111, 115]⟩, .string ⟨#[115, 112, 111, 114, 116]⟩, .string ⟨#[100, 112, 111, 114, 116]⟩] : List Value).getD k undef
theorem csub_fields (k : Nat) (hk : k < 12) : csub fieldCells (k * 2) 2 = some [nameCell k, .int .i64 ((size12.getD k 0 : Nat) : Int)] := by
  match k, hk with
  | 0, _ | 1, _ | 2, _ | 3, _ | 4, _ | 5, _ | 6, _ | 7, _ | 8, _ | 9, _ | 10, _ | 11, _ => rfl
theorem tz196 : tzero Try.prog 196 = some [.string ByteArray.empty, .int .i64 0, .string ByteArray.empty, .int .i64 0, .string ByteArray.empty, .int .i64 0, .string ByteArray.empty, .int .i64 0, .string ByteArray.empty, .int .i64 0, .string ByteArray.empty, .int .i64 0, .string ByteArray.empty, .int .i64 0, .string ByteArray.empty, .int .i64 0, .string ByteArray.empty, .int .i64 0, .string ByteArray.empty, .int .i64 0, .string ByteArray.empty, .int .i64 0, .string ByteArray.empty, .int .i64 0] := by kernel_rfl
theorem tz195 : tzero Try.prog 195 = some [.string ByteArray.empty, .int .i64 0] := by kernel_rfl
theorem fk195 : fieldsKnown Try.prog 195 = true := by kernel_rfl
theorem bp195_0_1 : bplaces Try.prog 195 [0, 1] = some [(0, 1), (1, 1)] := by kernel_rfl
theorem fk196 : fieldsKnown Try.prog 196 = true := by kernel_rfl
theorem bp196_0_1_2_3_4_5_6_7_8_9_10_11 : bplaces Try.prog 196 [0, 1, 2, 3, 4, 5, 6, 7, 8, 9, 10, 11] = some [(0, 2), (2, 2), (4, 2), (6, 2), (8, 2), (10, 2), (12, 2), (14, 2), (16, 2), (18, 2), (20, 2), (22, 2)] := by kernel_rfl
theorem ts196 : tshape Try.prog 196 = some (true, 24) := by kernel_rfl
theorem ta196 : tarray Try.prog 196 = some (12, true, 2) := by kernel_rfl
theorem fs195_1 : fieldSh Try.prog 195 1 = some (1, false, 1) := by kernel_rfl
theorem ts27 : tshape Try.prog 27 = some (true, 12) := by kernel_rfl
theorem ta27 : tarray Try.prog 27 = some (12, false, 1) := by kernel_rfl
theorem fo29_1 : fieldOff Try.prog 29 1 = some 12 := by kernel_rfl
theorem fo29_0 : fieldOff Try.prog 29 0 = some 0 := by kernel_rfl
theorem ts25 : tshape Try.prog 25 = some (false, 1) := by kernel_rfl
theorem ts29 : tshape Try.prog 29 = some (true, 24) := by kernel_rfl
set_option maxRecDepth 100000 in
theorem there_ok (n : Int) (m : Snap) (H : Hp) : Fn Try.prog 167 [.int .i64 n] m H (fun v _ H' => v = .bool (there n) ∧ H' = H) := by
  have hm : m.le m := Snap.le.refl m
  refine fn_end Try.func167 rfl rfl rfl ?_
  refine c_seq (fun K0 hK0 => ?_)
  refine c_region ?_
  refine r_y rfl rfl (y_assign rfl) ?_
  refine r_nil ?_
  refine hK0 _ _ _ ?_
  clear hK0 K0
  refine c_seq (fun K1 hK1 => ?_)
  refine c_region ?_
  refine r_y rfl rfl (y_move rfl) ?_
  refine r_y rfl rfl (y_iop rfl rfl rfl) ?_
  refine r_y rfl rfl (y_move rfl) ?_
  refine r_split (j := 2) rfl (fun h0 => ?_) (fun h0 => ?_)
  ·
    refine r_yg rfl h0 rfl (y_move rfl) ?_
    refine r_yg rfl h0 rfl (y_iop rfl rfl rfl) ?_
    refine r_y rfl rfl (y_pickt rfl h0 rfl) ?_
    refine r_y rfl rfl (y_assign rfl) ?_
    refine r_nil ?_
    refine hK1 _ _ _ ?_
    clear hK1 K1
    refine c_ret ?_
    refine e_ret 0 hm (res_tmps rfl) ?_
    refine ⟨?_, rfl⟩
    simp_all [there]
    try omega
  ·
    refine r_no' rfl rfl h0 ?_
    refine r_no' rfl rfl h0 ?_
    refine r_y rfl rfl (y_pickf rfl h0 rfl) ?_
    refine r_y rfl rfl (y_assign rfl) ?_
    refine r_nil ?_
    refine hK1 _ _ _ ?_
    clear hK1 K1
    refine c_ret ?_
    refine e_ret 0 hm (res_tmps rfl) ?_
    refine ⟨?_, rfl⟩
    simp_all [there]
    try omega
set_option maxRecDepth 100000 in
theorem fields_ok (m : Snap) (H : Hp) : Fn Try.prog 180 [] m H (fun v _ H' => v = .agg fieldCells.toArray ∧ H' = H) := by
  have hm : m.le m := Snap.le.refl m
  refine fn_end Try.func180 rfl rfl rfl ?_
  refine c_seq (fun K0 hK0 => ?_)
  refine c_region ?_
  refine r_s rfl ?_
  refine s_alloc rfl tz196 (fun b0 => ?_)
  refine r_nil ?_
  refine hK0 _ _ _ ?_
  clear hK0 K0
  refine c_seq (fun K1 hK1 => ?_)
  refine c_region ?_
  refine r_y rfl rfl (y_bld rfl tz195 fk195 bp195_0_1 rfl rfl) ?_
  refine r_y rfl rfl (y_bld rfl tz195 fk195 bp195_0_1 rfl rfl) ?_
  refine r_y rfl rfl (y_bld rfl tz195 fk195 bp195_0_1 rfl rfl) ?_
  refine r_y rfl rfl (y_bld rfl tz195 fk195 bp195_0_1 rfl rfl) ?_
  refine r_y rfl rfl (y_bld rfl tz195 fk195 bp195_0_1 rfl rfl) ?_
  refine r_y rfl rfl (y_bld rfl tz195 fk195 bp195_0_1 rfl rfl) ?_
  refine r_y rfl rfl (y_bld rfl tz195 fk195 bp195_0_1 rfl rfl) ?_
  refine r_y rfl rfl (y_bld rfl tz195 fk195 bp195_0_1 rfl rfl) ?_
  refine r_y rfl rfl (y_bld rfl tz195 fk195 bp195_0_1 rfl rfl) ?_
  refine r_y rfl rfl (y_bld rfl tz195 fk195 bp195_0_1 rfl rfl) ?_
  refine r_y rfl rfl (y_bld rfl tz195 fk195 bp195_0_1 rfl rfl) ?_
  refine r_y rfl rfl (y_bld rfl tz195 fk195 bp195_0_1 rfl rfl) ?_
  refine r_y rfl rfl (y_bld rfl tz196 fk196 bp196_0_1_2_3_4_5_6_7_8_9_10_11 rfl rfl) ?_
  refine r_s rfl ?_
  refine s_store rfl rfl rfl ts196 rfl rfl (by simp [Value.oneCell', wv, Sl.v]) (i := 0) rfl rfl ?_
  refine r_nil ?_
  refine hK1 _ _ _ ?_
  clear hK1 K1
  refine c_ret ?_
  refine e_ret 1 hm (res_cell_a rfl ts196 (RdA.blk (i := 0) rfl rfl)) ?_
  exact ⟨rfl, rfl⟩
set_option maxRecDepth 100000 in
theorem Size_ok (n : Int) (m : Snap) (H : Hp) : Fn Try.prog 166 [.int .i64 n] m H (fun v _ H' => v = .int .i64 (hsz n : Nat) ∧ H' = H) := by
  have hm : m.le m := Snap.le.refl m
  refine fn_end Try.func166 rfl rfl rfl ?_
  refine c_seq (fun K0 hK0 => ?_)
  refine c_region ?_
  refine r_y rfl rfl (y_assign rfl) ?_
  refine r_nil ?_
  refine hK0 _ _ _ ?_
  clear hK0 K0
  refine c_seq (fun K1 hK1 => ?_)
  refine c_seq (fun K2 hK2 => ?_)
  refine c_region ?_
  refine r_y rfl rfl (y_move rfl) ?_
  refine r_s rfl ?_
  refine s_call0 rfl Try.call167 rfl (there_ok _ _ _) ?_
  rintro _ m2 _ hm2 ⟨rfl, rfl⟩
  replace hm := hm.trans hm2
  clear hm2
  refine r_y rfl rfl (y_not rfl) ?_
  refine r_nil ?_
  refine hK2 _ _ _ ?_
  clear hK2 K2
  refine c_cond rfl (fun h0 => ?_) (fun h0 => ?_)
  ·
    refine c_seq (fun K3 hK3 => ?_)
    refine c_region ?_
    refine r_y rfl rfl (y_assign rfl) ?_
    refine r_nil ?_
    refine hK3 _ _ _ ?_
    clear hK3 K3
    refine c_ret ?_
    refine e_ret 0 hm (res_tmps rfl) ?_
    refine ⟨?_, rfl⟩
    first | (simp_all [hsz]; done) | (rw [hsz_nat (by omega)])
  ·
    obtain ⟨k, hk, rfl⟩ := there_spec h0
    refine c_skip ?_
    refine hK1 _ _ _ ?_
    clear hK1 K1
    refine c_seq (fun K4 hK4 => ?_)
    refine c_region ?_
    refine r_s rfl ?_
    refine s_call0 rfl Try.call180 rfl (fields_ok _ _) ?_
    rintro _ m2 _ hm2 ⟨rfl, rfl⟩
    replace hm := hm.trans hm2
    clear hm2
    refine r_y rfl rfl (y_move rfl) ?_
    refine r_y rfl rfl (y_index_arr_a rfl rfl ta196 (by omega) (csub_fields k (by omega))) ?_
    refine r_y rfl rfl (y_fld_s rfl fs195_1 rfl) ?_
    refine r_y rfl rfl (y_assign rfl) ?_
    refine r_nil ?_
    refine hK4 _ _ _ ?_
    clear hK4 K4
    refine c_ret ?_
    refine e_ret 0 hm (res_tmps rfl) ?_
    refine ⟨?_, rfl⟩
    first | (simp_all [hsz]; done) | (rw [hsz_nat (by omega)])
set_option maxRecDepth 100000 in
theorem fits_ok (n : Int) (x : W) (m : Snap) (H : Hp) : Fn Try.prog 154 [.int .i64 n, wv x] m H (fun v _ H' => v = .bool (fits n x) ∧ H' = H) := by
  have hm : m.le m := Snap.le.refl m
  refine fn_end Try.func154 rfl rfl rfl ?_
  refine c_seq (fun K0 hK0 => ?_)
  refine c_region ?_
  refine r_y rfl rfl (y_assign rfl) ?_
  refine r_nil ?_
  refine hK0 _ _ _ ?_
  clear hK0 K0
  refine c_seq (fun K1 hK1 => ?_)
  refine c_region ?_
  refine r_y rfl rfl (y_move rfl) ?_
  refine r_y rfl rfl (y_move rfl) ?_
  refine r_s rfl ?_
  refine s_call0 rfl Try.call166 rfl (Size_ok _ _ _) ?_
  rintro _ m2 _ hm2 ⟨rfl, rfl⟩
  replace hm := hm.trans hm2
  clear hm2
  refine r_y rfl rfl (y_wshr rfl rfl) ?_
  refine r_y rfl rfl (y_wop rfl (opv_wc 0#64) rfl) ?_
  refine r_y rfl rfl (y_assign rfl) ?_
  refine r_nil ?_
  refine hK1 _ _ _ ?_
  clear hK1 K1
  refine c_ret ?_
  refine e_ret 0 hm (res_tmps rfl) ?_
  exact ⟨rfl, rfl⟩
set_option maxRecDepth 100000 in
theorem headSound_ok (h : Head) (m : Snap) (H : Hp) : Fn Try.prog 127 [.agg (encHead h).toArray] m H (fun v _ H' => v = .bool (headSound h) ∧ H' = H) := by
  have hm : m.le m := Snap.le.refl m
  refine fn_end Try.func127 rfl rfl rfl ?_
  refine c_seq (fun K0 hK0 => ?_)
  refine c_region ?_
  refine r_s rfl ?_
  refine s_box_a rfl rfl (fun b0 => ?_)
  refine r_y rfl rfl (y_assign rfl) ?_
  refine r_nil ?_
  refine hK0 _ _ _ ?_
  clear hK0 K0
  refine c_seq (fun K1 hK1 => ?_)
  refine c_seq (fun K2 hK2 => ?_)
  refine c_region ?_
  refine r_y rfl rfl (y_load_a (cs := encHead h) rfl ts27 (RdA.blk (i := 0) rfl rfl)) ?_
  refine r_y rfl rfl (y_move rfl) ?_
  refine r_nil ?_
  refine hK2 _ _ _ ?_
  clear hK2 K2
  refine c_block ?_
  refine c_loopx (α := Nat) (fun i => [(5, .agg (encHead h).toArray), (6, .int .i64 (i : Nat))]) (fun i => .blk b0 (.cells (encHead h).toArray 27) :: H) (fun k0 i m1 => (i + k0 = 12 ∧ (List.range i).all (fun i => fits (i : Int) (h.at i)) = true) ∧ m.le m1) (12) 0 ⟨rfl, rfl, trivial⟩ rfl ⟨⟨by omega, rfl⟩, hm⟩ ?_
  clear hm
  rintro k0 i m1 ⟨hi0, hm⟩
  obtain ⟨hi, hinv⟩ := hi0
  refine c_seq (fun K3 hK3 => ?_)
  refine c_region ?_
  refine r_y rfl rfl (y_iop rfl rfl rfl) ?_
  refine r_nil ?_
  refine hK3 _ _ _ ?_
  clear hK3 K3
  refine c_seq (fun K4 hK4 => ?_)
  refine c_cond rfl (fun h0 => ?_) (fun h0 => ?_)
  ·
    have hlt : i < 12 := by simp at h0; omega
    refine c_skip ?_
    refine hK4 _ _ _ ?_
    clear hK4 K4
    refine c_seq (fun K5 hK5 => ?_)
    refine c_block ?_
    refine c_seq (fun K6 hK6 => ?_)
    refine c_region ?_
    refine r_y rfl rfl (y_move rfl) ?_
    refine r_y rfl rfl (y_index_arr rfl rfl ta27 hlt (cget_head _ _ hlt)) ?_
    refine r_y rfl rfl (y_assign rfl) ?_
    refine r_y rfl rfl (y_assign rfl) ?_
    refine r_nil ?_
    refine hK6 _ _ _ ?_
    clear hK6 K6
    refine c_seq (fun K7 hK7 => ?_)
    refine c_region ?_
    refine r_y rfl rfl (y_move rfl) ?_
    refine r_y rfl rfl (y_move rfl) ?_
    refine r_s rfl ?_
    refine s_call0 rfl Try.call154 rfl (fits_ok _ _ _ _) ?_
    rintro _ m2 _ hm2 ⟨rfl, rfl⟩
    replace hm := hm.trans hm2
    clear hm2
    refine r_y rfl rfl (y_not rfl) ?_
    refine r_nil ?_
    refine hK7 _ _ _ ?_
    clear hK7 K7
    refine c_cond rfl (fun h1 => ?_) (fun h1 => ?_)
    ·
      refine c_seq (fun K8 hK8 => ?_)
      refine c_region ?_
      refine r_y rfl rfl (y_assign rfl) ?_
      refine r_nil ?_
      refine hK8 _ _ _ ?_
      clear hK8 K8
      refine c_ret ?_
      refine e_ret 1 hm (res_tmps rfl) ?_
      exact ⟨congrArg Value.bool (all_range_false (by simpa using h1) hlt).symm, rfl⟩
    ·
      refine c_skip ?_
      refine hK5 _ _ _ ?_
      clear hK5 K5
      refine c_region ?_
      first | refine r_y rfl rfl (y_inc rfl (by omega)) ?_ | refine r_y rfl rfl (y_iop rfl rfl rfl) ?_
      refine r_y rfl rfl (y_move rfl) ?_
      refine r_nil ?_
      exact ⟨k0 - 1, (i + 1), by omega, ⟨rfl, rfl, trivial⟩, rfl, ⟨by omega, by rw [all_range_succ, hinv]; simpa using h1⟩, hm⟩
  ·
    refine c_exit ?_
    refine hK1 _ _ _ ?_
    clear hK4 K4 hK1 K1
    refine c_seq (fun K9 hK9 => ?_)
    refine c_region ?_
    refine r_y rfl rfl (y_assign rfl) ?_
    refine r_nil ?_
    refine hK9 _ _ _ ?_
    clear hK9 K9
    refine c_ret ?_
    refine e_ret 1 hm (res_tmps rfl) ?_
    obtain rfl : i = 12 := by simp at h0; omega
    exact ⟨congrArg Value.bool (by rw [headSound, hinv]), rfl⟩
set_option maxRecDepth 100000 in
theorem cubeSound_ok (c : Cube) (m : Snap) (H : Hp) : Fn Try.prog 90 [.agg (encCube c).toArray] m H (fun v _ H' => v = .bool (cubeSound c) ∧ H' = H) := by
  have hm : m.le m := Snap.le.refl m
  refine fn_end Try.func90 rfl rfl rfl ?_
  refine c_seq (fun K0 hK0 => ?_)
  refine c_region ?_
  refine r_s rfl ?_
  refine s_box_a rfl rfl (fun b0 => ?_)
  refine r_y rfl rfl (y_assign rfl) ?_
  refine r_nil ?_
  refine hK0 _ _ _ ?_
  clear hK0 K0
  refine c_seq (fun K1 hK1 => ?_)
  refine c_seq (fun K2 hK2 => ?_)
  refine c_region ?_
  refine r_y rfl rfl (y_fieldAddr rfl At.lit fo29_1 rfl) ?_
  refine r_y rfl rfl (y_load_a (cs := encHead c.care) rfl ts27 (RdA.blk (i := 0) rfl rfl)) ?_
  refine r_s rfl ?_
  refine s_call0 rfl Try.call127 rfl (headSound_ok c.care _ _) ?_
  rintro _ m2 _ hm2 ⟨rfl, rfl⟩
  replace hm := hm.trans hm2
  clear hm2
  refine r_y rfl rfl (y_not rfl) ?_
  refine r_nil ?_
  refine hK2 _ _ _ ?_
  clear hK2 K2
  refine c_cond rfl (fun h0 => ?_) (fun h0 => ?_)
  ·
    refine c_seq (fun K3 hK3 => ?_)
    refine c_region ?_
    refine r_y rfl rfl (y_assign rfl) ?_
    refine r_nil ?_
    refine hK3 _ _ _ ?_
    clear hK3 K3
    refine c_ret ?_
    refine e_ret 1 hm (res_tmps rfl) ?_
    exact ⟨congrArg Value.bool (by simp_all [cubeSound]), rfl⟩
  ·
    refine c_skip ?_
    refine hK1 _ _ _ ?_
    clear hK1 K1
    refine c_seq (fun K4 hK4 => ?_)
    refine c_seq (fun K5 hK5 => ?_)
    refine c_region ?_
    refine r_y rfl rfl (y_fieldAddr rfl At.lit fo29_0 rfl) ?_
    refine r_y rfl rfl (y_load_a (cs := encHead c.value) rfl ts27 (RdA.blk (i := 0) rfl rfl)) ?_
    refine r_y rfl rfl (y_move rfl) ?_
    refine r_nil ?_
    refine hK5 _ _ _ ?_
    clear hK5 K5
    refine c_block ?_
    refine c_loopx (α := Nat) (fun i => [(1, .pointer (some ⟨b0, 0, none⟩)), (10, .agg (encHead c.value).toArray), (11, .int .i64 (i : Nat))]) (fun i => .blk b0 (.cells (encCube c).toArray 29) :: H) (fun k0 i m1 => (i + k0 = 12 ∧ (List.range i).all (fun i => (c.value.at i &&& ~~~(c.care.at i)) == 0) = true) ∧ m.le m1) (12) 0 ⟨rfl, rfl, rfl, trivial⟩ rfl ⟨⟨by omega, rfl⟩, hm⟩ ?_
    clear hm
    rintro k0 i m1 ⟨hi0, hm⟩
    obtain ⟨hi, hinv⟩ := hi0
    refine c_seq (fun K6 hK6 => ?_)
    refine c_region ?_
    refine r_y rfl rfl (y_iop rfl rfl rfl) ?_
    refine r_nil ?_
    refine hK6 _ _ _ ?_
    clear hK6 K6
    refine c_seq (fun K7 hK7 => ?_)
    refine c_cond rfl (fun h1 => ?_) (fun h1 => ?_)
    ·
      have hlt : i < 12 := by simp at h1; omega
      refine c_skip ?_
      refine hK7 _ _ _ ?_
      clear hK7 K7
      refine c_seq (fun K8 hK8 => ?_)
      refine c_block ?_
      refine c_seq (fun K9 hK9 => ?_)
      refine c_region ?_
      refine r_y rfl rfl (y_move rfl) ?_
      refine r_y rfl rfl (y_index_arr rfl rfl ta27 hlt (cget_head _ _ hlt)) ?_
      refine r_y rfl rfl (y_assign rfl) ?_
      refine r_y rfl rfl (y_assign rfl) ?_
      refine r_nil ?_
      refine hK9 _ _ _ ?_
      clear hK9 K9
      refine c_seq (fun K10 hK10 => ?_)
      refine c_region ?_
      refine r_y rfl rfl (y_move rfl) ?_
      refine r_y rfl rfl (y_move rfl) ?_
      refine r_y rfl rfl (y_fieldAddr rfl At.lit fo29_1 rfl) ?_
      refine r_y rfl rfl (y_indexAddr_arr rfl rfl ta27 hlt At.lit) ?_
      refine r_y rfl rfl (y_load_s rfl ts25 (RdS.blk (i := 0) rfl (cget_care _ _ hlt))) ?_
      refine r_y rfl rfl (y_wop rfl rfl rfl) ?_
      refine r_y rfl rfl (y_wop rfl (opv_wc 0#64) rfl) ?_
      refine r_nil ?_
      refine hK10 _ _ _ ?_
      clear hK10 K10
      refine c_cond rfl (fun h2 => ?_) (fun h2 => ?_)
      ·
        refine c_seq (fun K11 hK11 => ?_)
        refine c_region ?_
        refine r_y rfl rfl (y_assign rfl) ?_
        refine r_nil ?_
        refine hK11 _ _ _ ?_
        clear hK11 K11
        refine c_ret ?_
        refine e_ret 1 hm (res_tmps rfl) ?_
        exact ⟨congrArg Value.bool (by rw [cubeSound, all_range_false (by simpa using h2) hlt]; simp), rfl⟩
      ·
        refine c_skip ?_
        refine hK8 _ _ _ ?_
        clear hK8 K8
        refine c_region ?_
        first | refine r_y rfl rfl (y_inc rfl (by omega)) ?_ | refine r_y rfl rfl (y_iop rfl rfl rfl) ?_
        refine r_y rfl rfl (y_move rfl) ?_
        refine r_nil ?_
        exact ⟨k0 - 1, (i + 1), by omega, ⟨rfl, rfl, rfl, trivial⟩, rfl, ⟨by omega, by rw [all_range_succ, hinv]; simpa using h2⟩, hm⟩
    ·
      refine c_exit ?_
      refine hK4 _ _ _ ?_
      clear hK7 K7 hK4 K4
      refine c_seq (fun K12 hK12 => ?_)
      refine c_region ?_
      refine r_y rfl rfl (y_assign rfl) ?_
      refine r_nil ?_
      refine hK12 _ _ _ ?_
      clear hK12 K12
      refine c_ret ?_
      refine e_ret 1 hm (res_tmps rfl) ?_
      obtain rfl : i = 12 := by simp at h1; omega
      exact ⟨congrArg Value.bool (by simp at h0; rw [cubeSound, hinv, h0]; rfl), rfl⟩
end Go.Aw
namespace Go.Aw
open Go Go.Proofs
def i64R (n : Int) : Prop := -9223372036854775808 ≤ n ∧ n ≤ 9223372036854775807
theorem w_of_wf {n : Int} (h : (Lit.int .u64 n).wf = true) : ∃ y : W, Value.int .u64 n = wv y := by
  have := bounds_u64 h
  refine ⟨BitVec.ofInt 64 n, ?_⟩
  unfold wv
  congr 1
  rw [BitVec.toNat_ofInt]
  omega
theorem drop_split (cs : List Value) (a b : Nat) : (cs.drop a).take b ++ cs.drop (a + b) = cs.drop a := by
  rw [← List.drop_drop]; exact List.take_append_drop _ _
theorem rows_map {α : Type} {f : α → List Value} {p : α → Prop} : ∀ {rows : List (List Value)}, (∀ r ∈ rows, ∃ x, r = f x ∧ p x) → ∃ l : List α, rows = l.map f ∧ ∀ x ∈ l, p x
  | [], _ => ⟨[], rfl, fun _ h => (by cases h)⟩
  | r :: rows, h => by
    obtain ⟨x, rfl, hx⟩ := h r (by simp)
    obtain ⟨l, rfl, hl⟩ := rows_map (rows := rows) fun r hr => h r (by simp [hr])
    exact ⟨x :: l, rfl, fun y hy => by rcases List.mem_cons.1 hy with rfl | hy <;> simp_all⟩
theorem c3 : Try.prog.cellsOf 3 = 1 := by kernel_rfl
theorem c4 : Try.prog.cellsOf 4 = 1 := by kernel_rfl
theorem c24 : Try.prog.cellsOf 24 = 1 := by kernel_rfl
theorem c25 : Try.prog.cellsOf 25 = 1 := by kernel_rfl
theorem c27 : Try.prog.cellsOf 27 = 12 := by kernel_rfl
theorem c29 : Try.prog.cellsOf 29 = 24 := by kernel_rfl
theorem c30 : Try.prog.cellsOf 30 = 1 := by kernel_rfl
theorem c32 : Try.prog.cellsOf 32 = 31 := by kernel_rfl
theorem c33 : Try.prog.cellsOf 33 = 1 := by kernel_rfl
theorem c35 : Try.prog.cellsOf 35 = 48 := by kernel_rfl
theorem c50 : Try.prog.cellsOf 50 = 32 := by kernel_rfl
theorem c53 : Try.prog.cellsOf 53 = 4 := by kernel_rfl
section
variable {H : Type} {enc : TypeId × Value → H} {w : World} {cs : List Value}
theorem op_int (h : Tr enc Try.prog w 3 cs) : ∃ n, cs = [i64 n] ∧ i64R n := by
  obtain ⟨n, h1, h2⟩ := h.int Try.underlying3
  exact ⟨n, h1, bounds_i64 h2⟩
theorem op_errno (h : Tr enc Try.prog w 24 cs) : ∃ n, cs = [i64 n] ∧ i64R n := by
  obtain ⟨n, h1, h2⟩ := h.int Try.underlying24
  exact ⟨n, h1, bounds_i64 h2⟩
theorem op_word (h : Tr enc Try.prog w 25 cs) : ∃ y : W, cs = [wv y] := by
  obtain ⟨n, h1, h2⟩ := h.int Try.underlying25
  obtain ⟨y, hy⟩ := w_of_wf h2
  exact ⟨y, by rw [h1, hy]⟩
theorem op_head (h : Tr enc Try.prog w 27 cs) : ∃ x : Head, cs = encHead x := by
  obtain ⟨hl, hf⟩ := h.array Try.underlying27 (n := 12) (k := 1) c25 c27
  obtain ⟨f, hf'⟩ := Deep.choose_lt (α := W) (n := 12) (p := fun i y => cs[i]? = some (wv y)) (fun i hi => by
    obtain ⟨y, hy⟩ := op_word (hf i hi)
    refine ⟨y, ?_⟩
    have := congrArg (·[0]?) hy
    simp only [Nat.mul_one] at this
    rw [List.getElem?_take_of_lt (by decide), List.getElem?_drop] at this
    simpa using this)
  refine ⟨fun k => f k.val, ?_⟩
  apply List.ext_getElem?
  intro i
  by_cases hi : i < 12
  · rw [hf' i hi]
    match i, hi with
    | 0, _ | 1, _ | 2, _ | 3, _ | 4, _ | 5, _ | 6, _ | 7, _ | 8, _ | 9, _ | 10, _ | 11, _ => rfl
  · rw [List.getElem?_eq_none (by omega), List.getElem?_eq_none (by simp [encHead]; omega)]
theorem op_cube (h : Tr enc Try.prog w 29 cs) : ∃ x : Cube, cs = encCube x := by
  obtain ⟨hl, hf⟩ := h.struct Try.underlying29 (n := 24) c29
  have h0 : Tr enc Try.prog w 27 ((cs.drop 0).take (Try.prog.cellsOf 27)) := hf 0 _ rfl
  have h1 : Tr enc Try.prog w 27 ((cs.drop 12).take (Try.prog.cellsOf 27)) := hf 1 _ rfl
  rw [c27] at h0 h1
  obtain ⟨x, hx⟩ := op_head h0
  obtain ⟨y, hy⟩ := op_head h1
  refine ⟨⟨x, y⟩, ?_⟩
  have e : cs.drop 0 = (cs.drop 0).take 12 ++ ((cs.drop 12).take 12 ++ cs.drop 24) := by rw [drop_split cs 12 12, drop_split cs 0 12]
  rw [hx, hy, List.drop_eq_nil_of_le (by omega : cs.length ≤ 24)] at e
  simpa [encCube] using e
def ActR (a : ActD) : Prop := i64R a.kind ∧ i64R a.port ∧ i64R a.field
theorem op_act (h : Tr enc Try.prog w 53 cs) : ∃ a, cs = encAct a ∧ ActR a := by
  obtain ⟨hl, hf⟩ := h.struct Try.underlying53 (n := 4) c53
  have h0 : Tr enc Try.prog w 3 ((cs.drop 0).take (Try.prog.cellsOf 3)) := hf 0 _ rfl
  have h1 : Tr enc Try.prog w 3 ((cs.drop 1).take (Try.prog.cellsOf 3)) := hf 1 _ rfl
  have h2 : Tr enc Try.prog w 3 ((cs.drop 2).take (Try.prog.cellsOf 3)) := hf 2 _ rfl
  have h3 : Tr enc Try.prog w 25 ((cs.drop 3).take (Try.prog.cellsOf 25)) := hf 3 _ rfl
  rw [c3] at h0 h1 h2
  rw [c25] at h3
  obtain ⟨n0, e0, r0⟩ := op_int h0
  obtain ⟨n1, e1, r1⟩ := op_int h1
  obtain ⟨n2, e2, r2⟩ := op_int h2
  obtain ⟨y, e3⟩ := op_word h3
  refine ⟨⟨n0, n1, n2, y⟩, ?_, r0, r1, r2⟩
  have e : cs.drop 0 = (cs.drop 0).take 1 ++ ((cs.drop 1).take 1 ++ ((cs.drop 2).take 1 ++ ((cs.drop 3).take 1 ++ cs.drop 4))) := by rw [drop_split cs 3 1, drop_split cs 2 1, drop_split cs 1 1, drop_split cs 0 1]
  rw [e0, e1, e2, e3, List.drop_eq_nil_of_le (by omega : cs.length ≤ 4)] at e
  simpa [encAct] using e
theorem op_acts (h : Tr enc Try.prog w 30 cs) : ∃ (s : Sl) (l : List ActD), cs = [s.v] ∧ s.ok ∧ FzA (snapOf w) s l ∧ ∀ a ∈ l, ActR a := by
  obtain ⟨s, rows, h1, h2, h3, h4⟩ := h.slice Try.underlying30 (k := 4) c53 (by decide)
  obtain ⟨l, rfl, hl⟩ := rows_map (f := encAct) (p := ActR) fun r hr => op_act (h4 r hr)
  exact ⟨s, l, h1, h2, h3, hl⟩
structure RuleR (r : RuleD) : Prop where
  prio : i64R r.prio
  idle : i64R r.idle
  hard : i64R r.hard
  owner : i64R r.owner
  hits : i64R r.hits
  quiet : i64R r.quiet
  age : i64R r.age
  acts : ∀ a ∈ r.acts, ActR a
theorem RuleR.i {r : RuleD} (h : RuleR r) : RuleI r := by
  have h1 := h.hits.2; have h2 := h.quiet.2; have h3 := h.age.2
  exact ⟨by omega, by omega, by omega⟩
theorem op_rule (h : Tr enc Try.prog w 50 cs) : ∃ (p : RuleD × Sl), cs = encRule p.1 p.2 ∧ p.2.ok ∧ FzA (snapOf w) p.2 p.1.acts ∧ RuleR p.1 := by
  obtain ⟨hl, hf⟩ := h.struct Try.underlying50 (n := 32) c50
  have h0 : Tr enc Try.prog w 29 ((cs.drop 0).take (Try.prog.cellsOf 29)) := hf 0 _ rfl
  have h1 : Tr enc Try.prog w 3 ((cs.drop 24).take (Try.prog.cellsOf 3)) := hf 1 _ rfl
  have h2 : Tr enc Try.prog w 30 ((cs.drop 25).take (Try.prog.cellsOf 30)) := hf 2 _ rfl
  have h3 : Tr enc Try.prog w 3 ((cs.drop 26).take (Try.prog.cellsOf 3)) := hf 3 _ rfl
  have h4 : Tr enc Try.prog w 3 ((cs.drop 27).take (Try.prog.cellsOf 3)) := hf 4 _ rfl
  have h5 : Tr enc Try.prog w 3 ((cs.drop 28).take (Try.prog.cellsOf 3)) := hf 5 _ rfl
  have h6 : Tr enc Try.prog w 3 ((cs.drop 29).take (Try.prog.cellsOf 3)) := hf 6 _ rfl
  have h7 : Tr enc Try.prog w 3 ((cs.drop 30).take (Try.prog.cellsOf 3)) := hf 7 _ rfl
  have h8 : Tr enc Try.prog w 3 ((cs.drop 31).take (Try.prog.cellsOf 3)) := hf 8 _ rfl
  rw [c3] at h1 h3 h4 h5 h6 h7 h8
  rw [c29] at h0
  rw [c30] at h2
  obtain ⟨x, e0⟩ := op_cube h0
  obtain ⟨n1, e1, r1⟩ := op_int h1
  obtain ⟨s, l, e2, hok, hz, hr⟩ := op_acts h2
  obtain ⟨n3, e3, r3⟩ := op_int h3
  obtain ⟨n4, e4, r4⟩ := op_int h4
  obtain ⟨n5, e5, r5⟩ := op_int h5
  obtain ⟨n6, e6, r6⟩ := op_int h6
  obtain ⟨n7, e7, r7⟩ := op_int h7
  obtain ⟨n8, e8, r8⟩ := op_int h8
  refine ⟨(⟨x, n1, l, n3, n4, n5, n6, n7, n8⟩, s), ?_, hok, hz, ⟨r1, r3, r4, r5, r6, r7, r8, hr⟩⟩
  have e : cs.drop 0 = (cs.drop 0).take 24 ++ ((cs.drop 24).take 1 ++ ((cs.drop 25).take 1 ++ ((cs.drop 26).take 1 ++ ((cs.drop 27).take 1 ++ ((cs.drop 28).take 1 ++ ((cs.drop 29).take 1 ++ ((cs.drop 30).take 1 ++ ((cs.drop 31).take 1 ++ cs.drop 32)))))))) := by
    rw [drop_split cs 31 1, drop_split cs 30 1, drop_split cs 29 1, drop_split cs 28 1, drop_split cs 27 1, drop_split cs 26 1, drop_split cs 25 1, drop_split cs 24 1, drop_split cs 0 24]
  rw [e0, e1, e2, e3, e4, e5, e6, e7, e8, List.drop_eq_nil_of_le (by omega : cs.length ≤ 32)] at e
  simpa [encRule] using e
theorem op_rules (h : Tr enc Try.prog w 33 cs) : ∃ (s : Sl) (lr : List (RuleD × Sl)), cs = [s.v] ∧ s.ok ∧ FzR (snapOf w) s lr ∧ ∀ p ∈ lr, RuleR p.1 := by
  obtain ⟨s, rows, h1, h2, h3, h4⟩ := h.slice Try.underlying33 (k := 32) c50 (by decide)
  obtain ⟨l, rfl, hl⟩ := rows_map (f := fun p : RuleD × Sl => encRule p.1 p.2) (p := fun p => p.2.ok ∧ FzA (snapOf w) p.2 p.1.acts ∧ RuleR p.1) fun r hr => op_rule (h4 r hr)
  exact ⟨s, l, h1, h2, ⟨h3, fun p hp => ⟨(hl p hp).2.1, (hl p hp).1⟩⟩, fun p hp => (hl p hp).2.2⟩
structure ModR (r : ModD) : Prop where
  kind : i64R r.kind
  prio : i64R r.prio
  idle : i64R r.idle
  hard : i64R r.hard
  owner : i64R r.owner
  acts : ∀ a ∈ r.acts, ActR a
theorem op_mod (h : Tr enc Try.prog w 32 cs) : ∃ (p : ModD × Sl), cs = encMod p.1 p.2 ∧ p.2.ok ∧ FzA (snapOf w) p.2 p.1.acts ∧ ModR p.1 := by
  obtain ⟨hl, hf⟩ := h.struct Try.underlying32 (n := 31) c32
  have h0 : Tr enc Try.prog w 3 ((cs.drop 0).take (Try.prog.cellsOf 3)) := hf 0 _ rfl
  have h1 : Tr enc Try.prog w 29 ((cs.drop 1).take (Try.prog.cellsOf 29)) := hf 1 _ rfl
  have h2 : Tr enc Try.prog w 3 ((cs.drop 25).take (Try.prog.cellsOf 3)) := hf 2 _ rfl
  have h3 : Tr enc Try.prog w 30 ((cs.drop 26).take (Try.prog.cellsOf 30)) := hf 3 _ rfl
  have h4 : Tr enc Try.prog w 3 ((cs.drop 27).take (Try.prog.cellsOf 3)) := hf 4 _ rfl
  have h5 : Tr enc Try.prog w 3 ((cs.drop 28).take (Try.prog.cellsOf 3)) := hf 5 _ rfl
  have h6 : Tr enc Try.prog w 3 ((cs.drop 29).take (Try.prog.cellsOf 3)) := hf 6 _ rfl
  have h7 : Tr enc Try.prog w 4 ((cs.drop 30).take (Try.prog.cellsOf 4)) := hf 7 _ rfl
  rw [c3] at h0 h2 h4 h5 h6
  rw [c29] at h1
  rw [c30] at h3
  rw [c4] at h7
  obtain ⟨n0, e0, r0⟩ := op_int h0
  obtain ⟨x, e1⟩ := op_cube h1
  obtain ⟨n2, e2, r2⟩ := op_int h2
  obtain ⟨s, l, e3, hok, hz, hr⟩ := op_acts h3
  obtain ⟨n4, e4, r4⟩ := op_int h4
  obtain ⟨n5, e5, r5⟩ := op_int h5
  obtain ⟨n6, e6, r6⟩ := op_int h6
  obtain ⟨b, e7⟩ := h7.bool Try.underlying4
  refine ⟨(⟨n0, x, n2, l, n4, n5, n6, b⟩, s), ?_, hok, hz, ⟨r0, r2, r4, r5, r6, hr⟩⟩
  have e : cs.drop 0 = (cs.drop 0).take 1 ++ ((cs.drop 1).take 24 ++ ((cs.drop 25).take 1 ++ ((cs.drop 26).take 1 ++ ((cs.drop 27).take 1 ++ ((cs.drop 28).take 1 ++ ((cs.drop 29).take 1 ++ ((cs.drop 30).take 1 ++ cs.drop 31))))))) := by
    rw [drop_split cs 30 1, drop_split cs 29 1, drop_split cs 28 1, drop_split cs 27 1, drop_split cs 26 1, drop_split cs 25 1, drop_split cs 1 24, drop_split cs 0 1]
  rw [e0, e1, e2, e3, e4, e5, e6, e7, List.drop_eq_nil_of_le (by omega : cs.length ≤ 31)] at e
  simpa [encMod] using e
structure MsgR (x : MsgD) : Prop where
  kind : i64R x.kind
  txn : i64R x.txn
  e : i64R x.e
  port : i64R x.port
  mod : ModR x.mod
  rules : ∀ r ∈ x.rules, RuleR r
theorem MsgR.i {x : MsgD} (h : MsgR x) : MsgI x := fun r hr => (h.rules r hr).i
theorem op_msg (h : Tr enc Try.prog w 35 cs) : ∃ (x : MsgD) (sm sr : Sl) (lr : List (RuleD × Sl)), cs = encMsg x sm sr ∧ MsgOk (snapOf w) x sm sr lr ∧ sr.ok ∧ MsgR x := by
  obtain ⟨hl, hf⟩ := h.struct Try.underlying35 (n := 48) c35
  have h0 : Tr enc Try.prog w 3 ((cs.drop 0).take (Try.prog.cellsOf 3)) := hf 0 _ rfl
  have h1 : Tr enc Try.prog w 3 ((cs.drop 1).take (Try.prog.cellsOf 3)) := hf 1 _ rfl
  have h2 : Tr enc Try.prog w 24 ((cs.drop 2).take (Try.prog.cellsOf 24)) := hf 2 _ rfl
  have h3 : Tr enc Try.prog w 32 ((cs.drop 3).take (Try.prog.cellsOf 32)) := hf 3 _ rfl
  have h4 : Tr enc Try.prog w 3 ((cs.drop 34).take (Try.prog.cellsOf 3)) := hf 4 _ rfl
  have h5 : Tr enc Try.prog w 27 ((cs.drop 35).take (Try.prog.cellsOf 27)) := hf 5 _ rfl
  have h6 : Tr enc Try.prog w 33 ((cs.drop 47).take (Try.prog.cellsOf 33)) := hf 6 _ rfl
  rw [c3] at h0 h1 h4
  rw [c24] at h2
  rw [c32] at h3
  rw [c27] at h5
  rw [c33] at h6
  obtain ⟨n0, e0, r0⟩ := op_int h0
  obtain ⟨n1, e1, r1⟩ := op_int h1
  obtain ⟨n2, e2, r2⟩ := op_errno h2
  obtain ⟨⟨x, sm⟩, e3, hok, hz, r3⟩ := op_mod h3
  obtain ⟨n4, e4, r4⟩ := op_int h4
  obtain ⟨hd, e5⟩ := op_head h5
  obtain ⟨sr, lr, e6, hokr, hzr, r6⟩ := op_rules h6
  refine ⟨⟨n0, n1, n2, x, n4, hd, lr.map (·.1)⟩, sm, sr, lr, ?_, ⟨hz, hok, hzr, rfl⟩, hokr, ⟨r0, r1, r2, r4, r3, fun r hr => ?_⟩⟩
  · have e : cs.drop 0 = (cs.drop 0).take 1 ++ ((cs.drop 1).take 1 ++ ((cs.drop 2).take 1 ++ ((cs.drop 3).take 31 ++ ((cs.drop 34).take 1 ++ ((cs.drop 35).take 12 ++ ((cs.drop 47).take 1 ++ cs.drop 48)))))) := by
      rw [drop_split cs 47 1, drop_split cs 35 12, drop_split cs 34 1, drop_split cs 3 31, drop_split cs 2 1, drop_split cs 1 1, drop_split cs 0 1]
    rw [e0, e1, e2, e3, e4, e5, e6, List.drop_eq_nil_of_le (by omega : cs.length ≤ 48)] at e
    simpa [encMsg] using e
  · obtain ⟨p, hp, rfl⟩ := List.mem_map.1 hr
    exact r6 p hp
end
end Go.Aw
namespace Go.Aw
open Go Go.Proofs Go.RowKit
section
variable {H : Type} {enc : TypeId × Value → H} {w : World} {cs : List Value}
theorem c5 : Try.prog.cellsOf 5 = 1 := by kernel_rfl
theorem agg_of {c : Array Value} {l : List Value} (h : (Value.agg c).cells.toList = l) : Value.agg c = .agg l.toArray := by
  have h' : c.toList = l := h
  rw [← h']
end
theorem walk_of {f : FuncId} {args : List Value} {w : World} (h : Fn Try.prog f args (snapOf w) [] (fun v _ H' => v = .bool true ∧ H' = [])) : Calls Try.prog f args.toArray w fun e w' => e = .returned (.bool true) ∧ Below w.heap.size w w' :=
  (h w (St.start w)).mono fun e w' ⟨v, m', H', h1, h2, h3, h4, _⟩ => ⟨by rw [h1, h4], below_of h2 h3⟩
end Go.Aw
