/- Part 2 of the words and walks that the proof behind it uses. -/
import Derived.Test.YtnmhkhobjaklhaaUndoChangesP1
import Derived.Laws.BytesString
import Derived.Below
import Derived.OpenShut
import Derived.Laws.OwnMore
import Derived.Deep.Slices
import Derived.Test.YtnmhkhobjaklhaaProg
import Derived.KernelRfl
import Derived.Lib.Overlaps
import Derived.Lib.SliceRun
set_option linter.unusedVariables false
set_option linter.unusedSimpArgs false
set_option maxHeartbeats 1000000
namespace Go.Aw
open Go
abbrev i64 (n : Int) : Value := .int .i64 n
theorem wv_beq (a b : W) : ((a.toNat : Int) == (b.toNat : Int)) = (a == b) := by
  rw [Bool.eq_iff_iff, beq_iff_eq, beq_iff_eq, Int.ofNat_inj, BitVec.toNat_inj]
theorem Head.eq_iff (a b : Head) : a = b ↔ (a 0 = b 0 ∧ a 1 = b 1 ∧ a 2 = b 2 ∧ a 3 = b 3 ∧ a 4 = b 4 ∧ a 5 = b 5 ∧ a 6 = b 6 ∧ a 7 = b 7 ∧ a 8 = b 8 ∧ a 9 = b 9 ∧ a 10 = b 10 ∧ a 11 = b 11) := by
  constructor
  · rintro rfl; simp
  · rintro ⟨h0, h1, h2, h3, h4, h5, h6, h7, h8, h9, h10, h11⟩
    funext i
    match i with
    | 0 => exact h0
    | 1 => exact h1
    | 2 => exact h2
    | 3 => exact h3
    | 4 => exact h4
    | 5 => exact h5
    | 6 => exact h6
    | 7 => exact h7
    | 8 => exact h8
    | 9 => exact h9
    | 10 => exact h10
    | 11 => exact h11
instance : DecidableEq Head := fun a b => decidable_of_iff _ (Head.eq_iff a b).symm
theorem alike_head (a b : Head) : alike (encHead a) (encHead b) := by simp [encHead, alike, wv]
theorem ceq_head (a b : Head) : ceq (encHead a) (encHead b) = decide (a = b) := by
  rw [Bool.eq_iff_iff, decide_eq_true_iff, Head.eq_iff]
  simp only [encHead, ceq, wv, wv_beq, Bool.and_true, Bool.and_eq_true, beq_iff_eq]
deriving instance DecidableEq for Cube
theorem alike_append : ∀ {a b c d : List Value}, alike a b → alike c d → alike (a ++ c) (b ++ d)
  | [], [], c, d, _, h => h
  | .int _ _ :: a, .int _ _ :: b, c, d, h, h' => by simp only [alike] at h; simp only [List.cons_append, alike]; exact ⟨h.1, alike_append h.2 h'⟩
theorem ceq_append : ∀ {a b c d : List Value}, alike a b → ceq (a ++ c) (b ++ d) = (ceq a b && ceq c d)
  | [], [], c, d, _ => by simp [ceq]
  | .int _ _ :: a, .int _ _ :: b, c, d, h => by simp only [alike] at h; simp only [List.cons_append, ceq, ceq_append h.2, Bool.and_assoc]
theorem alike_cube (a b : Cube) : alike (encCube a) (encCube b) := alike_append (alike_head _ _) (alike_head _ _)
theorem ceq_cube (a b : Cube) : ceq (encCube a) (encCube b) = decide (a = b) := by
  unfold encCube
  rw [ceq_append (alike_head _ _), ceq_head, ceq_head, Bool.eq_iff_iff]
  cases a; cases b; simp
structure ActD where
  kind : Int
  port : Int
  field : Int
  val : W
deriving DecidableEq
def encAct (a : ActD) : List Value := [i64 a.kind, i64 a.port, i64 a.field, wv a.val]
theorem alike_act (a b : ActD) : alike (encAct a) (encAct b) := by simp [encAct, alike, wv]
theorem ceq_act (a b : ActD) : ceq (encAct a) (encAct b) = decide (a = b) := by
  rw [Bool.eq_iff_iff, decide_eq_true_iff]
  cases a; cases b
  simp only [encAct, ceq, wv, wv_beq, Bool.and_true, Bool.and_eq_true, beq_iff_eq, ActD.mk.injEq]
structure RuleD where
  m : Cube
  prio : Int
  acts : List ActD
  idle : Int
  hard : Int
  owner : Int
  hits : Int
  quiet : Int
  age : Int
deriving DecidableEq
def encRule (r : RuleD) (s : Sl) : List Value := encCube r.m ++ [i64 r.prio, s.v, i64 r.idle, i64 r.hard, i64 r.owner, i64 r.hits, i64 r.quiet, i64 r.age]
structure ModD where
  kind : Int
  m : Cube
  prio : Int
  acts : List ActD
  idle : Int
  hard : Int
  owner : Int
  check : Bool
deriving DecidableEq
def encMod (r : ModD) (s : Sl) : List Value := i64 r.kind :: encCube r.m ++ [i64 r.prio, s.v, i64 r.idle, i64 r.hard, i64 r.owner, .bool r.check]
structure MsgD where
  kind : Int
  txn : Int
  e : Int
  mod : ModD
  port : Int
  head : Head
  rules : List RuleD
deriving DecidableEq
def encMsg (x : MsgD) (sm sr : Sl) : List Value := [i64 x.kind, i64 x.txn, i64 x.e] ++ encMod x.mod sm ++ [i64 x.port] ++ encHead x.head ++ [sr.v]
/-- Actions that lie in memory that stays. -/
abbrev FzA (m : Snap) (s : Sl) (l : List ActD) : Prop := Fz m s.a s.n s.cap 4 (l.map encAct)
theorem Fz.lenA {m : Snap} {s : Sl} {l : List ActD} (h : FzA m s l) : s.n = l.length := by have := h.len; simpa using this.symm
/-- Rules likewise, each with its actions' head. -/
structure FzR (m : Snap) (s : Sl) (l : List (RuleD × Sl)) : Prop where
  fz : Fz m s.a s.n s.cap 32 (l.map fun p => encRule p.1 p.2)
  acts : ∀ p ∈ l, FzA m p.2 p.1.acts ∧ p.2.ok
theorem FzR.mono {m m' : Snap} {s : Sl} {l : List (RuleD × Sl)} (h : FzR m s l) (hm : m.le m') : FzR m' s l := ⟨h.fz.mono hm, fun p hp => ⟨(h.acts p hp).1.mono hm, (h.acts p hp).2⟩⟩
theorem FzR.len {m : Snap} {s : Sl} {l : List (RuleD × Sl)} (h : FzR m s l) : s.n = l.length := by have := h.fz.len; simpa using this.symm
theorem map_get {α β : Type} {f : α → β} {l : List α} {k : Nat} {x : α} (h : l[k]? = some x) : (l.map f)[k]? = some (f x) := by simp [h]
theorem get_of_lt {α : Type} {l : List α} {k : Nat} (h : k < l.length) : ∃ x, l[k]? = some x := ⟨l[k], by simp [h]⟩
theorem one_head (h : Head) : ∀ u ∈ encHead h, u.oneCell' = true := by simp [encHead, wv, Value.oneCell']
theorem one_cube (c : Cube) : ∀ u ∈ encCube c, u.oneCell' = true := by
  intro u hu
  rcases List.mem_append.1 hu with h | h
  · exact one_head _ u h
  · exact one_head _ u h
theorem one_act (a : ActD) : ∀ u ∈ encAct a, u.oneCell' = true := by simp [encAct, wv, Value.oneCell']
theorem one_rule (r : RuleD) (s : Sl) : ∀ u ∈ encRule r s, u.oneCell' = true := by
  intro u hu
  rcases List.mem_append.1 hu with h | h
  · exact one_cube _ u h
  · simp at h; rcases h with rfl | rfl | rfl | rfl | rfl | rfl | rfl | rfl <;> rfl
/-- Where the first one is, or -1. -/
def idxF {α : Type} (p : α → Bool) (l : List α) : Int := match l.findIdx? p with
  | some k => (k : Int)
  | none => -1
theorem idxF_at {α : Type} {p : α → Bool} {l : List α} {i : Nat} {x : α} (h : (l.take i).any p = false) (hx : l[i]? = some x) (hp : p x = true) : idxF p l = (i : Int) := by
  have hlt : i < l.length := (List.getElem?_eq_some_iff.1 hx).1
  have hxe : l[i] = x := (List.getElem?_eq_some_iff.1 hx).2
  have : l.findIdx? p = some i := by
    rw [List.findIdx?_eq_some_iff_getElem]
    refine ⟨hlt, by rw [hxe]; exact hp, fun j hj => ?_⟩
    simp only [List.any_eq_false] at h
    have := h l[j] (by rw [List.mem_take_iff_getElem]; exact ⟨j, by omega, rfl⟩)
    simpa using this
  simp [idxF, this]
theorem idxF_no {α : Type} {p : α → Bool} {l : List α} (h : l.any p = false) : idxF p l = -1 := by
  have : l.findIdx? p = none := by
    rw [List.findIdx?_eq_none_iff]
    simpa using h
  simp [idxF, this]
theorem idxF_nonneg {α : Type} (p : α → Bool) (l : List α) : decide (idxF p l ≥ 0) = l.any p := by
  cases h : l.any p with
  | false => rw [idxF_no h]; rfl
  | true =>
    unfold idxF
    cases hf : l.findIdx? p with
    | none => rw [List.findIdx?_eq_none_iff] at hf; simp at h; obtain ⟨x, hx, hp⟩ := h; simp [hf x hx] at hp
    | some k => simp
theorem any_take_succ {α : Type} {p : α → Bool} {l : List α} {i : Nat} {x : α} (hx : l[i]? = some x) : (l.take (i + 1)).any p = ((l.take i).any p || p x) := by
  rw [List.take_add_one, hx]; simp
def Head.set (h : Head) (k : Nat) (x : W) : Head := fun i => if i = Fin.ofNat 12 k then x else h i
theorem cput_head (h : Head) (k : Nat) (x : W) (hk : k < 12) : cput (encHead h) (0 + k * 1) [wv x] = some (encHead (h.set k x)) := by
  match k, hk with
  | 0, _ | 1, _ | 2, _ | 3, _ | 4, _ | 5, _ | 6, _ | 7, _ | 8, _ | 9, _ | 10, _ | 11, _ => rfl
def zHead : Head := fun _ => 0
def zCube : Cube := ⟨zHead, zHead⟩
def zSl : Sl := ⟨none, 0, 0⟩
def cmpW (a b : W) : Int := if a < b then -1 else if b < a then 1 else 0
def cmpL : List W → List W → Int
  | [], [] => 0
  | [], _ :: _ => -1
  | _ :: _, [] => 1
  | a :: aas, b :: bs => if cmpW a b ≠ 0 then cmpW a b else cmpL aas bs
def headL (h : Head) : List W := [h 0, h 1, h 2, h 3, h 4, h 5, h 6, h 7, h 8, h 9, h 10, h 11]
def headCmp (a b : Head) : Int := cmpL (headL a) (headL b)
def orL (l : List Int) : Int := (l.find? (fun x => x != 0)).getD 0
def cubeCmp (a b : Cube) : Int := orL [headCmp a.care b.care, headCmp a.value b.value]
def ruleCmp (a b : RuleD) : Int := if a.prio ≠ b.prio then (if a.prio > b.prio then -1 else 1) else cubeCmp a.m b.m
def ruleBefore (a b : RuleD) : Bool := decide (ruleCmp a b < 0)
def words1 (l : List W) : List (List Value) := l.map fun x => [wv x]
def ints1 (l : List Int) : List (List Value) := l.map fun x => [i64 x]
theorem flatten_words1 (l : List W) : (words1 l).flatten = l.map wv := by simp [words1, List.flatten_eq_flatMap, List.flatMap_map]; induction l <;> simp_all
theorem drop_cons {α : Type} {l : List α} {i : Nat} {x : α} (h : l[i]? = some x) : l.drop i = x :: l.drop (i + 1) := by
  have hlt := (List.getElem?_eq_some_iff.1 h).1
  rw [List.drop_eq_getElem_cons hlt, (List.getElem?_eq_some_iff.1 h).2]
/-- head.Set: the header, the error. -/
def setF (h : Head) (n : Int) (v : W) : Head × Int := if !there n then (zHead, 1) else if !fits n v then (zHead, 13) else (h.set n.toNat v, 0)
def actSound (a : ActD) : Bool :=
  if a.kind = 1 then decide (a.port ≥ 1) && decide (a.port ≤ 16) && (a.field == 0) && (a.val == 0)
  else if a.kind = 2 then ((setF zHead a.field a.val).2 == 0) && (a.port == 0)
  else decide (a = ⟨3, 0, 0, 0⟩)
def actsSound (l : List ActD) : Bool := decide ((l.length : Int) ≤ 8) && !(l.any fun a => !actSound a)
def span (n m : Int) : Bool := decide (n ≥ 0) && decide (n ≤ m)
def modPlain (m : ModD) : Bool := (m.idle == 0) && (m.hard == 0) && !m.check
def modSound (m : ModD) : Bool :=
  if !cubeSound m.m || !actsSound m.acts || !span m.prio 65535 || !span m.owner 255 then false
  else if m.kind = 1 then span m.idle 1048576 && span m.hard 1048576
  else if m.kind = 2 then modPlain m && (m.prio == 0)
  else if m.kind = 3 then modPlain m && (m.prio == 0) && ((m.acts.length : Int) == 0)
  else if m.kind = 4 then modPlain m
  else if m.kind = 5 then modPlain m && ((m.acts.length : Int) == 0)
  else false
def ruleSound (r : RuleD) : Bool := cubeSound r.m && actsSound r.acts && span r.prio 65535 && span r.idle 1048576 && span r.hard 1048576 && span r.owner 255 && decide (min r.hits (min r.quiet r.age) ≥ 0)
def okAt (l : List RuleD) (i : Nat) : Bool := match l[i]? with
  | some r => ruleSound r && (decide (i = 0) || match l[i - 1]? with
    | some q => ruleBefore q r
    | none => false)
  | none => false
def ruleTable (l : List RuleD) : Bool := (List.range l.length).all (okAt l)
/-- A message that lies in memory that stays. -/
structure MsgOk (m : Snap) (x : MsgD) (sm sr : Sl) (lr : List (RuleD × Sl)) : Prop where
  mod : FzA m sm x.mod.acts
  modok : sm.ok
  rules : FzR m sr lr
  eq : x.rules = lr.map (·.1)
theorem MsgOk.mono {m m' : Snap} {x : MsgD} {sm sr : Sl} {lr : List (RuleD × Sl)} (h : MsgOk m x sm sr lr) (hm : m.le m') : MsgOk m' x sm sr lr := ⟨h.mod.mono hm, h.modok, h.rules.mono hm, h.eq⟩
theorem MsgOk.len {m : Snap} {x : MsgD} {sm sr : Sl} {lr : List (RuleD × Sl)} (h : MsgOk m x sm sr lr) : sr.n = x.rules.length := by rw [h.rules.len, h.eq]; simp
theorem fzA_nil (m : Snap) : FzA m zSl [] := ⟨rfl, fun c h => (by cases h), Nat.le_refl _, Nat.zero_le _, fun k c h => (by simp at h)⟩
theorem fzR_nil (m : Snap) : FzR m zSl [] := ⟨⟨rfl, fun c h => (by cases h), Nat.le_refl _, Nat.zero_le _, fun k c h => (by simp at h)⟩, fun p h => (by cases h)⟩
end Go.Aw
namespace Go.Aw
open Go
def hfront (H : Hp) (i : Nat) : Hp := match hget H i with
  | some it => it :: hdel H i
  | none => H
theorem St.hfront {m : Snap} {H : Hp} {w : World} (i : Nat) (h : St m H w) : St m (hfront H i) w := by
  unfold Go.Aw.hfront
  split
  · rename_i hi; exact h.front hi
  · exact h
def hfronts (H : Hp) : List Nat → Hp
  | [] => H
  | i :: is => hfronts (hfront H i) is
theorem St.hfronts {m : Snap} {w : World} : ∀ {H : Hp} (is : List Nat), St m H w → St m (hfronts H is) w
  | _, [], h => h
  | _, i :: is, h => St.hfronts is (h.hfront i)
section
variable {P : Program} {n : Nat} {L : Slots} {m : Snap} {H : Hp}
theorem e_retf {rs : List ResultVar} {m0 : Snap} {R : Value → Snap → Hp → Prop} {v : Value} (is : List Nat) (k : Nat) (hm : m0.le m) (hv : Res P rs L m H v) (hR : R v m (hdrop (hfronts H is) k)) :
    endQ P rs m0 R .ret L m H := ⟨hm, v, hv, fun _ hs => ⟨m, _, Snap.le.refl m, (hs.hfronts is).hdrop k, hR⟩⟩
theorem wrap_i64_small {n : Int} (h1 : -9223372036854775808 ≤ n) (h2 : n < 9223372036854775808) : IntKind.i64.wrap n = n := by
  simp only [IntKind.wrap, IntKind.bits, IntKind.signed]
  simp
  omega
variable {ops : Array Oper} {d : Option Tmp} {ty : TypeId} {ps : String} {af : Array Edge} {gd : Option (Nat × Bool)}
theorem y_dec' {t t' : TypeId} {x : Operand} {a : Nat} (hx : opv L x = some (.int .i64 (a : Int))) (hb : a ≤ 9223372036854775807) :
    Yl P n L m H ⟨d, .binOp .sub t x (.const (.int .i64 1)) t', ty, ps, af, gd⟩ (.int .i64 ((a : Int) - 1)) :=
  y_iop hx rfl (by
    show some (Value.int .i64 (IntKind.i64.wrap ((a : Int) - 1))) = _
    rw [wrap_i64_small (by omega) (by omega)])
theorem y_decj {t t' : TypeId} {x : Operand} {j : Nat} (hx : opv L x = some (.int .i64 (((j + 1 : Nat) : Int) - 1))) (hb : j ≤ 1152921504606846976) :
    Yl P n L m H ⟨d, .binOp .sub t x (.const (.int .i64 1)) t', ty, ps, af, gd⟩ (.int .i64 ((j : Int) - 1)) :=
  y_iop hx rfl (by
    show some (Value.int .i64 (IntKind.i64.wrap (((j + 1 : Nat) : Int) - 1 - 1))) = _
    rw [wrap_i64_small (by omega) (by omega)]
    congr 2; omega)
end
end Go.Aw
namespace Go.Aw
open Go
def bytes1 (l : List UInt8) : List (List Value) := l.map fun c => [bv c]
abbrev FzB (m : Snap) (s : Sl) (l : List UInt8) : Prop := Fz m s.a s.n s.cap 1 (bytes1 l)
theorem Fz.lenB {m : Snap} {s : Sl} {l : List UInt8} (h : FzB m s l) : s.n = l.length := by have := h.len; simpa [bytes1] using this.symm
theorem bytes1_get {l : List UInt8} {k : Nat} {x : UInt8} (h : l[k]? = some x) : (bytes1 l)[k]? = some [bv x] := by simp [bytes1, h]
def Sl.cut (s : Sl) (lo hi w : Nat) : Sl := ⟨sadd s.a lo w s.cap, hi - lo, s.cap - lo⟩
theorem FzB.cut {m : Snap} {s : Sl} {l : List UInt8} (h : FzB m s l) {lo hi : Nat} (h1 : lo ≤ hi) (h2 : hi ≤ s.n) : FzB m (s.cut lo hi 1) ((l.drop lo).take (hi - lo)) := by
  have e : bytes1 ((l.drop lo).take (hi - lo)) = ((bytes1 l).drop lo).take (hi - lo) := by simp [bytes1, List.map_take, List.map_drop]
  show Fz m _ _ _ 1 (bytes1 _)
  rw [e]
  exact h.slice h1 h2
/-- A reader: its slice, the bytes of it, whether it has ended. -/
structure Rs where
  s : Sl
  l : List UInt8
  e : Bool
def Rs.ok (q : Rs) (m : Snap) : Prop := FzB m q.s q.l
theorem Rs.ok.mono {q : Rs} {m m' : Snap} (h : q.ok m) (hm : m.le m') : q.ok m' := Fz.mono h hm
def AllA (m : Snap) (l : List (RuleD × Sl)) : Prop := ∀ p ∈ l, FzA m p.2 p.1.acts ∧ p.2.ok
theorem AllA.mono {m m' : Snap} {l : List (RuleD × Sl)} (h : AllA m l) (hm : m.le m') : AllA m' l := fun p hp => ⟨(h p hp).1.mono hm, (h p hp).2⟩
theorem AllA.snoc {m : Snap} {l : List (RuleD × Sl)} {x : RuleD} {s : Sl} (h : AllA m l) (hx : FzA m s x.acts) (hs : s.ok) : AllA m (l ++ [(x, s)]) := fun p hp => by
  rcases List.mem_append.1 hp with hp | hp
  · exact h p hp
  · simp at hp; subst hp; exact ⟨hx, hs⟩
end Go.Aw
namespace Go.Aw
open Go
def wput (x : W) : Nat → List UInt8
  | 0 => []
  | k + 1 => UInt8.ofNat (x >>> (8 * k)).toNat :: wput x k
@[simp] theorem wput_len (x : W) : ∀ k, (wput x k).length = k
  | 0 => rfl
  | k + 1 => by simp [wput, wput_len x k]
theorem bytes1_snoc (l : List UInt8) (c : UInt8) : bytes1 (l ++ [c]) = bytes1 l ++ [[bv c]] := by simp [bytes1]
def wputs (k : Nat) : List W → List UInt8
  | [] => []
  | x :: r => wput x k ++ wputs k r
@[simp] theorem wputs_len (k : Nat) : ∀ l, (wputs k l).length = k * l.length
  | [] => rfl
  | x :: r => by simp [wputs, wputs_len k r, Nat.mul_add]; omega
abbrev iw (n : Int) : W := BitVec.ofInt 64 n
def whead (h : Head) : List UInt8 := wputs 8 (headL h)
@[simp] theorem whead_len (h : Head) : (whead h).length = 96 := by simp [whead, headL]
def wmatch (c : Cube) (prio idle hard owner : Int) : List UInt8 := whead c.value ++ whead c.care ++ wput (iw prio) 2 ++ wput (iw idle) 4 ++ wput (iw hard) 4 ++ wput (iw owner) 1
@[simp] theorem wmatch_len (c : Cube) (prio idle hard owner : Int) : (wmatch c prio idle hard owner).length = 203 := by simp [wmatch]
def wact (a : ActD) : List UInt8 := wput (iw a.kind) 1 ++ wput (iw a.port) 1 ++ wput (iw a.field) 1 ++ wput a.val 8
@[simp] theorem wact_len (a : ActD) : (wact a).length = 11 := by simp [wact]
def wactsL : List ActD → List UInt8
  | [] => []
  | a :: r => wact a ++ wactsL r
@[simp] theorem wactsL_len : ∀ l, (wactsL l).length = 11 * l.length
  | [] => rfl
  | a :: r => by simp [wactsL, wactsL_len r]; omega
def wacts (l : List ActD) : List UInt8 := wput (iw (l.length : Nat)) 1 ++ wactsL l
@[simp] theorem wacts_len (l : List ActD) : (wacts l).length = 1 + 11 * l.length := by simp [wacts]
def wmod (m : ModD) : List UInt8 := wput (iw m.kind) 1 ++ wmatch m.m m.prio m.idle m.hard m.owner ++ wput (if m.check then 1 else 0) 1 ++ wacts m.acts
@[simp] theorem wmod_len (m : ModD) : (wmod m).length = 206 + 11 * m.acts.length := by simp [wmod]; omega
def wrule (r : RuleD) : List UInt8 := wmatch r.m r.prio r.idle r.hard r.owner ++ wputs 8 [iw r.hits, iw r.quiet, iw r.age] ++ wacts r.acts
@[simp] theorem wrule_len (r : RuleD) : (wrule r).length = 228 + 11 * r.acts.length := by simp [wrule]; omega
theorem ruleSound_acts {x : RuleD} (h : ruleSound x = true) : x.acts.length ≤ 8 := by
  simp [ruleSound, actsSound] at h
  omega
end Go.Aw
namespace Go.Aw
open Go
def strB (l : List UInt8) : ByteArray := (l.map fun c => (c.toNat : Int)).foldl (fun r n => r.push (UInt8.ofNat n.toNat)) ByteArray.empty
section
variable {P : Program} {n : Nat} {L : Slots} {m : Snap} {H : Hp} {d : Option Tmp} {ty : TypeId} {ps : String} {af : Array Edge} {gd : Option (Nat × Bool)}
theorem y_conv_str {src dst e : TypeId} {x : Operand} {s : Sl} {l : List UInt8} (hx : opv L x = some s.v) (hz : FzB m s l)
    (hs : P.underlying src = some (.slice e)) (he : P.underlying e = some (.int .u8)) (hd : P.underlying dst = some .string) :
    Yl P n L m H ⟨d, .convert src dst x, ty, ps, af, gd⟩ (.string (strB l)) := fun ac hf w hst => by
  have hl := Fz.lenB hz
  have key : (convert src dst (.slice s.a s.n s.cap)).run P w = .ok (.string (strB l)) w := by
    rw [run_convert_bytes_string w src dst e s.a s.n s.cap hs he hd]
    cases ha : s.a with
    | none =>
      cases l with
      | nil => simp [Conv.bytesToString, strB]
      | cons c r =>
        obtain ⟨g, o, h, _⟩ := hz.get 0 [bv c] rfl
        rw [ha] at h; cases h
    | some a =>
      refine run_bytesToString w a s.n s.cap (l.map fun c => (c.toNat : Int)) ?_
      have := run_loadCells_list (P := P) w a (l.map bv) (fun j v hj => by
        simp only [List.getElem?_map, Option.map_eq_some_iff] at hj
        obtain ⟨c, hc, rfl⟩ := hj
        obtain ⟨g, o, h, hv⟩ := hz.get j [bv c] (bytes1_get hc)
        rw [ha] at h; cases h
        rw [addr_add]
        have := hst.cell (hv 0 (bv c) rfl)
        simpa using this)
      rw [List.length_map, ← hl] at this
      rw [this, List.map_map]
      rfl
  simp only [execOp, hf.eval hx, Sl.v, key, Sem.run_bind, Result.andThen_ok]
  rfl
end
end Go.Aw
namespace Go.Aw
open Go
section
variable {P : Program} {n : Nat} {L : Slots} {m : Snap} {H : Hp} {d : Option Tmp} {ty : TypeId} {ps : String} {af : Array Edge} {gd : Option (Nat × Bool)}
theorem y_addn {t t' : TypeId} {x y : Operand} {a b : Nat} (hx : opv L x = some (.int .i64 (a : Int))) (hy : opv L y = some (.int .i64 (b : Int))) (hb : a + b ≤ 9223372036854775807) :
    Yl P n L m H ⟨d, .binOp .add t x y t', ty, ps, af, gd⟩ (.int .i64 ((a + b : Nat) : Int)) :=
  y_iop hx hy (by
    show some (Value.int .i64 (IntKind.i64.wrap ((a : Int) + (b : Int)))) = _
    rw [wrap_i64_small (by omega) (by omega)]
    congr 2)
end
/-- What is left is an end of the bytes. -/
def Suf (l : List UInt8) (q : Rs) : Prop := q.l.length ≤ l.length ∧ q.l = l.drop (l.length - q.l.length)
theorem Suf.get {l : List UInt8} {q : Rs} (h : Suf l q) (i : Nat) : q.l[i]? = l[l.length - q.l.length + i]? := by
  have := h.2
  conv => lhs; rw [this]
  rw [List.getElem?_drop]
theorem Suf.start (s : Sl) (l : List UInt8) : Suf l ⟨s, l, false⟩ := ⟨Nat.le_refl _, by simp⟩
end Go.Aw
namespace Go.Aw
open Go
section
variable {P : Program} {n : Nat} {L : Slots} {m : Snap} {H : Hp} {d : Option Tmp} {ty : TypeId} {ps : String} {af : Array Edge} {gd : Option (Nat × Bool)}
theorem y_conv_in {src dst : TypeId} {x : Operand} {a : Nat} (hx : opv L x = some (.int .i64 (a : Int))) (hs : P.underlying src = some (.int .i64)) (ht : P.underlying dst = some (.int .u64)) (ha : a < 18446744073709551616) :
    Yl P n L m H ⟨d, .convert src dst x, ty, ps, af, gd⟩ (.int .u64 (a : Int)) :=
  y_conv_int hx (by rw [hs]; rfl) ht (by rw [wrap_u64_nat, Nat.mod_eq_of_lt (by simpa using ha)])
theorem y_conv_ij {src dst : TypeId} {x : Operand} {a : Nat} (hx : opv L x = some (.int .i64 (((a + 1 : Nat) : Int) - 1))) (hs : P.underlying src = some (.int .i64)) (ht : P.underlying dst = some (.int .u64)) (ha : a < 18446744073709551616) :
    Yl P n L m H ⟨d, .convert src dst x, ty, ps, af, gd⟩ (.int .u64 (a : Int)) :=
  y_conv_int hx (by rw [hs]; rfl) ht (by rw [show (((a + 1 : Nat) : Int) - 1) = (a : Int) by omega, wrap_u64_nat, Nat.mod_eq_of_lt (by simpa using ha)])
end
theorem fits_lt {x : W} {k : Nat} (hk : k ≤ 63) : decide (((x.toNat : Nat) : Int) < (((1#64) <<< k).toNat : Nat)) = ((x >>> k) == 0) := by
  have e : ((1#64) <<< k).toNat = 2 ^ k := by
    rw [BitVec.toNat_shiftLeft, Nat.shiftLeft_eq]
    simp
    exact (Nat.pow_lt_pow_right (by decide : 1 < 2) (by omega : k < 64))
  rw [e, Bool.eq_iff_iff, decide_eq_true_iff, beq_iff_eq, Int.ofNat_lt]
  constructor
  · intro h
    apply BitVec.eq_of_toNat_eq
    rw [BitVec.toNat_ushiftRight, Nat.shiftRight_eq_div_pow, Nat.div_eq_of_lt h]; rfl
  · intro h
    have := congrArg BitVec.toNat h
    rw [BitVec.toNat_ushiftRight, Nat.shiftRight_eq_div_pow] at this
    have h0 : x.toNat / 2 ^ k = 0 := this
    exact (Nat.div_eq_zero_iff_lt (Nat.pow_pos (by decide))).1 h0
theorem hsz_le (n : Int) : hsz n ≤ 48 := by
  unfold hsz
  split
  · rename_i h
    obtain ⟨k, hk, rfl⟩ : ∃ k : Nat, k < 12 ∧ n = k := by simp [there] at h; exact ⟨n.toNat, by omega, by omega⟩
    match k, hk with
    | 0, _ | 1, _ | 2, _ | 3, _ | 4, _ | 5, _ | 6, _ | 7, _ | 8, _ | 9, _ | 10, _ | 11, _ => decide
  · omega
theorem cget_size (k : Nat) (hk : k < 12) : cget (size12.map fun n => i64 ((n : Nat) : Int)) (0 + k * 1) = some (i64 ((size12.getD k 0 : Nat) : Int)) := by
  match k, hk with
  | 0, _ | 1, _ | 2, _ | 3, _ | 4, _ | 5, _ | 6, _ | 7, _ | 8, _ | 9, _ | 10, _ | 11, _ => rfl
theorem cget_head0 (h : Head) (k : Nat) (hk : k < 12) : cget (encHead h) (0 + k * 1) = some (wv (h.at k)) := by rw [Nat.zero_add]; exact cget_head h k hk
theorem headCmp_drop (a b : Head) {i : Nat} (hi : i < 12) : cmpL ((headL a).drop i) ((headL b).drop i) = if cmpW (a.at i) (b.at i) ≠ 0 then cmpW (a.at i) (b.at i) else cmpL ((headL a).drop (i + 1)) ((headL b).drop (i + 1)) := by
  match i, hi with
  | 0, _ | 1, _ | 2, _ | 3, _ | 4, _ | 5, _ | 6, _ | 7, _ | 8, _ | 9, _ | 10, _ | 11, _ => rfl
theorem all_take_succ {α : Type} {p : α → Bool} {l : List α} {i : Nat} {x : α} (hx : l[i]? = some x) : (l.take (i + 1)).all p = ((l.take i).all p && p x) := by
  rw [List.take_add_one, hx]; simp
theorem all_false_at {α : Type} {p : α → Bool} {l : List α} {i : Nat} {x : α} (hx : l[i]? = some x) (h : p x = false) : l.all p = false := by
  simp only [List.all_eq_false, Bool.not_eq_true]
  exact ⟨x, List.mem_of_getElem? hx, h⟩
theorem cmpW_lt {a b : W} (h : a < b) : cmpW a b = -1 := by simp [cmpW, h]
theorem cmpW_gt {a b : W} (h1 : b ≤ a) (h : b < a) : cmpW a b = 1 := by unfold cmpW; rw [if_neg (BitVec.not_lt.2 h1), if_pos h]
theorem cmpW_eq {a b : W} (h1 : b ≤ a) (h : a ≤ b) : cmpW a b = 0 := by unfold cmpW; rw [if_neg (BitVec.not_lt.2 h1), if_neg (BitVec.not_lt.2 h)]
abbrev FzT (m : Snap) (s : Sl) (l : List Bool) : Prop := Fz m s.a s.n s.cap 1 (l.map fun b => [.bool b])
theorem Fz.lenT {m : Snap} {s : Sl} {l : List Bool} (h : FzT m s l) : s.n = l.length := by have := h.len; simpa using this.symm
def bitsL (x : W) : Nat → List Bool
  | 0 => []
  | k + 1 => ((x >>> k) &&& 1#64 == 1#64) :: bitsL x k
@[simp] theorem bitsL_len (x : W) : ∀ k, (bitsL x k).length = k
  | 0 => rfl
  | k + 1 => by simp [bitsL, bitsL_len x k]
def tch (p q : Bool) : UInt8 := if !q then 120 else if p then 49 else 48
theorem tch_x {p q : Bool} (h : (!q) = true) : tch p q = 120 := by unfold tch; rw [if_pos h]
theorem tch_1 {p q : Bool} (h : (!q) = false) (hp : p = true) : tch p q = 49 := by unfold tch; rw [if_neg (by simp [h]), if_pos hp]
theorem tch_0 {p q : Bool} (h : (!q) = false) (hp : p = false) : tch p q = 48 := by unfold tch; rw [if_neg (by simp [h]), if_neg (by simp [hp])]
def rowT (c : Cube) (i : Nat) : List UInt8 := List.zipWith tch (bitsL (c.value.at i) (hsz (i : Int))) (bitsL (c.care.at i) (hsz (i : Int)))
@[simp] theorem rowT_len (c : Cube) (i : Nat) : (rowT c i).length = hsz (i : Int) := by simp [rowT]
def textN (c : Cube) : Nat → List UInt8
  | 0 => []
  | i + 1 => textN c i ++ rowT c i
theorem textN_len (c : Cube) : ∀ i, (textN c i).length ≤ 48 * i
  | 0 => Nat.le_refl _
  | i + 1 => by
    have h1 := textN_len c i
    have h2 := hsz_le (i : Int)
    simp only [textN, List.length_append, rowT_len]
    omega
theorem rowT_step {c : Cube} {i k : Nat} {p q : Bool} (h1 : (bitsL (c.value.at i) (hsz (i : Int)))[k]? = some p) (h2 : (bitsL (c.care.at i) (hsz (i : Int)))[k]? = some q) : (rowT c i).take (k + 1) = (rowT c i).take k ++ [tch p q] := by
  rw [List.take_add_one]
  congr 1
  simp [rowT, List.getElem?_zipWith, h1, h2]
theorem textN_step {c : Cube} {i k : Nat} (h : hsz (i : Int) ≤ k) : textN c (i + 1) = textN c i ++ (rowT c i).take k := by
  rw [List.take_of_length_le (by simpa using h)]; rfl
theorem actsSound_all (l : List ActD) : actsSound l = (l.all actSound && decide ((l.length : Int) ≤ 8)) := by
  unfold actsSound
  rw [Bool.and_comm]
  congr 1
  induction l with
  | nil => rfl
  | cons a r ih => simp only [List.any_cons, List.all_cons, Bool.not_or, Bool.not_not, ih]
end Go.Aw
namespace Go.Aw
open Go
structure MsgS where
  x : MsgD
  sm : Sl
  sr : Sl
  lr : List (RuleD × Sl)
structure FzMs (m : Snap) (s : Sl) (l : List MsgS) : Prop where
  fz : Fz m s.a s.n s.cap 48 (l.map fun p => encMsg p.x p.sm p.sr)
  ok : ∀ p ∈ l, MsgOk m p.x p.sm p.sr p.lr
theorem FzMs.mono {m m' : Snap} {s : Sl} {l : List MsgS} (h : FzMs m s l) (hm : m.le m') : FzMs m' s l := ⟨h.fz.mono hm, fun p hp => (h.ok p hp).mono hm⟩
theorem FzMs.len {m : Snap} {s : Sl} {l : List MsgS} (h : FzMs m s l) : s.n = l.length := by have := h.fz.len; simpa using this.symm
section
variable {P : Program} {n : Nat} {L : Slots} {m : Snap} {H : Hp} {d : Option Tmp} {ty : TypeId} {ps : String} {af : Array Edge} {gd : Option (Nat × Bool)}
end
end Go.Aw
namespace Go.Aw
open Go Go.RowKit
def snapOf (w : World) : Snap := ⟨fun k => w.heap[k]?, w.os, w.tape, w.output⟩
theorem St.start (w : World) : St (snapOf w) [] w := ⟨rfl, rfl, rfl, fun _ _ h => h, fun _ h => (by cases h), List.nodup_nil, fun _ h => (by cases h)⟩
theorem below_of {m' : Snap} {H' : Hp} {w w' : World} (hm : (snapOf w).le m') (hs : St m' H' w') : Below w.heap.size w w' := by
  have hb : ∀ k, k < w.heap.size → w'.heap[k]? = w.heap[k]? := fun k hk => by
    have h1 : w.heap[k]? = some w.heap[k] := Array.getElem?_eq_getElem hk
    rw [h1]
    exact hs.frz k _ (hm.heap k _ h1)
  refine ⟨hs.os.trans hm.os, hs.tape.trans hm.tape, hs.output.trans hm.output, ?_, hb⟩
  rcases Nat.eq_zero_or_pos w.heap.size with h | h
  · omega
  · have h1 := hb (w.heap.size - 1) (by omega)
    rw [Array.getElem?_eq_getElem (by omega : w.heap.size - 1 < w.heap.size)] at h1
    have := (Array.getElem?_eq_some_iff.1 h1).1
    omega
theorem cell_snap {w : World} {a : Addr} {v : Value} (h : w.cell? a = some v) : a = ⟨a.block, a.off, none⟩ ∧ (snapOf w).cell a.block a.off = some v := by
  obtain ⟨b, o, sp⟩ := a
  unfold World.cell? at h
  split at h
  · rename_i c _ _ hh
    cases sp with
    | some x => simp at h
    | none =>
      refine ⟨rfl, ?_⟩
      simp only [Option.isSome_none] at h
      simp only [Snap.cell, snapOf]
      simp at hh
      rw [hh]
      simpa using h
  · cases h
section
variable {P : Program} {n : Nat} {Q : Post} {L : Slots} {m : Snap} {H : Hp} {ops : Array Oper} {l : List Oper}
theorem r_toVec {i b k s : Nat} {cs : List Value} {e : TypeId} (news : List (List Value)) (hi : hget H i = some (.blk b (.cells cs.toArray e (0, 0)))) (hl : news.length = k) (he : ∀ c ∈ news, c.length = s) (hf : news.flatten = cs) (hk : k ≤ maxLen)
    (h : Run P n ops Q l L m (hset H i (.vec (some ⟨b, 0, none⟩) k k e s news))) : Run P n ops Q l L m H := fun a w hfr hs => h a w hfr (hs.toVec hi hl he hf hk)
end
end Go.Aw
namespace Go.Aw
open Go
section
variable {P : Program} {n : Nat} {L : Slots} {m : Snap} {H : Hp} {d : Option Tmp} {ty : TypeId} {ps : String} {af : Array Edge} {gd : Option (Nat × Bool)}
theorem y_indexAddr_sl {t e : TypeId} {x ix : Operand} {s : Nat} {kd : IntKind} {k len cap : Nat} {c : Int} {a : Option Addr} (hx : opv L x = some (.slice a len cap)) (hi : opv L ix = some (.int kd c)) (hc : c = (k : Int))
    (ht : tslice P t = some (e, s)) (hk : k < len) (ha : At m H a) :
    Yl P n L m H ⟨d, .indexAddr t x ix, ty, ps, af, gd⟩ (.pointer (eadd a (k * s))) := by
  subst hc
  exact y_indexAddr_slice hx hi ht hk ha
end
end Go.Aw
namespace Go.Aw
open Go
def b8 (a : Int) : UInt8 := UInt8.ofNat (a % 256).toNat
section
variable {P : Program} {n : Nat} {Q : Post} {L : Slots} {m : Snap} {H : Hp} {ops : Array Oper} {fuel : Nat} {listed : Array Bool}
theorem g_toVec {S : World → Prop} {i b k s : Nat} {cs : List Value} {e : TypeId} (news : List (List Value)) (hi : hget H i = some (.blk b (.cells cs.toArray e (0, 0)))) (hl : news.length = k) (he : ∀ c ∈ news, c.length = s) (hf : news.flatten = cs) (hk : k ≤ maxLen)
    (h : AG P n ops Q S fuel listed L m (hset H i (.vec (some ⟨b, 0, none⟩) k k e s news))) : AG P n ops Q S fuel listed L m H := fun a w hfr hs => h a w hfr (hs.toVec hi hl he hf hk)
end
end Go.Aw
namespace Go.Aw
open Go
def Reads {α : Type} (f : Rs → α × Rs) (b : List UInt8) (x : α) : Prop := ∀ q t, q.e = false → q.l = b ++ t → (f q).1 = x ∧ (f q).2.e = false ∧ (f q).2.l = t
theorem Reads.bind {α β : Type} {f : Rs → α × Rs} {g : α → Rs → β × Rs} {b b' : List UInt8} {x : α} {y : β} (hf : Reads f b x) (hg : Reads (g x) b' y) : Reads (fun q => g (f q).1 (f q).2) (b ++ b') y := by
  intro q t he hl
  obtain ⟨h1, h2, h3⟩ := hf q (b' ++ t) he (by rw [hl, List.append_assoc])
  obtain ⟨h4, h5, h6⟩ := hg (f q).2 t h2 h3
  simp only [h1]
  exact ⟨h4, h5, h6⟩
theorem Reads.map {α β : Type} {f : Rs → α × Rs} {b : List UInt8} {x : α} (h : α → β) (hf : Reads f b x) : Reads (fun q => (h (f q).1, (f q).2)) b (h x) := by
  intro q t he hl
  obtain ⟨h1, h2, h3⟩ := hf q t he hl
  exact ⟨congrArg h h1, h2, h3⟩
theorem Reads.nil {α : Type} (x : α) : Reads (fun q => (x, q)) [] x := fun q t he hl => ⟨rfl, he, hl⟩
theorem Reads.eq {α : Type} {f f' : Rs → α × Rs} {b b' : List UInt8} {x x' : α} (h : Reads f b x) (hf : ∀ q, q.e = false → f' q = f q) (hb : b' = b) (hx : x' = x) : Reads f' b' x' := by
  subst hb; subst hx
  intro q t he hl
  rw [hf q he]
  exact h q t he hl
def Pre (q q' : Rs) : Prop := q.e = false ∧ q'.e = false ∧ ∃ t, t ≠ [] ∧ q.l = q'.l ++ t
def Cuts {α : Type} (f : Rs → α × Rs) : Prop := (∀ q, q.e = true → (f q).2.e = true) ∧ ∀ q q', Pre q q' → (f q').2.e = true ∨ ((f q').1 = (f q).1 ∧ Pre (f q).2 (f q').2)
theorem Cuts.bind {α β : Type} {f : Rs → α × Rs} {g : α → Rs → β × Rs} (hf : Cuts f) (hg : ∀ x, Cuts (g x)) : Cuts (fun q => g (f q).1 (f q).2) := by
  refine ⟨fun q he => (hg _).1 _ (hf.1 q he), fun q q' hp => ?_⟩
  rcases hf.2 q q' hp with h | ⟨h1, h2⟩
  · exact .inl ((hg _).1 _ h)
  · simp only [h1]
    exact (hg _).2 _ _ h2
theorem Cuts.map {α β : Type} {f : Rs → α × Rs} (h : α → β) (hf : Cuts f) : Cuts (fun q => (h (f q).1, (f q).2)) := by
  refine ⟨hf.1, fun q q' hp => ?_⟩
  rcases hf.2 q q' hp with h' | ⟨h1, h2⟩
  · exact .inl h'
  · exact .inr ⟨congrArg h h1, h2⟩
theorem Cuts.nil {α : Type} (x : α) : Cuts (fun q => (x, q)) := ⟨fun _ h => h, fun _ _ h => .inr ⟨rfl, h⟩⟩
theorem Cuts.guard {α : Type} {f f' : Rs → α × Rs} (h : Cuts f) (h1 : ∀ q, q.e = true → (f' q).2 = q) (h2 : ∀ q, q.e = false → f' q = f q) : Cuts f' := by
  refine ⟨fun q he => by rw [h1 q he]; exact he, fun q q' hp => ?_⟩
  rw [h2 q hp.1, h2 q' hp.2.1]
  exact h.2 q q' hp
/-- What of an action can be written. -/
structure ActB (a : ActD) : Prop where
  kind : 0 ≤ a.kind ∧ a.kind ≤ 255
  port : 0 ≤ a.port ∧ a.port ≤ 255
  field : 0 ≤ a.field ∧ a.field ≤ 255
structure ModB (x : ModD) : Prop where
  kind : 0 ≤ x.kind ∧ x.kind ≤ 255
  prio : 0 ≤ x.prio ∧ x.prio ≤ 65535
  idle : 0 ≤ x.idle ∧ x.idle ≤ 4294967295
  hard : 0 ≤ x.hard ∧ x.hard ≤ 4294967295
  owner : 0 ≤ x.owner ∧ x.owner ≤ 255
  acts : x.acts.length ≤ 255 ∧ ∀ a ∈ x.acts, ActB a
structure RuleB (x : RuleD) : Prop where
  prio : 0 ≤ x.prio ∧ x.prio ≤ 65535
  idle : 0 ≤ x.idle ∧ x.idle ≤ 4294967295
  hard : 0 ≤ x.hard ∧ x.hard ≤ 4294967295
  owner : 0 ≤ x.owner ∧ x.owner ≤ 255
  hits : 0 ≤ x.hits ∧ x.hits < 9223372036854775808
  quiet : 0 ≤ x.quiet ∧ x.quiet < 9223372036854775808
  age : 0 ≤ x.age ∧ x.age < 9223372036854775808
  acts : x.acts.length ≤ 255 ∧ ∀ a ∈ x.acts, ActB a
/-- The counts are those of a machine. -/
def RuleI (x : RuleD) : Prop := x.hits < 9223372036854775808 ∧ x.quiet < 9223372036854775808 ∧ x.age < 9223372036854775808
theorem ruleTable_sound {l : List RuleD} (h : ruleTable l = true) : ∀ r ∈ l, ruleSound r = true := by
  intro r hr
  obtain ⟨i, hi, rfl⟩ := List.mem_iff_getElem.1 hr
  unfold ruleTable at h
  rw [List.all_eq_true] at h
  have := h i (by simpa using hi)
  unfold okAt at this
  rw [List.getElem?_eq_getElem hi] at this
  simp at this
  exact this.1
def MsgI (x : MsgD) : Prop := ∀ r ∈ x.rules, RuleI r
end Go.Aw
namespace Go.Aw
open Go Go.RowKit
/-- It can be read as a value of its type. -/
def Tr {H : Type} (enc : TypeId × Value → H) (P : Program) (w : World) (t : TypeId) (cs : List Value) : Prop :=
  ∃ (sp : Nat → Bool) (fuel : Nat) (x : DataW H × List MemPlace), DataW.trod enc P w 0 sp true fuel t cs = some x
section
variable {H : Type} {enc : TypeId × Value → H} {P : Program} {w : World} {t : TypeId} {cs : List Value}
theorem Tr.of {v : Value} {d : DataW H} {p : List MemPlace} {sp : Nat → Bool} (h : DataW.Trod enc P w 0 sp true t v d p) : Tr enc P w t v.cells.toList := by
  obtain ⟨f, hf⟩ := h
  exact ⟨sp, f, _, hf⟩
theorem Tr.int {k : IntKind} (ht : P.underlying t = some (.int k)) (h : Tr enc P w t cs) : ∃ n, cs = [.int k n] ∧ (Lit.int k n).wf = true := by
  obtain ⟨sp, f, x, h⟩ := h
  obtain ⟨n, h1, _, h2⟩ := DataW.trod_int ht h
  exact ⟨n, h1, h2⟩
theorem Tr.bool (ht : P.underlying t = some .bool) (h : Tr enc P w t cs) : ∃ b, cs = [.bool b] := by
  obtain ⟨sp, f, x, h⟩ := h
  obtain ⟨n, h1, _⟩ := DataW.trod_bool ht h
  exact ⟨n, h1⟩
theorem Tr.struct {fs : Array Field} {n : Nat} (ht : P.underlying t = some (.struct fs)) (hc : P.cellsOf t = n) (h : Tr enc P w t cs) : cs.length = n ∧ ∀ (i : Nat) (f : Field), fs[i]? = some f → Tr enc P w f.type ((cs.drop f.offset).take (P.cellsOf f.type)) := by
  obtain ⟨sp, f, x, h⟩ := h
  obtain ⟨xs, m, _, _, hl, hx, hf⟩ := DataW.trod_struct ht h
  refine ⟨hl.trans hc, fun i f hi => ?_⟩
  have hlt : i < xs.length := by rw [hx]; exact (Array.getElem?_eq_some_iff.1 hi).1
  have := hf i f hi
  rw [List.getElem?_eq_getElem hlt] at this
  exact ⟨sp, m, _, this⟩
theorem Tr.array {e : TypeId} {n k : Nat} (ht : P.underlying t = some (.array n e)) (hc : P.cellsOf e = k) (hn : P.cellsOf t = n * k) (h : Tr enc P w t cs) : cs.length = n * k ∧ ∀ i, i < n → Tr enc P w e ((cs.drop (i * k)).take k) := by
  obtain ⟨sp, f, x, h⟩ := h
  obtain ⟨xs, m, _, _, hl, hx, hf⟩ := DataW.trod_array ht h
  refine ⟨hl.trans hn, fun i hi => ?_⟩
  have := hf i hi
  rw [List.getElem?_eq_getElem (by omega), hc] at this
  exact ⟨sp, m, _, this⟩
theorem Tr.slice {e : TypeId} {k : Nat} (ht : P.underlying t = some (.slice e)) (hc : P.cellsOf e = k) (hk : 0 < k) (h : Tr enc P w t cs) :
    ∃ (s : Sl) (rows : List (List Value)), cs = [s.v] ∧ s.ok ∧ Fz (snapOf w) s.a s.n s.cap k rows ∧ ∀ r ∈ rows, Tr enc P w e r := by
  obtain ⟨sp, f, x, h⟩ := h
  rcases Deep.open_slice ht h with ⟨rfl, _⟩ | ⟨a, len, cap, m, n, D, Pl, rfl, _, hl, hm, hmm, _, hx⟩
  · exact ⟨zSl, [], rfl, fun _ => rfl, ⟨rfl, fun c h => (by cases h), Nat.le_refl _, Nat.zero_le _, fun k c h => (by simp at h)⟩, fun r h => (by cases h)⟩
  · have hle : len ≤ m := by rw [hmm]; split <;> omega
    obtain ⟨V, hV⟩ := Deep.choose_lt (α := List Value) (n := len) (p := fun i v => w.cells? 0 (a.add (i * k)) k = some v ∧ Tr enc P w e v) (fun i hi => by
      obtain ⟨cs', h1, h2⟩ := hx i (by omega)
      rw [hc] at h1
      exact ⟨cs', h1, sp, n, _, h2⟩)
    have hr : ∀ (i : Nat) (c : List Value), ((List.range len).map V)[i]? = some c → i < len ∧ c = V i := by
      intro i c h
      simp only [List.getElem?_map, Option.map_eq_some_iff] at h
      obtain ⟨j, hj, rfl⟩ := h
      have := List.getElem?_eq_some_iff.1 hj
      simp at this
      exact ⟨by omega, by rw [this.2]⟩
    refine ⟨⟨some a, len, cap⟩, (List.range len).map V, rfl, fun h => (by cases h), ⟨by simp, ?_, hl, hm, ?_⟩, ?_⟩
    · intro c hc'
      obtain ⟨i, hi⟩ := List.getElem?_of_mem hc'
      obtain ⟨hi', rfl⟩ := hr i c hi
      exact (World.cells?_some (hV i hi').1).2.1
    · intro i c hi
      obtain ⟨hi', rfl⟩ := hr i c hi
      obtain ⟨_, hlen, hcell⟩ := World.cells?_some (hV i hi').1
      have hcs : ∀ (j : Nat) (v : Value), (V i)[j]? = some v → w.cell? ((a.add (i * k)).add j) = some v := fun j v hj => by
        rw [hcell j (by have := (List.getElem?_eq_some_iff.1 hj).1; omega), hj]
      have ha : a = ⟨a.block, a.off, none⟩ := by
        obtain ⟨_, hlen0, hcell0⟩ := World.cells?_some (hV 0 (by omega)).1
        have h0 := hcell0 0 hk
        rw [List.getElem?_eq_getElem (by omega)] at h0
        have := (cell_snap h0).1
        simpa [Addr.add] using this
      rw [ha] at hcs ⊢
      refine ⟨a.block, a.off, rfl, fun j v hj => ?_⟩
      have := hcs j v hj
      rw [addr_add, addr_add] at this
      have := (cell_snap this).2
      rwa [show a.off + i * k + j = a.off + (i * k + j) by omega] at this
    · intro c hc'
      obtain ⟨i, hi⟩ := List.getElem?_of_mem hc'
      obtain ⟨hi', rfl⟩ := hr i c hi
      exact (hV i hi').2
end
end Go.Aw
namespace Go.Aw
open Go Go.Proofs
def fieldCells : List Value := [.string ⟨#[105, 110]⟩, .int .i64 16, .string ⟨#[101, 115, 114, 99]⟩, .int .i64 48, .string ⟨#[101, 100, 115, 116]⟩, .int .i64 48, .string ⟨#[101, 116, 121, 112, 101]⟩, .int .i64 16, .string ⟨#[118, 108, 97, 110]⟩, .int .i64 12, .string ⟨#[112, 99, 112]⟩, .int .i64 4, .string ⟨#[115, 114, 99]⟩, .int .i64 32, .string ⟨#[100, 115, 116]⟩, .int .i64 32, .string ⟨#[112, 114, 111, 116, 111]⟩, .int .i64 8, .string ⟨#[116, 111, 115]⟩, .int .i64 8, .string ⟨#[115, 112, 111, 114, 116]⟩, .int .i64 12, .string ⟨#[100, 112, 111, 114, 116]⟩, .int .i64 12]
def nameCell (k : Nat) : Value := ([.string ⟨#[105, 110]⟩, .string ⟨#[101, 115, 114, 99]⟩, .string ⟨#[101, 100, 115, 116]⟩, .string ⟨#[101, 116, 121, 112, 101]⟩, .string ⟨#[118, 108, 97, 110]⟩, .string ⟨#[112, 99, 112]⟩, .string ⟨#[115, 114, 99]⟩, .string ⟨#[100, 115, 116]⟩, .string ⟨#[112, 114, 111, 116, 111]⟩, .string ⟨#[116, 111, 115]⟩, .string ⟨#[115, 112, 111, 114, 116]⟩, .string ⟨#[100, 112, 111, 114, 116]⟩] : List Value).getD k undef
theorem csub_fields (k : Nat) (hk : k < 12) : csub fieldCells (k * 2) 2 = some [nameCell k, .int .i64 ((size12.getD k 0 : Nat) : Int)] := by
  match k, hk with
  | 0, _ | 1, _ | 2, _ | 3, _ | 4, _ | 5, _ | 6, _ | 7, _ | 8, _ | 9, _ | 10, _ | 11, _ => rfl
theorem tz196 : tzero Try.prog 196 = some [.string ByteArray.empty, .int .i64 0, .string ByteArray.empty, .int .i64 0, .string ByteArray.empty, .int .i64 0, .string ByteArray.empty, .int .i64 0, .string ByteArray.empty, .int .i64 0, .string ByteArray.empty, .int .i64 0, .string ByteArray.empty, .int .i64 0, .string ByteArray.empty, .int .i64 0, .string ByteArray.empty, .int .i64 0, .string ByteArray.empty, .int .i64 0, .string ByteArray.empty, .int .i64 0, .string ByteArray.empty, .int .i64 0] := by kernel_rfl
theorem tz195 : tzero Try.prog 195 = some [.string ByteArray.empty, .int .i64 0] := by kernel_rfl
theorem fk195 : fieldsKnown Try.prog 195 = true := by kernel_rfl
theorem bp195_0_1 : bplaces Try.prog 195 [0, 1] = some [(0, 1), (1, 1)] := by kernel_rfl
theorem fk196 : fieldsKnown Try.prog 196 = true := by kernel_rfl
theorem bp196_0_1_2_3_4_5_6_7_8_9_10_11 : bplaces Try.prog 196 [0, 1, 2, 3, 4, 5, 6, 7, 8, 9, 10, 11] = some [(0, 2), (2, 2), (4, 2), (6, 2), (8, 2), (10, 2), (12, 2), (14, 2), (16, 2), (18, 2), (20, 2), (22, 2)] := by kernel_rfl
theorem ts196 : tshape Try.prog 196 = some (true, 24) := by kernel_rfl
theorem ta196 : tarray Try.prog 196 = some (12, true, 2) := by kernel_rfl
theorem fs195_1 : fieldSh Try.prog 195 1 = some (1, false, 1) := by kernel_rfl
theorem ts27 : tshape Try.prog 27 = some (true, 12) := by kernel_rfl
theorem ta27 : tarray Try.prog 27 = some (12, false, 1) := by kernel_rfl
theorem fo29_1 : fieldOff Try.prog 29 1 = some 12 := by kernel_rfl
theorem fo29_0 : fieldOff Try.prog 29 0 = some 0 := by kernel_rfl
theorem ts25 : tshape Try.prog 25 = some (false, 1) := by kernel_rfl
theorem ts29 : tshape Try.prog 29 = some (true, 24) := by kernel_rfl
set_option maxRecDepth 100000 in
theorem there_ok (n : Int) (m : Snap) (H : Hp) : Fn Try.prog 167 [.int .i64 n] m H (fun v _ H' => v = .bool (there n) ∧ H' = H) := by
  have hm : m.le m := Snap.le.refl m
  refine fn_end Try.func167 rfl rfl rfl ?_
  refine c_seq (fun K0 hK0 => ?_)
  refine c_region ?_
  refine r_y rfl rfl (y_assign rfl) ?_
  refine r_nil ?_
  refine hK0 _ _ _ ?_
  clear hK0 K0
  refine c_seq (fun K1 hK1 => ?_)
  refine c_region ?_
  refine r_y rfl rfl (y_move rfl) ?_
  refine r_y rfl rfl (y_iop rfl rfl rfl) ?_
  refine r_y rfl rfl (y_move rfl) ?_
  refine r_split (j := 2) rfl (fun h0 => ?_) (fun h0 => ?_)
  ·
    refine r_yg rfl h0 rfl (y_move rfl) ?_
    refine r_yg rfl h0 rfl (y_iop rfl rfl rfl) ?_
    refine r_y rfl rfl (y_pickt rfl h0 rfl) ?_
    refine r_y rfl rfl (y_assign rfl) ?_
    refine r_nil ?_
    refine hK1 _ _ _ ?_
    clear hK1 K1
    refine c_ret ?_
    refine e_ret 0 hm (res_tmps rfl) ?_
    refine ⟨?_, rfl⟩
    simp_all [there]
    try omega
  ·
    refine r_no' rfl rfl h0 ?_
    refine r_no' rfl rfl h0 ?_
    refine r_y rfl rfl (y_pickf rfl h0 rfl) ?_
    refine r_y rfl rfl (y_assign rfl) ?_
    refine r_nil ?_
    refine hK1 _ _ _ ?_
    clear hK1 K1
    refine c_ret ?_
    refine e_ret 0 hm (res_tmps rfl) ?_
    refine ⟨?_, rfl⟩
    simp_all [there]
    try omega
set_option maxRecDepth 100000 in
theorem fields_ok (m : Snap) (H : Hp) : Fn Try.prog 180 [] m H (fun v _ H' => v = .agg fieldCells.toArray ∧ H' = H) := by
  have hm : m.le m := Snap.le.refl m
  refine fn_end Try.func180 rfl rfl rfl ?_
  refine c_seq (fun K0 hK0 => ?_)
  refine c_region ?_
  refine r_s rfl ?_
  refine s_alloc rfl tz196 (fun b0 => ?_)
  refine r_nil ?_
  refine hK0 _ _ _ ?_
  clear hK0 K0
  refine c_seq (fun K1 hK1 => ?_)
  refine c_region ?_
  refine r_y rfl rfl (y_bld rfl tz195 fk195 bp195_0_1 rfl rfl) ?_
  refine r_y rfl rfl (y_bld rfl tz195 fk195 bp195_0_1 rfl rfl) ?_
  refine r_y rfl rfl (y_bld rfl tz195 fk195 bp195_0_1 rfl rfl) ?_
  refine r_y rfl rfl (y_bld rfl tz195 fk195 bp195_0_1 rfl rfl) ?_
  refine r_y rfl rfl (y_bld rfl tz195 fk195 bp195_0_1 rfl rfl) ?_
  refine r_y rfl rfl (y_bld rfl tz195 fk195 bp195_0_1 rfl rfl) ?_
  refine r_y rfl rfl (y_bld rfl tz195 fk195 bp195_0_1 rfl rfl) ?_
  refine r_y rfl rfl (y_bld rfl tz195 fk195 bp195_0_1 rfl rfl) ?_
  refine r_y rfl rfl (y_bld rfl tz195 fk195 bp195_0_1 rfl rfl) ?_
  refine r_y rfl rfl (y_bld rfl tz195 fk195 bp195_0_1 rfl rfl) ?_
  refine r_y rfl rfl (y_bld rfl tz195 fk195 bp195_0_1 rfl rfl) ?_
  refine r_y rfl rfl (y_bld rfl tz195 fk195 bp195_0_1 rfl rfl) ?_
  refine r_y rfl rfl (y_bld rfl tz196 fk196 bp196_0_1_2_3_4_5_6_7_8_9_10_11 rfl rfl) ?_
  refine r_s rfl ?_
  refine s_store rfl rfl rfl ts196 rfl rfl (by simp [Value.oneCell', wv, Sl.v]) (i := 0) rfl rfl ?_
  refine r_nil ?_
  refine hK1 _ _ _ ?_
  clear hK1 K1
  refine c_ret ?_
  refine e_ret 1 hm (res_cell_a rfl ts196 (RdA.blk (i := 0) rfl rfl)) ?_
  exact ⟨rfl, rfl⟩
set_option maxRecDepth 100000 in
theorem Size_ok (n : Int) (m : Snap) (H : Hp) : Fn Try.prog 166 [.int .i64 n] m H (fun v _ H' => v = .int .i64 (hsz n : Nat) ∧ H' = H) := by
  have hm : m.le m := Snap.le.refl m
  refine fn_end Try.func166 rfl rfl rfl ?_
  refine c_seq (fun K0 hK0 => ?_)
  refine c_region ?_
  refine r_y rfl rfl (y_assign rfl) ?_
  refine r_nil ?_
  refine hK0 _ _ _ ?_
  clear hK0 K0
  refine c_seq (fun K1 hK1 => ?_)
  refine c_seq (fun K2 hK2 => ?_)
  refine c_region ?_
  refine r_y rfl rfl (y_move rfl) ?_
  refine r_s rfl ?_
  refine s_call0 rfl Try.call167 rfl (there_ok _ _ _) ?_
  rintro _ m2 _ hm2 ⟨rfl, rfl⟩
  replace hm := hm.trans hm2
  clear hm2
  refine r_y rfl rfl (y_not rfl) ?_
  refine r_nil ?_
  refine hK2 _ _ _ ?_
  clear hK2 K2
  refine c_cond rfl (fun h0 => ?_) (fun h0 => ?_)
  ·
    refine c_seq (fun K3 hK3 => ?_)
    refine c_region ?_
    refine r_y rfl rfl (y_assign rfl) ?_
    refine r_nil ?_
    refine hK3 _ _ _ ?_
    clear hK3 K3
    refine c_ret ?_
    refine e_ret 0 hm (res_tmps rfl) ?_
    refine ⟨?_, rfl⟩
    first | (simp_all [hsz]; done) | (rw [hsz_nat (by omega)])
  ·
    obtain ⟨k, hk, rfl⟩ := there_spec h0
    refine c_skip ?_
    refine hK1 _ _ _ ?_
    clear hK1 K1
    refine c_seq (fun K4 hK4 => ?_)
    refine c_region ?_
    refine r_s rfl ?_
    refine s_call0 rfl Try.call180 rfl (fields_ok _ _) ?_
    rintro _ m2 _ hm2 ⟨rfl, rfl⟩
    replace hm := hm.trans hm2
    clear hm2
    refine r_y rfl rfl (y_move rfl) ?_
    refine r_y rfl rfl (y_index_arr_a rfl rfl ta196 (by omega) (csub_fields k (by omega))) ?_
    refine r_y rfl rfl (y_fld_s rfl fs195_1 rfl) ?_
    refine r_y rfl rfl (y_assign rfl) ?_
    refine r_nil ?_
    refine hK4 _ _ _ ?_
    clear hK4 K4
    refine c_ret ?_
    refine e_ret 0 hm (res_tmps rfl) ?_
    refine ⟨?_, rfl⟩
    first | (simp_all [hsz]; done) | (rw [hsz_nat (by omega)])
set_option maxRecDepth 100000 in
theorem fits_ok (n : Int) (x : W) (m : Snap) (H : Hp) : Fn Try.prog 154 [.int .i64 n, wv x] m H (fun v _ H' => v = .bool (fits n x) ∧ H' = H) := by
  have hm : m.le m := Snap.le.refl m
  refine fn_end Try.func154 rfl rfl rfl ?_
  refine c_seq (fun K0 hK0 => ?_)
  refine c_region ?_
  refine r_y rfl rfl (y_assign rfl) ?_
  refine r_nil ?_
  refine hK0 _ _ _ ?_
  clear hK0 K0
  refine c_seq (fun K1 hK1 => ?_)
  refine c_region ?_
  refine r_y rfl rfl (y_move rfl) ?_
  refine r_y rfl rfl (y_move rfl) ?_
  refine r_s rfl ?_
  refine s_call0 rfl Try.call166 rfl (Size_ok _ _ _) ?_
  rintro _ m2 _ hm2 ⟨rfl, rfl⟩
  replace hm := hm.trans hm2
  clear hm2
  refine r_y rfl rfl (y_wshr rfl rfl) ?_
  refine r_y rfl rfl (y_wop rfl (opv_wc 0#64) rfl) ?_
  refine r_y rfl rfl (y_assign rfl) ?_
  refine r_nil ?_
  refine hK1 _ _ _ ?_
  clear hK1 K1
  refine c_ret ?_
  refine e_ret 0 hm (res_tmps rfl) ?_
  exact ⟨rfl, rfl⟩
set_option maxRecDepth 100000 in
theorem headSound_ok (h : Head) (m : Snap) (H : Hp) : Fn Try.prog 127 [.agg (encHead h).toArray] m H (fun v _ H' => v = .bool (headSound h) ∧ H' = H) := by
  have hm : m.le m := Snap.le.refl m
  refine fn_end Try.func127 rfl rfl rfl ?_
  refine c_seq (fun K0 hK0 => ?_)
  refine c_region ?_
  refine r_s rfl ?_
  refine s_box_a rfl rfl (fun b0 => ?_)
  refine r_y rfl rfl (y_assign rfl) ?_
  refine r_nil ?_
  refine hK0 _ _ _ ?_
  clear hK0 K0
  refine c_seq (fun K1 hK1 => ?_)
  refine c_seq (fun K2 hK2 => ?_)
  refine c_region ?_
  refine r_y rfl rfl (y_load_a (cs := encHead h) rfl ts27 (RdA.blk (i := 0) rfl rfl)) ?_
  refine r_y rfl rfl (y_move rfl) ?_
  refine r_nil ?_
  refine hK2 _ _ _ ?_
  clear hK2 K2
  refine c_block ?_
  refine c_loopx (α := Nat) (fun i => [(5, .agg (encHead h).toArray), (6, .int .i64 (i : Nat))]) (fun i => .blk b0 (.cells (encHead h).toArray 27) :: H) (fun k0 i m1 => (i + k0 = 12 ∧ (List.range i).all (fun i => fits (i : Int) (h.at i)) = true) ∧ m.le m1) (12) 0 ⟨rfl, rfl, trivial⟩ rfl ⟨⟨by omega, rfl⟩, hm⟩ ?_
  clear hm
  rintro k0 i m1 ⟨hi0, hm⟩
  obtain ⟨hi, hinv⟩ := hi0
  refine c_seq (fun K3 hK3 => ?_)
  refine c_region ?_
  refine r_y rfl rfl (y_iop rfl rfl rfl) ?_
  refine r_nil ?_
  refine hK3 _ _ _ ?_
  clear hK3 K3
  refine c_seq (fun K4 hK4 => ?_)
  refine c_cond rfl (fun h0 => ?_) (fun h0 => ?_)
  ·
    have hlt : i < 12 := by simp at h0; omega
    refine c_skip ?_
    refine hK4 _ _ _ ?_
    clear hK4 K4
    refine c_seq (fun K5 hK5 => ?_)
    refine c_block ?_
    refine c_seq (fun K6 hK6 => ?_)
    refine c_region ?_
    refine r_y rfl rfl (y_move rfl) ?_
    refine r_y rfl rfl (y_index_arr rfl rfl ta27 hlt (cget_head _ _ hlt)) ?_
    refine r_y rfl rfl (y_assign rfl) ?_
    refine r_y rfl rfl (y_assign rfl) ?_
    refine r_nil ?_
    refine hK6 _ _ _ ?_
    clear hK6 K6
    refine c_seq (fun K7 hK7 => ?_)
    refine c_region ?_
    refine r_y rfl rfl (y_move rfl) ?_
    refine r_y rfl rfl (y_move rfl) ?_
    refine r_s rfl ?_
    refine s_call0 rfl Try.call154 rfl (fits_ok _ _ _ _) ?_
    rintro _ m2 _ hm2 ⟨rfl, rfl⟩
    replace hm := hm.trans hm2
    clear hm2
    refine r_y rfl rfl (y_not rfl) ?_
    refine r_nil ?_
    refine hK7 _ _ _ ?_
    clear hK7 K7
    refine c_cond rfl (fun h1 => ?_) (fun h1 => ?_)
    ·
      refine c_seq (fun K8 hK8 => ?_)
      refine c_region ?_
      refine r_y rfl rfl (y_assign rfl) ?_
      refine r_nil ?_
      refine hK8 _ _ _ ?_
      clear hK8 K8
      refine c_ret ?_
      refine e_ret 1 hm (res_tmps rfl) ?_
      exact ⟨congrArg Value.bool (all_range_false (by simpa using h1) hlt).symm, rfl⟩
    ·
      refine c_skip ?_
      refine hK5 _ _ _ ?_
      clear hK5 K5
      refine c_region ?_
      first | refine r_y rfl rfl (y_inc rfl (by omega)) ?_ | refine r_y rfl rfl (y_iop rfl rfl rfl) ?_
      refine r_y rfl rfl (y_move rfl) ?_
      refine r_nil ?_
      exact ⟨k0 - 1, (i + 1), by omega, ⟨rfl, rfl, trivial⟩, rfl, ⟨by omega, by rw [all_range_succ, hinv]; simpa using h1⟩, hm⟩
  ·
    refine c_exit ?_
    refine hK1 _ _ _ ?_
    clear hK4 K4 hK1 K1
    refine c_seq (fun K9 hK9 => ?_)
    refine c_region ?_
    refine r_y rfl rfl (y_assign rfl) ?_
    refine r_nil ?_
    refine hK9 _ _ _ ?_
    clear hK9 K9
    refine c_ret ?_
    refine e_ret 1 hm (res_tmps rfl) ?_
    obtain rfl : i = 12 := by simp at h0; omega
    exact ⟨congrArg Value.bool (by rw [headSound, hinv]), rfl⟩
set_option maxRecDepth 100000 in
theorem cubeSound_ok (c : Cube) (m : Snap) (H : Hp) : Fn Try.prog 90 [.agg (encCube c).toArray] m H (fun v _ H' => v = .bool (cubeSound c) ∧ H' = H) := by
  have hm : m.le m := Snap.le.refl m
  refine fn_end Try.func90 rfl rfl rfl ?_
  refine c_seq (fun K0 hK0 => ?_)
  refine c_region ?_
  refine r_s rfl ?_
  refine s_box_a rfl rfl (fun b0 => ?_)
  refine r_y rfl rfl (y_assign rfl) ?_
  refine r_nil ?_
  refine hK0 _ _ _ ?_
  clear hK0 K0
  refine c_seq (fun K1 hK1 => ?_)
  refine c_seq (fun K2 hK2 => ?_)
  refine c_region ?_
  refine r_y rfl rfl (y_fieldAddr rfl At.lit fo29_1 rfl) ?_
  refine r_y rfl rfl (y_load_a (cs := encHead c.care) rfl ts27 (RdA.blk (i := 0) rfl rfl)) ?_
  refine r_s rfl ?_
  refine s_call0 rfl Try.call127 rfl (headSound_ok c.care _ _) ?_
  rintro _ m2 _ hm2 ⟨rfl, rfl⟩
  replace hm := hm.trans hm2
  clear hm2
  refine r_y rfl rfl (y_not rfl) ?_
  refine r_nil ?_
  refine hK2 _ _ _ ?_
  clear hK2 K2
  refine c_cond rfl (fun h0 => ?_) (fun h0 => ?_)
  ·
    refine c_seq (fun K3 hK3 => ?_)
    refine c_region ?_
    refine r_y rfl rfl (y_assign rfl) ?_
    refine r_nil ?_
    refine hK3 _ _ _ ?_
    clear hK3 K3
    refine c_ret ?_
    refine e_ret 1 hm (res_tmps rfl) ?_
    exact ⟨congrArg Value.bool (by simp_all [cubeSound]), rfl⟩
  ·
    refine c_skip ?_
    refine hK1 _ _ _ ?_
    clear hK1 K1
    refine c_seq (fun K4 hK4 => ?_)
    refine c_seq (fun K5 hK5 => ?_)
    refine c_region ?_
    refine r_y rfl rfl (y_fieldAddr rfl At.lit fo29_0 rfl) ?_
    refine r_y rfl rfl (y_load_a (cs := encHead c.value) rfl ts27 (RdA.blk (i := 0) rfl rfl)) ?_
    refine r_y rfl rfl (y_move rfl) ?_
    refine r_nil ?_
    refine hK5 _ _ _ ?_
    clear hK5 K5
    refine c_block ?_
    refine c_loopx (α := Nat) (fun i => [(1, .pointer (some ⟨b0, 0, none⟩)), (10, .agg (encHead c.value).toArray), (11, .int .i64 (i : Nat))]) (fun i => .blk b0 (.cells (encCube c).toArray 29) :: H) (fun k0 i m1 => (i + k0 = 12 ∧ (List.range i).all (fun i => (c.value.at i &&& ~~~(c.care.at i)) == 0) = true) ∧ m.le m1) (12) 0 ⟨rfl, rfl, rfl, trivial⟩ rfl ⟨⟨by omega, rfl⟩, hm⟩ ?_
    clear hm
    rintro k0 i m1 ⟨hi0, hm⟩
    obtain ⟨hi, hinv⟩ := hi0
    refine c_seq (fun K6 hK6 => ?_)
    refine c_region ?_
    refine r_y rfl rfl (y_iop rfl rfl rfl) ?_
    refine r_nil ?_
    refine hK6 _ _ _ ?_
    clear hK6 K6
    refine c_seq (fun K7 hK7 => ?_)
    refine c_cond rfl (fun h1 => ?_) (fun h1 => ?_)
    ·
      have hlt : i < 12 := by simp at h1; omega
      refine c_skip ?_
      refine hK7 _ _ _ ?_
      clear hK7 K7
      refine c_seq (fun K8 hK8 => ?_)
      refine c_block ?_
      refine c_seq (fun K9 hK9 => ?_)
      refine c_region ?_
      refine r_y rfl rfl (y_move rfl) ?_
      refine r_y rfl rfl (y_index_arr rfl rfl ta27 hlt (cget_head _ _ hlt)) ?_
      refine r_y rfl rfl (y_assign rfl) ?_
      refine r_y rfl rfl (y_assign rfl) ?_
      refine r_nil ?_
      refine hK9 _ _ _ ?_
      clear hK9 K9
      refine c_seq (fun K10 hK10 => ?_)
      refine c_region ?_
      refine r_y rfl rfl (y_move rfl) ?_
      refine r_y rfl rfl (y_move rfl) ?_
      refine r_y rfl rfl (y_fieldAddr rfl At.lit fo29_1 rfl) ?_
      refine r_y rfl rfl (y_indexAddr_arr rfl rfl ta27 hlt At.lit) ?_
      refine r_y rfl rfl (y_load_s rfl ts25 (RdS.blk (i := 0) rfl (cget_care _ _ hlt))) ?_
      refine r_y rfl rfl (y_wop rfl rfl rfl) ?_
      refine r_y rfl rfl (y_wop rfl (opv_wc 0#64) rfl) ?_
      refine r_nil ?_
      refine hK10 _ _ _ ?_
      clear hK10 K10
      refine c_cond rfl (fun h2 => ?_) (fun h2 => ?_)
      ·
        refine c_seq (fun K11 hK11 => ?_)
        refine c_region ?_
        refine r_y rfl rfl (y_assign rfl) ?_
        refine r_nil ?_
        refine hK11 _ _ _ ?_
        clear hK11 K11
        refine c_ret ?_
        refine e_ret 1 hm (res_tmps rfl) ?_
        exact ⟨congrArg Value.bool (by rw [cubeSound, all_range_false (by simpa using h2) hlt]; simp), rfl⟩
      ·
        refine c_skip ?_
        refine hK8 _ _ _ ?_
        clear hK8 K8
        refine c_region ?_
        first | refine r_y rfl rfl (y_inc rfl (by omega)) ?_ | refine r_y rfl rfl (y_iop rfl rfl rfl) ?_
        refine r_y rfl rfl (y_move rfl) ?_
        refine r_nil ?_
        exact ⟨k0 - 1, (i + 1), by omega, ⟨rfl, rfl, rfl, trivial⟩, rfl, ⟨by omega, by rw [all_range_succ, hinv]; simpa using h2⟩, hm⟩
    ·
      refine c_exit ?_
      refine hK4 _ _ _ ?_
      clear hK7 K7 hK4 K4
      refine c_seq (fun K12 hK12 => ?_)
      refine c_region ?_
      refine r_y rfl rfl (y_assign rfl) ?_
      refine r_nil ?_
      refine hK12 _ _ _ ?_
      clear hK12 K12
      refine c_ret ?_
      refine e_ret 1 hm (res_tmps rfl) ?_
      obtain rfl : i = 12 := by simp at h1; omega
      exact ⟨congrArg Value.bool (by simp at h0; rw [cubeSound, hinv, h0]; rfl), rfl⟩
end Go.Aw
namespace Go.Aw
open Go Go.Proofs
def i64R (n : Int) : Prop := -9223372036854775808 ≤ n ∧ n ≤ 9223372036854775807
theorem w_of_wf {n : Int} (h : (Lit.int .u64 n).wf = true) : ∃ y : W, Value.int .u64 n = wv y := by
  have := bounds_u64 h
  refine ⟨BitVec.ofInt 64 n, ?_⟩
  unfold wv
  congr 1
  rw [BitVec.toNat_ofInt]
  omega
theorem drop_split (cs : List Value) (a b : Nat) : (cs.drop a).take b ++ cs.drop (a + b) = cs.drop a := by
  rw [← List.drop_drop]; exact List.take_append_drop _ _
theorem rows_map {α : Type} {f : α → List Value} {p : α → Prop} : ∀ {rows : List (List Value)}, (∀ r ∈ rows, ∃ x, r = f x ∧ p x) → ∃ l : List α, rows = l.map f ∧ ∀ x ∈ l, p x
  | [], _ => ⟨[], rfl, fun _ h => (by cases h)⟩
  | r :: rows, h => by
    obtain ⟨x, rfl, hx⟩ := h r (by simp)
    obtain ⟨l, rfl, hl⟩ := rows_map (rows := rows) fun r hr => h r (by simp [hr])
    exact ⟨x :: l, rfl, fun y hy => by rcases List.mem_cons.1 hy with rfl | hy <;> simp_all⟩
theorem c3 : Try.prog.cellsOf 3 = 1 := by kernel_rfl
theorem c4 : Try.prog.cellsOf 4 = 1 := by kernel_rfl
theorem c25 : Try.prog.cellsOf 25 = 1 := by kernel_rfl
theorem c27 : Try.prog.cellsOf 27 = 12 := by kernel_rfl
theorem c29 : Try.prog.cellsOf 29 = 24 := by kernel_rfl
theorem c30 : Try.prog.cellsOf 30 = 1 := by kernel_rfl
theorem c32 : Try.prog.cellsOf 32 = 31 := by kernel_rfl
theorem c50 : Try.prog.cellsOf 50 = 32 := by kernel_rfl
theorem c53 : Try.prog.cellsOf 53 = 4 := by kernel_rfl
section
variable {H : Type} {enc : TypeId × Value → H} {w : World} {cs : List Value}
theorem op_int (h : Tr enc Try.prog w 3 cs) : ∃ n, cs = [i64 n] ∧ i64R n := by
  obtain ⟨n, h1, h2⟩ := h.int Try.underlying3
  exact ⟨n, h1, bounds_i64 h2⟩
theorem op_word (h : Tr enc Try.prog w 25 cs) : ∃ y : W, cs = [wv y] := by
  obtain ⟨n, h1, h2⟩ := h.int Try.underlying25
  obtain ⟨y, hy⟩ := w_of_wf h2
  exact ⟨y, by rw [h1, hy]⟩
theorem op_head (h : Tr enc Try.prog w 27 cs) : ∃ x : Head, cs = encHead x := by
  obtain ⟨hl, hf⟩ := h.array Try.underlying27 (n := 12) (k := 1) c25 c27
  obtain ⟨f, hf'⟩ := Deep.choose_lt (α := W) (n := 12) (p := fun i y => cs[i]? = some (wv y)) (fun i hi => by
    obtain ⟨y, hy⟩ := op_word (hf i hi)
    refine ⟨y, ?_⟩
    have := congrArg (·[0]?) hy
    simp only [Nat.mul_one] at this
    rw [List.getElem?_take_of_lt (by decide), List.getElem?_drop] at this
    simpa using this)
  refine ⟨fun k => f k.val, ?_⟩
  apply List.ext_getElem?
  intro i
  by_cases hi : i < 12
  · rw [hf' i hi]
    match i, hi with
    | 0, _ | 1, _ | 2, _ | 3, _ | 4, _ | 5, _ | 6, _ | 7, _ | 8, _ | 9, _ | 10, _ | 11, _ => rfl
  · rw [List.getElem?_eq_none (by omega), List.getElem?_eq_none (by simp [encHead]; omega)]
theorem op_cube (h : Tr enc Try.prog w 29 cs) : ∃ x : Cube, cs = encCube x := by
  obtain ⟨hl, hf⟩ := h.struct Try.underlying29 (n := 24) c29
  have h0 : Tr enc Try.prog w 27 ((cs.drop 0).take (Try.prog.cellsOf 27)) := hf 0 _ rfl
  have h1 : Tr enc Try.prog w 27 ((cs.drop 12).take (Try.prog.cellsOf 27)) := hf 1 _ rfl
  rw [c27] at h0 h1
  obtain ⟨x, hx⟩ := op_head h0
  obtain ⟨y, hy⟩ := op_head h1
  refine ⟨⟨x, y⟩, ?_⟩
  have e : cs.drop 0 = (cs.drop 0).take 12 ++ ((cs.drop 12).take 12 ++ cs.drop 24) := by rw [drop_split cs 12 12, drop_split cs 0 12]
  rw [hx, hy, List.drop_eq_nil_of_le (by omega : cs.length ≤ 24)] at e
  simpa [encCube] using e
def ActR (a : ActD) : Prop := i64R a.kind ∧ i64R a.port ∧ i64R a.field
theorem op_act (h : Tr enc Try.prog w 53 cs) : ∃ a, cs = encAct a ∧ ActR a := by
  obtain ⟨hl, hf⟩ := h.struct Try.underlying53 (n := 4) c53
  have h0 : Tr enc Try.prog w 3 ((cs.drop 0).take (Try.prog.cellsOf 3)) := hf 0 _ rfl
  have h1 : Tr enc Try.prog w 3 ((cs.drop 1).take (Try.prog.cellsOf 3)) := hf 1 _ rfl
  have h2 : Tr enc Try.prog w 3 ((cs.drop 2).take (Try.prog.cellsOf 3)) := hf 2 _ rfl
  have h3 : Tr enc Try.prog w 25 ((cs.drop 3).take (Try.prog.cellsOf 25)) := hf 3 _ rfl
  rw [c3] at h0 h1 h2
  rw [c25] at h3
  obtain ⟨n0, e0, r0⟩ := op_int h0
  obtain ⟨n1, e1, r1⟩ := op_int h1
  obtain ⟨n2, e2, r2⟩ := op_int h2
  obtain ⟨y, e3⟩ := op_word h3
  refine ⟨⟨n0, n1, n2, y⟩, ?_, r0, r1, r2⟩
  have e : cs.drop 0 = (cs.drop 0).take 1 ++ ((cs.drop 1).take 1 ++ ((cs.drop 2).take 1 ++ ((cs.drop 3).take 1 ++ cs.drop 4))) := by rw [drop_split cs 3 1, drop_split cs 2 1, drop_split cs 1 1, drop_split cs 0 1]
  rw [e0, e1, e2, e3, List.drop_eq_nil_of_le (by omega : cs.length ≤ 4)] at e
  simpa [encAct] using e
theorem op_acts (h : Tr enc Try.prog w 30 cs) : ∃ (s : Sl) (l : List ActD), cs = [s.v] ∧ s.ok ∧ FzA (snapOf w) s l ∧ ∀ a ∈ l, ActR a := by
  obtain ⟨s, rows, h1, h2, h3, h4⟩ := h.slice Try.underlying30 (k := 4) c53 (by decide)
  obtain ⟨l, rfl, hl⟩ := rows_map (f := encAct) (p := ActR) fun r hr => op_act (h4 r hr)
  exact ⟨s, l, h1, h2, h3, hl⟩
structure RuleR (r : RuleD) : Prop where
  prio : i64R r.prio
  idle : i64R r.idle
  hard : i64R r.hard
  owner : i64R r.owner
  hits : i64R r.hits
  quiet : i64R r.quiet
  age : i64R r.age
  acts : ∀ a ∈ r.acts, ActR a
theorem RuleR.i {r : RuleD} (h : RuleR r) : RuleI r := by
  have h1 := h.hits.2; have h2 := h.quiet.2; have h3 := h.age.2
  exact ⟨by omega, by omega, by omega⟩
theorem op_rule (h : Tr enc Try.prog w 50 cs) : ∃ (p : RuleD × Sl), cs = encRule p.1 p.2 ∧ p.2.ok ∧ FzA (snapOf w) p.2 p.1.acts ∧ RuleR p.1 := by
  obtain ⟨hl, hf⟩ := h.struct Try.underlying50 (n := 32) c50
  have h0 : Tr enc Try.prog w 29 ((cs.drop 0).take (Try.prog.cellsOf 29)) := hf 0 _ rfl
  have h1 : Tr enc Try.prog w 3 ((cs.drop 24).take (Try.prog.cellsOf 3)) := hf 1 _ rfl
  have h2 : Tr enc Try.prog w 30 ((cs.drop 25).take (Try.prog.cellsOf 30)) := hf 2 _ rfl
  have h3 : Tr enc Try.prog w 3 ((cs.drop 26).take (Try.prog.cellsOf 3)) := hf 3 _ rfl
  have h4 : Tr enc Try.prog w 3 ((cs.drop 27).take (Try.prog.cellsOf 3)) := hf 4 _ rfl
  have h5 : Tr enc Try.prog w 3 ((cs.drop 28).take (Try.prog.cellsOf 3)) := hf 5 _ rfl
  have h6 : Tr enc Try.prog w 3 ((cs.drop 29).take (Try.prog.cellsOf 3)) := hf 6 _ rfl
  have h7 : Tr enc Try.prog w 3 ((cs.drop 30).take (Try.prog.cellsOf 3)) := hf 7 _ rfl
  have h8 : Tr enc Try.prog w 3 ((cs.drop 31).take (Try.prog.cellsOf 3)) := hf 8 _ rfl
  rw [c3] at h1 h3 h4 h5 h6 h7 h8
  rw [c29] at h0
  rw [c30] at h2
  obtain ⟨x, e0⟩ := op_cube h0
  obtain ⟨n1, e1, r1⟩ := op_int h1
  obtain ⟨s, l, e2, hok, hz, hr⟩ := op_acts h2
  obtain ⟨n3, e3, r3⟩ := op_int h3
  obtain ⟨n4, e4, r4⟩ := op_int h4
  obtain ⟨n5, e5, r5⟩ := op_int h5
  obtain ⟨n6, e6, r6⟩ := op_int h6
  obtain ⟨n7, e7, r7⟩ := op_int h7
  obtain ⟨n8, e8, r8⟩ := op_int h8
  refine ⟨(⟨x, n1, l, n3, n4, n5, n6, n7, n8⟩, s), ?_, hok, hz, ⟨r1, r3, r4, r5, r6, r7, r8, hr⟩⟩
  have e : cs.drop 0 = (cs.drop 0).take 24 ++ ((cs.drop 24).take 1 ++ ((cs.drop 25).take 1 ++ ((cs.drop 26).take 1 ++ ((cs.drop 27).take 1 ++ ((cs.drop 28).take 1 ++ ((cs.drop 29).take 1 ++ ((cs.drop 30).take 1 ++ ((cs.drop 31).take 1 ++ cs.drop 32)))))))) := by
    rw [drop_split cs 31 1, drop_split cs 30 1, drop_split cs 29 1, drop_split cs 28 1, drop_split cs 27 1, drop_split cs 26 1, drop_split cs 25 1, drop_split cs 24 1, drop_split cs 0 24]
  rw [e0, e1, e2, e3, e4, e5, e6, e7, e8, List.drop_eq_nil_of_le (by omega : cs.length ≤ 32)] at e
  simpa [encRule] using e
structure ModR (r : ModD) : Prop where
  kind : i64R r.kind
  prio : i64R r.prio
  idle : i64R r.idle
  hard : i64R r.hard
  owner : i64R r.owner
  acts : ∀ a ∈ r.acts, ActR a
theorem op_mod (h : Tr enc Try.prog w 32 cs) : ∃ (p : ModD × Sl), cs = encMod p.1 p.2 ∧ p.2.ok ∧ FzA (snapOf w) p.2 p.1.acts ∧ ModR p.1 := by
  obtain ⟨hl, hf⟩ := h.struct Try.underlying32 (n := 31) c32
  have h0 : Tr enc Try.prog w 3 ((cs.drop 0).take (Try.prog.cellsOf 3)) := hf 0 _ rfl
  have h1 : Tr enc Try.prog w 29 ((cs.drop 1).take (Try.prog.cellsOf 29)) := hf 1 _ rfl
  have h2 : Tr enc Try.prog w 3 ((cs.drop 25).take (Try.prog.cellsOf 3)) := hf 2 _ rfl
  have h3 : Tr enc Try.prog w 30 ((cs.drop 26).take (Try.prog.cellsOf 30)) := hf 3 _ rfl
  have h4 : Tr enc Try.prog w 3 ((cs.drop 27).take (Try.prog.cellsOf 3)) := hf 4 _ rfl
  have h5 : Tr enc Try.prog w 3 ((cs.drop 28).take (Try.prog.cellsOf 3)) := hf 5 _ rfl
  have h6 : Tr enc Try.prog w 3 ((cs.drop 29).take (Try.prog.cellsOf 3)) := hf 6 _ rfl
  have h7 : Tr enc Try.prog w 4 ((cs.drop 30).take (Try.prog.cellsOf 4)) := hf 7 _ rfl
  rw [c3] at h0 h2 h4 h5 h6
  rw [c29] at h1
  rw [c30] at h3
  rw [c4] at h7
  obtain ⟨n0, e0, r0⟩ := op_int h0
  obtain ⟨x, e1⟩ := op_cube h1
  obtain ⟨n2, e2, r2⟩ := op_int h2
  obtain ⟨s, l, e3, hok, hz, hr⟩ := op_acts h3
  obtain ⟨n4, e4, r4⟩ := op_int h4
  obtain ⟨n5, e5, r5⟩ := op_int h5
  obtain ⟨n6, e6, r6⟩ := op_int h6
  obtain ⟨b, e7⟩ := h7.bool Try.underlying4
  refine ⟨(⟨n0, x, n2, l, n4, n5, n6, b⟩, s), ?_, hok, hz, ⟨r0, r2, r4, r5, r6, hr⟩⟩
  have e : cs.drop 0 = (cs.drop 0).take 1 ++ ((cs.drop 1).take 24 ++ ((cs.drop 25).take 1 ++ ((cs.drop 26).take 1 ++ ((cs.drop 27).take 1 ++ ((cs.drop 28).take 1 ++ ((cs.drop 29).take 1 ++ ((cs.drop 30).take 1 ++ cs.drop 31))))))) := by
    rw [drop_split cs 30 1, drop_split cs 29 1, drop_split cs 28 1, drop_split cs 27 1, drop_split cs 26 1, drop_split cs 25 1, drop_split cs 1 24, drop_split cs 0 1]
  rw [e0, e1, e2, e3, e4, e5, e6, e7, List.drop_eq_nil_of_le (by omega : cs.length ≤ 31)] at e
  simpa [encMod] using e
structure MsgR (x : MsgD) : Prop where
  kind : i64R x.kind
  txn : i64R x.txn
  e : i64R x.e
  port : i64R x.port
  mod : ModR x.mod
  rules : ∀ r ∈ x.rules, RuleR r
theorem MsgR.i {x : MsgD} (h : MsgR x) : MsgI x := fun r hr => (h.rules r hr).i
end
end Go.Aw
namespace Go.Aw
open Go Go.Proofs Go.RowKit
section
variable {H : Type} {enc : TypeId × Value → H} {w : World} {cs : List Value}
theorem c5 : Try.prog.cellsOf 5 = 1 := by kernel_rfl
theorem slice_of {a : Option Addr} {len cap : Nat} {s : Sl} (h : (Value.slice a len cap).cells.toList = [s.v]) : Value.slice a len cap = s.v := (List.cons.inj (show [Value.slice a len cap] = [s.v] from h)).1
theorem int_of {k : IntKind} {n : Int} {v : Value} (h : (Value.int k n).cells.toList = [v]) : Value.int k n = v := (List.cons.inj (show [Value.int k n] = [v] from h)).1
end
theorem walk_of {f : FuncId} {args : List Value} {w : World} (h : Fn Try.prog f args (snapOf w) [] (fun v _ H' => v = .bool true ∧ H' = [])) : Calls Try.prog f args.toArray w fun e w' => e = .returned (.bool true) ∧ Below w.heap.size w w' :=
  (h w (St.start w)).mono fun e w' ⟨v, m', H', h1, h2, h3, h4, _⟩ => ⟨by rw [h1, h4], below_of h2 h3⟩
end Go.Aw
namespace Go.Aw
open Go
theorem cput_some : ∀ (l : List Value) (o : Nat) (us : List Value), o + us.length ≤ l.length → cput l o us = some (l.take o ++ us ++ l.drop (o + us.length))
  | l, 0, [], _ => by simp [cput]
  | [], 0, _ :: _, h => by simp at h
  | v :: r, 0, u :: us, h => by
    have := cput_some r 0 us (by simp at h ⊢; omega)
    simp only [cput, this]
    simp
  | [], o + 1, us, h => by simp at h
  | v :: r, o + 1, us, h => by
    have := cput_some r o us (by simp at h ⊢; omega)
    simp only [cput, this]
    rw [show o + 1 + us.length = (o + us.length) + 1 by omega]
    simp
theorem cput_mid {A B l us x : List Value} {o : Nat} (h : cput l o us = some x) : cput (A ++ (l ++ B)) (A.length + o) us = some (A ++ (x ++ B)) := by
  obtain ⟨h1, h2⟩ := cput_spec l o us x h
  rw [cput_some _ _ _ (by simp; omega), h2]
  congr 1
  rw [List.take_append, List.take_of_length_le (by omega : A.length ≤ A.length + o), Nat.add_sub_cancel_left, List.take_append_of_le_length (by omega)]
  rw [show A.length + o + us.length = A.length + (o + us.length) by omega, List.drop_append, List.drop_eq_nil_of_le (by omega : A.length ≤ A.length + (o + us.length)), Nat.add_sub_cancel_left, List.drop_append_of_le_length (by omega)]
  simp
theorem flatten_set {s : Nat} : ∀ {cs : List (List Value)}, (∀ c ∈ cs, c.length = s) → ∀ {k j : Nat} {c c' us : List Value}, cs[k]? = some c → cput c j us = some c' →
    ∃ A B, cs.flatten = A ++ (c ++ B) ∧ (cs.set k c').flatten = A ++ (c' ++ B) ∧ A.length = k * s
  | [], _, k, j, c, c', us, hk, _ => by simp at hk
  | x :: r, h, 0, j, c, c', us, hk, hp => by
    simp only [List.getElem?_cons_zero, Option.some.injEq] at hk
    subst hk
    exact ⟨[], r.flatten, by simp, by simp, by simp⟩
  | x :: r, h, k + 1, j, c, c', us, hk, hp => by
    obtain ⟨A, B, h1, h2, h3⟩ := flatten_set (fun y hy => h y (List.mem_cons_of_mem _ hy)) (by simpa using hk) hp
    refine ⟨x ++ A, B, by simp [h1], by simp [h2], ?_⟩
    rw [List.length_append, h x List.mem_cons_self, h3, Nat.add_mul, Nat.one_mul, Nat.add_comm]
theorem cput_len {l us x : List Value} {o : Nat} (h : cput l o us = some x) : x.length = l.length := by
  obtain ⟨h1, h2⟩ := cput_spec l o us x h
  rw [h2]; simp; omega
section
variable {P : Program} {n : Nat} {Q : Post} {L : Slots} {m : Snap} {H : Hp} {ops : Array Oper} {rest : List Oper} {d : Option Tmp} {ty : TypeId} {ps : String} {af : Array Edge} {gd : Option (Nat × Bool)}
/-- A store into an element of a slice of the call's own. -/
theorem s_storev {K : Slots → Snap → Hp → Prop} {t e : TypeId} {x y : Operand} {i k j len cap s sz : Nat} {sh : Bool} {a : Option Addr} {v : Value} {us c c' : List Value} {cs : List (List Value)} (hd : dstOk n d = true) (hx : opv L x = some (.pointer (eadd a (k * s + j)))) (hy : opv L y = some v)
    (hT : tshape P t = some (sh, sz)) (hv : v.cells = us.toArray) (hl : us.length = sz) (h1 : ∀ u ∈ us, u.oneCell' = true)
    (hi : hget H i = some (.vec a len cap e s cs)) (hk : cs[k]? = some c) (hp : cput c j us = some c')
    (h : K (lput L d undef) m (hset H i (.vec a len cap e s (cs.set k c')))) : SP P n L m H ⟨d, .store t x y, ty, ps, af, gd⟩ K := by
  refine s_skip hd fun ac w hf hst => ?_
  have hh : Item.holds w (.vec a len cap e s cs) := hst.hold _ (hget_mem hi)
  obtain ⟨hown, hcl, hce⟩ := hh
  have hklt : k < len := by have := (List.getElem?_eq_some_iff.1 hk).1; omega
  rcases hown.2 with ⟨_, h0⟩ | ⟨g, cap', cur, hva, hb, hg, hle, hm, hsz, htake⟩
  · omega
  · cases hva
    obtain ⟨A, B, e1, e2, e3⟩ := flatten_set hce hk hp
    obtain ⟨S, hS⟩ : ∃ S, cur.toList = A ++ (c ++ (B ++ S)) := by
      refine ⟨cur.toList.drop (len * s), ?_⟩
      have := List.take_append_drop (len * s) cur.toList
      rw [htake, e1, List.append_assoc, List.append_assoc] at this
      exact this.symm
    have hput : cput cur.toList (k * s + j) us = some (A ++ (c' ++ (B ++ S))) := by rw [hS, ← e3]; exact cput_mid hp
    have hg' : w.heap[g]? = some (.cells cur.toList.toArray e (0, 0)) := by simpa using hg
    have hst' := run_store_row (P := P) hT hv hl h1 hput hg'
    refine ⟨m, _, w.setRow g (A ++ (c' ++ (B ++ S))).toArray, ?_, ?_, h⟩
    · simp only [eadd, Nat.zero_add] at hx
      simp [execOp, hf.eval hx, hf.eval hy, Instr.storeAt, Instr.sureAddr, hst']
    · have hlen := cput_len hput
      have hc' := cput_len hp
      refine hst.write_at hi rfl ?_ rfl rfl rfl fun q hq _ => setRow_other w g q _ ?_
      · have hall : ∀ z ∈ cs.set k c', z.length = s := fun z hz => by
          rcases List.mem_or_eq_of_mem_set hz with hz | rfl
          · exact hce z hz
          · rw [hc']; exact hce c (List.mem_of_getElem? hk)
        refine ⟨⟨by rw [length_flatten hall, List.length_set, hcl], .inr ⟨g, cap, _, rfl, hb, setRow_heap w g _ _ _ _ hg', hle, hm, ?_, ?_⟩⟩, by simpa using hcl, hall⟩
        · rw [List.size_toArray, hlen]; simpa using hsz
        · rw [List.toList_toArray, ← List.append_assoc c', ← List.append_assoc, ← e2]
          have hfl : (cs.set k c').flatten.length = len * s := by rw [length_flatten hall, List.length_set, hcl]
          rw [List.take_append_of_le_length (by omega)]
          exact List.take_of_length_le (by omega)
      · simpa [Item.own] using hq
end
/-- A contract whose end may be told otherwise. -/
theorem Fn.post {P : Program} {f : FuncId} {args : List Value} {m : Snap} {H : Hp} {R R' : Value → Snap → Hp → Prop} (h : Fn P f args m H R)
    (hr : ∀ v m' H' w, m.le m' → St m' H' w → R v m' H' → ∃ m2 H2, m'.le m2 ∧ St m2 H2 w ∧ R' v m2 H2) : Fn P f args m H R' :=
  fun w hs => (h w hs).mono fun _ _ ⟨v, m', H', h1, h2, h3, h4⟩ => by
    obtain ⟨m2, H2, g1, g2, g3⟩ := hr v m' H' _ h2 h3 h4
    exact ⟨v, m2, H2, h1, h2.trans g1, g2, g3⟩
end Go.Aw
namespace Go.Aw
open Go
section
variable {P : Program} {n : Nat} {L : Slots} {m : Snap} {H : Hp} {d : Option Tmp} {ty : TypeId} {ps : String} {af : Array Edge} {gd : Option (Nat × Bool)}
theorem y_conv_un {src dst : TypeId} {x : Operand} {k : IntKind} {a : Nat} (hx : opv L x = some (.int k (a : Int))) (hs : P.underlying src = some (.int k)) (ht : P.underlying dst = some (.int .i64)) (ha : a ≤ 9223372036854775807) :
    Yl P n L m H ⟨d, .convert src dst x, ty, ps, af, gd⟩ (.int .i64 (a : Int)) :=
  y_conv_int hx (by rw [hs]; rfl) ht (wrap_nat (by omega) rfl)
end
end Go.Aw
namespace Go.Aw
open Go
theorem chunks {s : Nat} : ∀ (n : Nat) (l : List Value), l.length = n * s → ∃ rows : List (List Value), rows.length = n ∧ (∀ c ∈ rows, c.length = s) ∧ rows.flatten = l
  | 0, l, h => ⟨[], rfl, fun c hc => (by cases hc), by simp at h; simp [h]⟩
  | n + 1, l, h => by
    rw [Nat.add_mul, Nat.one_mul] at h
    obtain ⟨rows, h1, h2, h3⟩ := chunks (s := s) n (l.drop s) (by simp; omega)
    refine ⟨l.take s :: rows, by simp [h1], fun c hc => ?_, by simp [h3]⟩
    rcases List.mem_cons.1 hc with rfl | hc
    · simp; omega
    · exact h2 c hc
/-- A new row is a slice of the call's own. -/
theorem St.blkVec {m : Snap} {H : Hp} {w : World} {b n cap s : Nat} {e : TypeId} {cur : Array Value} {cs : List (List Value)} (h : St m (.blk b (.cells cur e (0, 0)) :: H) w) (hle : n ≤ cap) (hm : cap ≤ maxLen) (hsz : cur.size = cap * s)
    (hl : cs.length = n) (he : ∀ c ∈ cs, c.length = s) (ht : cur.toList.take (n * s) = cs.flatten) : St m (.vec (some ⟨b, 0, none⟩) n cap e s cs :: H) w := by
  have hb : w.heap[b]? = some (.cells cur e (0, 0)) := h.hold _ List.mem_cons_self
  have ho : owned (.vec (some ⟨b, 0, none⟩) n cap e s cs :: H) = owned (.blk b (.cells cur e (0, 0)) :: H) := by simp [owned, Item.own]
  refine ⟨h.os, h.tape, h.output, h.frz, fun it hit => ?_, by rw [ho]; exact h.nodup, by rw [ho]; exact h.apart⟩
  rcases List.mem_cons.1 hit with rfl | hit
  · exact ⟨⟨by rw [length_flatten he, hl], .inr ⟨b, cap, cur, rfl, Nat.zero_le _, hb, hle, hm, hsz, ht⟩⟩, hl, he⟩
  · exact h.hold it (List.mem_cons_of_mem _ hit)
/-- append(s[:i], make([]T, z)...) where there is no room. -/
theorem run_append_grow_zeros {P : Program} (w : World) (t tn ty e : TypeId) (i : TypeInfo) (z : Value) (k kn : IntKind) (ht : P.underlying t = some (.slice e)) (htn : P.underlying tn = some (.int kn)) (hi : P.info? e = some i) (hz : i.zero = some z)
    (base : Option Addr) (sLen sCap n : Nat) (olds : List Value) (hold : (Builtin.firstCells i.size sLen (.slice base sLen sCap)).run P w.drew = .ok olds.toArray w.drew) (h0 : 0 < n) (hs : 0 < i.size) (hg : sCap < sLen + n) (h63 : ((sLen + n : Nat) : Int) ≤ 9223372036854775807)
    (h48 : n * i.bytes ≤ 281474976710656) (hfit : Builtin.nextslicecap (sLen + n) sCap * i.bytes ≤ 281474976710656) :
    (Builtin.append_ #[t, tn] ty #[.slice base sLen sCap, .int k n]).run P w =
      .ok (.slice (some ⟨w.heap.size, 0, none⟩) (sLen + n) (grownCap w (sLen + n) sCap e)) (w.drew.alloc (.cells (olds.toArray ++ Builtin.zeroCells z.cells n ++ Builtin.zeroCells z.cells (grownCap w (sLen + n) sCap e - (sLen + n))) e)) := by
  have hn : n ≠ 0 := by omega
  have hw : IntKind.i64.wrap (n : Int) = n := by rw [IntKind.wrap_i64]; omega
  have hroom : ¬ (sLen + n ≤ sCap) := by omega
  have h63' : ¬ (9223372036854775807 < ((sLen : Int) + (n : Int))) := by omega
  have h48' : ¬ (281474976710656 < Builtin.nextslicecap (sLen + n) sCap * i.bytes) := by omega
  have h48i : ¬ (281474976710656 < (n : Int) * (i.bytes : Int)) := by
    rw [← Int.natCast_mul]
    omega
  have hneg : ¬ ((n : Int) < 0) := by omega
  have hns : ¬ (n * i.size = 0) := Nat.mul_ne_zero hn (by omega)
  simp [Builtin.append_, run_underlying ht, run_underlying htn, sizeOf, typeInfo, zeroValue, hi, hz, asInt, asIntOf, hw, hn, hneg, hns, hroom, h63', h48', h48i, Question.forced, hold, newRow, grownCap]
theorem run_copy_rows {P : Program} (w : World) (dT sT ty elem : TypeId) (g o dLen dCap sz : Nat) (sa : Option Addr) (sLen sCap : Nat) (cur : Array Value) (t : TypeId) (cs : List Value)
    (hu : P.underlying dT = some (.slice elem)) (hs : (P.info? elem).map (·.size) = some sz)
    (hg : w.heap[g]? = some (.cells cur t (0, 0))) (hn : cs.length = Nat.min sLen dLen * sz)
    (hsrc : (sa = none ∧ cs = []) ∨ ∃ a, sa = some a ∧ ∀ j v, cs[j]? = some v → w.cell? (a.add j) = some v) (hfit : o + cs.length ≤ cur.size) (h1 : ∀ v ∈ cs, v.oneCell' = true) :
    (Builtin.copy_ #[dT, sT] ty #[.slice (some ⟨g, o, none⟩) dLen dCap, .slice sa sLen sCap]).run P w =
      .ok (goInt (Nat.min sLen dLen)) (w.setRow g (cur.toList.take o ++ cs ++ cur.toList.drop (o + cs.length)).toArray) := by
  have hst := run_storeCells_at P g o t cs 0 cur w hg (by simpa using hfit) h1
  cases hq : P.info? elem with
  | none => simp [hq] at hs
  | some i =>
    have hi : i.size = sz := by simpa [hq] using hs
    rcases hsrc with ⟨rfl, rfl⟩ | ⟨a, rfl, hsrc⟩
    · simp [Builtin.copy_, run_underlying hu, Builtin.lenOf, Builtin.firstCells, sizeOf, typeInfo, hq, hst]
    · have hl := run_loadCells_list (P := P) w a cs hsrc
      simp [Builtin.copy_, run_underlying hu, Builtin.lenOf, Builtin.firstCells, sizeOf, typeInfo, hq, hi, ← hn, hl, hst]
section
variable {P : Program} {n : Nat} {Q : Post} {L : Slots} {m : Snap} {H : Hp} {ops : Array Oper} {rest : List Oper} {d : Option Tmp} {ty : TypeId} {ps : String} {af : Array Edge} {gd : Option (Nat × Bool)}
theorem y_eqnil {t t' e : TypeId} {x : Operand} {a : Option Addr} {len cap : Nat} (ht : P.underlying t = some (.slice e)) (hx : opv L x = some (.slice a len cap)) :
    Yl P n L m H ⟨d, .binOp .eql t x (.const (.slice none 0 0)) t', ty, ps, af, gd⟩ (.bool a.isNone) :=
  y_bin hx rfl (fun w _ => by
    have hg : (eqGuard .eql t x (.const (.slice none 0 0)) (.slice a len cap) (.slice none 0 0)).run P w = .ok () w := rfl
    rw [Sem.run_bind, hg, Result.andThen_ok, Lib.run_eql_slice_nil w t e a len cap 0 0 ht])
/-- s[:n:n]. -/
theorem y_clip {t e : TypeId} {x o2 o3 : Operand} {k2 k3 : IntKind} {a : Option Addr} {len cap s : Nat} (hx : opv L x = some (.slice a len cap)) (ht : tslice P t = some (e, s)) (h2 : opv L o2 = some (.int k2 (len : Int))) (h3 : opv L o3 = some (.int k3 (len : Int))) (hc : len ≤ cap) :
    Yl P n L m H ⟨d, .slice t x none (some o2) (some o3), ty, ps, af, gd⟩ (.slice a len len) := by
  intro ac hf w _
  have hsb : ∀ (kd : IntKind) (x y : Nat) (code : BoundsCode), x ≤ y → (Instr.sliceBound (.int kd (x : Int)) y code).run P w = .ok x w := by
    intro kd x y code hxy
    simp [Instr.sliceBound, asIntOf, hxy]
  unfold tslice at ht
  simp only [execOp, hf.eval hx, Instr.sliceAt]
  cases hu : P.underlying t with
  | none => simp [hu] at ht
  | some D =>
    cases D <;> simp only [hu, reduceCtorEq] at ht
    rename_i e'
    cases hi' : P.info? e' with
    | none => simp [hi'] at ht
    | some i =>
      have hb : (Instr.sliceBounds true len cap none (some (ac.eval o2)) (some (ac.eval o3))).run P w = .ok (0, len, len) w := by
        unfold Instr.sliceBounds
        simp only [hf.eval h2, hf.eval h3]
        simp [hsb, hc]
      simp only [Option.map_none, Option.map_some]
      simp [run_underlying hu, Instr.slice, hb, sizeOf, typeInfo, hi', Addr.add]
theorem y_cap {t e : TypeId} {x : Operand} {s : Nat} {a : Option Addr} {len cap : Nat} (ht : tslice P t = some (e, s)) (hx : opv L x = some (.slice a len cap)) :
    Yl P n L m H ⟨d, .call ⟨.builtin .cap, [x].toArray, [t].toArray⟩, ty, ps, af, gd⟩ (.int .i64 (cap : Int)) := fun ac hf w _ => by
  unfold tslice at ht
  cases hu : P.underlying t with
  | none => simp [hu] at ht
  | some D =>
    cases D <;> simp only [hu, reduceCtorEq] at ht
    simp [execOp, resolve, invoke, builtin, Builtin.cap_, run_underlying hu, hf.eval hx, goInt]
/-- append(s[:k], make([]T, z)...) where there is no room: a new row; what it holds behind k is not told. -/
theorem s_appendz {K : Slots → Snap → Hp → Prop} {t tn e : TypeId} {x y : Operand} {i len cap k z s B : Nat} {kn kd : IntKind} {a a' : Option Addr} {cs : List (List Value)} (hd : dstOk n d = true)
    (hx : opv L x = some (.slice a' k cap)) (ha : 0 < k → a' = a) (ha0 : k = 0 → a' = none ∨ ∃ b, a' = some b) (hy : opv L y = some (.int kd (z : Int))) (ht : tslice P t = some (e, s)) (htn : P.underlying tn = some (.int kn)) (hz : zeroOk P e = true) (hB : tbytes P e = some B)
    (hi : hget H i = some (.vec a len cap e s cs)) (hkl : k ≤ len) (hz0 : 0 < z) (hno : cap < k + z) (hfit : (k + z) * B ≤ 140737488355328) (hlen : k + z ≤ maxLen)
    (h : ∀ b cap' zs, zs.length = z → (∀ c ∈ zs, c.length = s) → K (lput L d (.slice (some ⟨b, 0, none⟩) (k + z) cap')) m (.vec (some ⟨b, 0, none⟩) (k + z) cap' e s (cs.take k ++ zs) :: H)) :
    SP P n L m H ⟨d, .call ⟨.builtin .append, [x, y].toArray, [t, tn].toArray⟩, ty, ps, af, gd⟩ K := by
  refine s_value hd fun ac w hf hst => ?_
  have hhold : Item.holds w (.vec a len cap e s cs) := hst.hold _ (hget_mem hi)
  have hcl := hhold.2.1
  have hce := hhold.2.2
  unfold tslice at ht
  cases hu : P.underlying t with
  | none => simp [hu] at ht
  | some D =>
    cases D <;> simp only [hu, reduceCtorEq] at ht
    rename_i e'
    cases hinf : P.info? e' with
    | none => simp [hinf] at ht
    | some inf =>
      simp only [hinf, Option.some.injEq, Prod.mk.injEq] at ht
      obtain ⟨rfl, rfl⟩ := ht
      unfold zeroOk at hz
      simp only [hinf] at hz
      cases hzv : inf.zero with
      | none => simp [hzv] at hz
      | some zv =>
        simp only [hzv, Bool.and_eq_true, beq_iff_eq, Nat.blt_eq] at hz
        have hBy : inf.bytes = B := by simpa [tbytes, hinf] using hB
        have hml : maxLen = 9223372036854775807 := rfl
        have hfit' : Builtin.nextslicecap (k + z) cap * inf.bytes ≤ 281474976710656 := growslice_fits (by omega) (by rw [hBy]; exact hfit)
        have hB2 : z * inf.bytes ≤ 281474976710656 := by
          rw [hBy]
          exact Nat.le_trans (Nat.mul_le_mul_right _ (by omega : z ≤ k + z)) (by omega)
        have hct : ∀ c ∈ cs.take k, c.length = inf.size := fun c hc => hce c (List.mem_of_mem_take hc)
        have hcl2 : (cs.take k).length = k := by simp; omega
        have hold : (Builtin.firstCells inf.size k (.slice a' k cap)).run P w.drew = .ok (cs.take k).flatten.toArray w.drew := by
          rcases Nat.eq_zero_or_pos k with hk0 | hk0
          · subst hk0
            cases a' <;> simp [Builtin.firstCells, loadCells, loadCellsFrom]
          · rw [ha hk0]
            rcases hhold.1.2 with ⟨_, h0⟩ | ⟨g, cap', cur, hv, hb, hg, hle, hm, hsz, htake⟩
            · omega
            · cases hv
              refine run_firstCells_some _ _ _ _ _ _ _ (by rw [length_flatten hct, hcl2]) fun j u hj => ?_
              rw [addr_add]
              have hj2 : cs.flatten[j]? = some u := by
                have := List.take_append_drop k cs
                rw [← this, List.flatten_append]
                rw [List.getElem?_append_left (List.getElem?_eq_some_iff.1 hj).1]
                exact hj
              have hlt : j < len * inf.size := by
                have := (List.getElem?_eq_some_iff.1 hj2).1
                rwa [length_flatten hce, hcl] at this
              have := hhold.1.cellAt j hlt
              simp only [Nat.zero_add]
              show w.cell? _ = _
              rw [this, hj2]
        have hr := run_append_grow_zeros (P := P) w t tn ty e' inf zv kd kn hu htn hinf hzv a' k cap z _ hold hz0 hz.2 hno (by omega) hB2 hfit'
        have hge := grownCap_ge w (k + z) cap e'
        have hcm := grownCap_le_maxLen w (k + z) cap e' hlen
        obtain ⟨zs, z1, z2, z3⟩ := chunks (s := inf.size) z (Builtin.zeroCells zv.cells z).toList (by rw [Array.length_toList, size_zeroCells, hz.1])
        have hlast : (cs.take k ++ zs).length = k + z ∧ ∀ l ∈ cs.take k ++ zs, l.length = inf.size := ⟨by rw [List.length_append, hcl2, z1], fun l hl => by
            rcases List.mem_append.1 hl with h1 | h1
            · exact hct l h1
            · exact z2 l h1⟩
        have hexec : ∀ v' w', (Builtin.append_ #[t, tn] ty #[.slice a' k cap, .int kd z]).run P w = .ok v' w' →
            (execOp ac.eval ⟨d, .call ⟨.builtin .append, [x, y].toArray, [t, tn].toArray⟩, ty, ps, af, gd⟩).run P w = .ok (.value v') w' := by
          intro v' w' hr
          simp [execOp, resolve, invoke, builtin, hf.eval hx, hf.eval hy, hr]
        refine ⟨_, m, _, _, hexec _ _ hr, (St.blkVec (cs := cs.take k ++ zs) (cap := grownCap w (k + z) cap e') ((hst.drawn _).alloc _) hge hcm ?_ hlast.1 hlast.2 ?_), h _ _ zs z1 z2⟩
        · rw [Array.size_append, Array.size_append, size_zeroCells, size_zeroCells, hz.1, List.size_toArray, length_flatten hct, hcl2, ← Nat.add_mul, ← Nat.add_mul]
          congr 1
          omega
        · rw [Array.toList_append, Array.toList_append, List.toList_toArray, ← z3, ← List.flatten_append, List.take_append_of_le_length (by rw [length_flatten hlast.2, hlast.1]; exact Nat.le_refl _)]
          exact List.take_of_length_le (by rw [length_flatten hlast.2, hlast.1]; exact Nat.le_refl _)
end
end Go.Aw
namespace Go.Aw
open Go
/-- The first c rows behind a slice of cnt elements. -/
structure SrcW (m : Snap) (H : Hp) (v : Value) (cnt c s : Nat) (news : List (List Value)) : Prop where
  len : news.length = c
  each : ∀ r ∈ news, r.length = s
  one : ∀ r ∈ news, ∀ u ∈ r, u.oneCell' = true
  get : ∀ w, St m H w → ∃ sa sc, v = .slice sa cnt sc ∧ ((sa = none ∧ news = []) ∨ ∃ a, sa = some a ∧ ∀ (j : Nat) (u : Value), news.flatten[j]? = some u → w.cell? (a.add j) = some u)
theorem SrcW.of {m : Snap} {H : Hp} {v : Value} {k s : Nat} {news : List (List Value)} (h : Src m H v k s news) : SrcW m H v k k s news :=
  ⟨h.len, h.each, h.one, fun w hs => by
    rcases h.get with ⟨rfl, rfl⟩ | ⟨a, c, rfl, hc⟩
    · exact ⟨none, 0, rfl, .inl ⟨rfl, List.eq_nil_of_length_eq_zero h.len⟩⟩
    · exact ⟨some a, c, rfl, .inr ⟨a, rfl, hc w hs⟩⟩⟩
theorem sadd_lit {g k s cap : Nat} (h : k < cap) : sadd (some ⟨g, 0, none⟩) k s cap = some ⟨g, k * s, none⟩ := by
  unfold sadd
  rw [if_neg (by omega)]
  simp [addr_add]
/-- The rows of a slice of the call's own, from lo on. -/
theorem SrcW.vec {m : Snap} {H : Hp} {i len cap cap0 s lo cnt c sc : Nat} {a : Option Addr} {e : TypeId} {cs : List (List Value)} (hi : hget H i = some (.vec a len cap e s cs)) (hlo : lo < cap0) (hc : lo + c ≤ len) (hl : lo < len) (h1 : ∀ r ∈ (cs.drop lo).take c, ∀ u ∈ r, u.oneCell' = true)
    (hce : ∀ r ∈ cs, r.length = s) (hcl : cs.length = len) : SrcW m H (.slice (sadd a lo s cap0) cnt sc) cnt c s ((cs.drop lo).take c) := by
  refine ⟨by simp; omega, fun r hr => hce r (List.mem_of_mem_drop (List.mem_of_mem_take hr)), h1, fun w hs => ?_⟩
  have hh : Item.holds w (.vec a len cap e s cs) := hs.hold _ (hget_mem hi)
  rcases hh.1.2 with ⟨_, h0⟩ | ⟨g, cap', cur, hv, _⟩
  · omega
  · cases hv
    refine ⟨_, sc, rfl, .inr ⟨⟨g, lo * s, none⟩, sadd_lit hlo, fun j u hj => ?_⟩⟩
    rw [addr_add]
    have hfl : cs.flatten[lo * s + j]? = some u := by
      have e1 : cs = cs.take lo ++ ((cs.drop lo).take c ++ cs.drop (lo + c)) := by rw [← List.drop_drop, List.take_append_drop, List.take_append_drop]
      have hl1 : (cs.take lo).flatten.length = lo * s := by rw [length_flatten (fun r hr => hce r (List.mem_of_mem_take hr)), List.length_take, Nat.min_eq_left (by omega)]
      rw [e1, List.flatten_append, List.flatten_append, List.getElem?_append_right (by omega), hl1, Nat.add_sub_cancel_left, List.getElem?_append_left (List.getElem?_eq_some_iff.1 hj).1]
      exact hj
    have hlt : lo * s + j < len * s := by
      have := (List.getElem?_eq_some_iff.1 hfl).1
      rwa [length_flatten hce, hcl] at this
    rw [hh.1.cellAt (lo * s + j) hlt, hfl]
theorem hget_ne : ∀ {H : Hp} {i j : Nat} {x y : Item}, hget H i = some x → hget H j = some y → i ≠ j → y ∈ hdel H i
  | [], _, _, _, _, h, _, _ => by simp [hget] at h
  | v :: r, 0, 0, _, _, _, _, hne => absurd rfl hne
  | v :: r, 0, j + 1, _, _, _, h2, _ => hget_mem (H := r) (i := j) (by simpa [hget] using h2)
  | v :: r, i + 1, 0, _, y, _, h2, _ => by simp only [hget, Option.some.injEq] at h2; subst h2; exact List.mem_cons_self
  | v :: r, i + 1, j + 1, _, _, h1, h2, hne => List.mem_cons_of_mem _ (hget_ne (H := r) (by simpa [hget] using h1) (by simpa [hget] using h2) (by omega))
theorem St.apart2 {m : Snap} {H : Hp} {w : World} {i j : Nat} {x y : Item} (h : St m H w) (hi : hget H i = some x) (hj : hget H j = some y) (hne : i ≠ j) : ∀ k ∈ x.own, k ∉ y.own := by
  have hp := (h.perm (hget_perm hi).1).nodup
  simp only [owned, List.flatMap_cons, List.nodup_append] at hp
  intro k hk hy
  exact hp.2.2 k hk k (mem_owned.2 ⟨y, hget_ne hi hj hne, hy⟩) rfl
section
variable {P : Program} {n : Nat} {Q : Post} {L : Slots} {m : Snap} {H : Hp} {ops : Array Oper} {rest : List Oper} {d : Option Tmp} {ty : TypeId} {ps : String} {af : Array Edge} {gd : Option (Nat × Bool)} {fuel : Nat} {listed : Array Bool}
theorem s_copyv {K : Slots → Snap → Hp → Prop} {t t2 e : TypeId} {x y : Operand} {i k len cap cap0 s cnt c dl dc : Nat} {a : Option Addr} {v : Value} {cs news : List (List Value)} (hd : dstOk n d = true) (hx : opv L x = some (.slice (sadd a k s cap0) dl dc)) (hy : opv L y = some v)
    (ht : tslice P t = some (e, s)) (hi : hget H i = some (.vec a len cap e s cs)) (hk : k < cap0) (hkl : k < len) (hs : SrcW m H v cnt c s news) (hmin : min cnt dl = c) (hfit : k + c ≤ len)
    (h : K (lput L d (.int .i64 (c : Int))) m (hset H i (.vec a len cap e s (cs.take k ++ (news ++ cs.drop (k + c)))))) : SP P n L m H ⟨d, .call ⟨.builtin .copy, [x, y].toArray, [t, t2].toArray⟩, ty, ps, af, gd⟩ K := by
  refine s_value hd fun ac w hf hst => ?_
  have hh : Item.holds w (.vec a len cap e s cs) := hst.hold _ (hget_mem hi)
  have hcl := hh.2.1
  have hce := hh.2.2
  unfold tslice at ht
  cases hu : P.underlying t with
  | none => simp [hu] at ht
  | some D =>
    cases D <;> simp only [hu, reduceCtorEq] at ht
    rename_i e'
    cases hinf : P.info? e' with
    | none => simp [hinf] at ht
    | some inf =>
      simp only [hinf, Option.some.injEq, Prod.mk.injEq] at ht
      obtain ⟨rfl, rfl⟩ := ht
      rcases hh.1.2 with ⟨_, h0⟩ | ⟨g, cap', cur, hva, hb, hg, hle, hm, hsz, htake⟩
      · omega
      · cases hva
        rw [sadd_lit hk] at hx
        obtain ⟨sa, sc, rfl, hsrc⟩ := hs.get w hst
        have hnl : news.flatten.length = c * inf.size := by rw [length_flatten hs.each, hs.len]
        have e1 : cs = cs.take k ++ ((cs.drop k).take c ++ cs.drop (k + c)) := by rw [← List.drop_drop, List.take_append_drop, List.take_append_drop]
        have hA : (cs.take k).flatten.length = k * inf.size := by rw [length_flatten (fun r hr => hce r (List.mem_of_mem_take hr)), List.length_take, Nat.min_eq_left (by omega)]
        have hM : ((cs.drop k).take c).flatten.length = c * inf.size := by rw [length_flatten (fun r hr => hce r (List.mem_of_mem_drop (List.mem_of_mem_take hr))), List.length_take, List.length_drop, Nat.min_eq_left (by omega)]
        obtain ⟨S, hS⟩ : ∃ S, cur.toList = (cs.take k).flatten ++ (((cs.drop k).take c).flatten ++ ((cs.drop (k + c)).flatten ++ S)) := by
          refine ⟨cur.toList.drop (len * inf.size), ?_⟩
          have := List.take_append_drop (len * inf.size) cur.toList
          have e2 : cs.flatten = (cs.take k).flatten ++ (((cs.drop k).take c).flatten ++ (cs.drop (k + c)).flatten) := by rw [← List.flatten_append, ← List.flatten_append, ← e1]
          rw [htake, e2, List.append_assoc, List.append_assoc] at this
          exact this.symm
        have hlen : cur.size = (cs.take k).flatten.length + (((cs.drop k).take c).flatten.length + ((cs.drop (k + c)).flatten.length + S.length)) := by
          have := congrArg List.length hS
          simpa using this
        have hr := run_copy_rows (P := P) w t t2 ty e' g (k * inf.size) dl dc inf.size sa cnt sc cur e' news.flatten hu (by rw [hinf]; rfl) hg (by rw [hnl]; congr 1; exact hmin.symm)
          (by rcases hsrc with ⟨h1, h2⟩ | h1
              · exact .inl ⟨h1, by rw [h2]; rfl⟩
              · exact .inr h1) (by omega) (fun u hu => by obtain ⟨l, hl, hul⟩ := List.mem_flatten.1 hu; exact hs.one l hl u hul)
        have hn' : cur.toList.take (k * inf.size) ++ news.flatten ++ cur.toList.drop (k * inf.size + news.flatten.length) = (cs.take k).flatten ++ (news.flatten ++ ((cs.drop (k + c)).flatten ++ S)) := by
          rw [hS, ← hA, List.take_left, hnl, ← hM, ← List.append_assoc (cs.take k).flatten, ← List.length_append, List.drop_left]
          simp
        rw [hn'] at hr
        have hexec : (execOp ac.eval ⟨d, .call ⟨.builtin .copy, [x, y].toArray, [t, t2].toArray⟩, ty, ps, af, gd⟩).run P w = .ok (.value (.int .i64 (c : Int))) (w.setRow g ((cs.take k).flatten ++ (news.flatten ++ ((cs.drop (k + c)).flatten ++ S))).toArray) := by
          simp [execOp, resolve, invoke, builtin, hf.eval hx, hf.eval hy, hr, goInt]
          have : Nat.min cnt dl = c := hmin
          rw [this]
        refine ⟨_, m, _, _, hexec, ?_, h⟩
        · skip
          refine hst.write_at hi rfl ?_ rfl rfl rfl fun q hq _ => setRow_other w g q _ ?_
          · have hall : ∀ z ∈ cs.take k ++ (news ++ cs.drop (k + c)), z.length = inf.size := fun z hz => by
              rcases List.mem_append.1 hz with hz | hz
              · exact hce z (List.mem_of_mem_take hz)
              · rcases List.mem_append.1 hz with hz | hz
                · exact hs.each z hz
                · exact hce z (List.mem_of_mem_drop hz)
            have hl2 : (cs.take k ++ (news ++ cs.drop (k + c))).length = len := by simp [hs.len]; omega
            have hfl : (cs.take k ++ (news ++ cs.drop (k + c))).flatten.length = len * inf.size := by rw [length_flatten hall, hl2]
            refine ⟨⟨hfl, .inr ⟨g, cap, _, rfl, hb, setRow_heap w g _ _ _ _ hg, hle, hm, ?_, ?_⟩⟩, hl2, hall⟩
            · rw [List.size_toArray, ← hsz, hlen]
              simp only [List.length_append]
              omega
            · rw [List.toList_toArray, ← List.append_assoc news.flatten, ← List.append_assoc, ← List.flatten_append, ← List.flatten_append]
              rw [List.take_append_of_le_length (by omega)]
              exact List.take_of_length_le (by omega)
          · simpa [Item.own] using hq
/-- A slice of the call's own is told with more of its row. -/
theorem St.stretch {w : World} {i len cap s z : Nat} {a : Option Addr} {e : TypeId} {cs : List (List Value)} (h : St m H w) (hi : hget H i = some (.vec a len cap e s cs)) (hl : 0 < len) (hz : len + z ≤ cap) :
    ∃ zs : List (List Value), zs.length = z ∧ (∀ r ∈ zs, r.length = s) ∧ St m (hset H i (.vec a (len + z) cap e s (cs ++ zs))) w := by
  have hh : Item.holds w (.vec a len cap e s cs) := h.hold _ (hget_mem hi)
  have hcl := hh.2.1
  have hce := hh.2.2
  rcases hh.1.2 with ⟨_, h0⟩ | ⟨g, cap', cur, hva, hb, hg, hle, hm, hsz, htake⟩
  · omega
  · cases hva
    have hsp : (len + z) * s ≤ cur.size := by rw [hsz]; exact Nat.mul_le_mul_right _ hz
    rw [Nat.add_mul] at hsp
    obtain ⟨zs, h1, h2, h3⟩ := chunks (s := s) z ((cur.toList.drop (len * s)).take (z * s)) (by simp; omega)
    refine ⟨zs, h1, h2, ?_⟩
    refine h.write_at hi rfl ?_ rfl rfl rfl (fun _ _ _ => rfl)
    have hall : ∀ r ∈ cs ++ zs, r.length = s := fun r hr => by
      rcases List.mem_append.1 hr with hr | hr
      · exact hce r hr
      · exact h2 r hr
    refine ⟨⟨by rw [length_flatten hall, List.length_append, hcl, h1], .inr ⟨g, cap, cur, rfl, hb, hg, hz, hm, hsz, ?_⟩⟩, by rw [List.length_append, hcl, h1], hall⟩
    rw [List.flatten_append, h3, ← htake, Nat.add_mul, List.take_add]
theorem r_stretch {i len cap s z : Nat} {a : Option Addr} {e : TypeId} {cs : List (List Value)} {l : List Oper} (hi : hget H i = some (.vec a len cap e s cs)) (hl : 0 < len) (hz : len + z ≤ cap)
    (h : ∀ zs : List (List Value), zs.length = z → (∀ r ∈ zs, r.length = s) → Run P n ops Q l L m (hset H i (.vec a (len + z) cap e s (cs ++ zs)))) : Run P n ops Q l L m H := fun ac w hf hs => by
  obtain ⟨zs, h1, h2, h3⟩ := hs.stretch hi hl hz
  exact h zs h1 h2 ac w hf h3
/-- What an owned slice is known to be. -/
theorem r_vecfacts {i len cap s : Nat} {a : Option Addr} {e : TypeId} {cs : List (List Value)} {l : List Oper} (hi : hget H i = some (.vec a len cap e s cs))
    (h : len ≤ cap → cap ≤ maxLen → cs.length = len → (∀ r ∈ cs, r.length = s) → (a = none → cap = 0) → Run P n ops Q l L m H) : Run P n ops Q l L m H := fun ac w hf hs => by
  have hh : Item.holds w (.vec a len cap e s cs) := hs.hold _ (hget_mem hi)
  have hk : len ≤ cap ∧ cap ≤ maxLen ∧ (a = none → cap = 0) := by
    rcases hh.1.2 with ⟨hv, h0⟩ | ⟨g, cap', cur, hv, _, _, hle, hm, _⟩
    · cases hv; exact ⟨Nat.le_refl _, Nat.zero_le _, fun _ => rfl⟩
    · cases hv; exact ⟨hle, hm, fun h => by cases h⟩
  exact h hk.1 hk.2.1 hh.2.1 hh.2.2 hk.2.2 ac w hf hs
/-- slices.overlaps: a block of the call's own, and a slice of the call's own in another block. -/
theorem s_overlaps {K : Slots → Snap → Hp → Prop} {f : FuncId} {fn : Func} {x y : Operand} {ats : Array TypeId} {tS tR e e2 : TypeId} {b la ca lb cb i j k s len cap cap0 : Nat} {bc : List Value} {a : Option Addr} {cs : List (List Value)} (hd : dstOk n d = true)
    (hf : P.funcs[f]? = some fn) (hname : (fn.name == "runtime.NumGoroutine") = false) (hb : fn.body.isNone = true) (hn : Extern.findNext fn = none) (he : Extern.find fn = some (Extern.SlicesOverlaps.overlaps #[tS, tS] #[tR])) (ht : tslice P tS = some (e, s)) (hs0 : 0 < s)
    (hx : opv L x = some (.slice (some ⟨b, 0, none⟩) la ca)) (hy : opv L y = some (.slice (sadd a k s cap0) lb cb)) (hi : hget H i = some (.blk b (.cells bc.toArray e2 (0, 0)))) (hj : hget H j = some (.vec a len cap e s cs)) (hij : i ≠ j) (hl : 0 < len) (hk : k < cap0)
    (h : K (lput L d (.bool false)) m H) : SP P n L m H ⟨d, .call ⟨.value (.func f), [x, y].toArray, ats⟩, ty, ps, af, gd⟩ K := by
  refine s_value hd fun ac w hfr hst => ?_
  have hh : Item.holds w (.vec a len cap e s cs) := hst.hold _ (hget_mem hj)
  have hB : w.heap[b]? = some (.cells bc.toArray e2 (0, 0)) := hst.hold _ (hget_mem hi)
  unfold tslice at ht
  cases hu : P.underlying tS with
  | none => simp [hu] at ht
  | some D =>
    cases D <;> simp only [hu, reduceCtorEq] at ht
    rename_i e'
    cases hinf : P.info? e' with
    | none => simp [hinf] at ht
    | some inf =>
      simp only [hinf, Option.some.injEq, Prod.mk.injEq] at ht
      obtain ⟨rfl, rfl⟩ := ht
      rcases hh.1.2 with ⟨_, h0⟩ | ⟨g, cap', cur, hva, _, hg, hle, hm, hsz, htake⟩
      · omega
      · cases hva
        rw [sadd_lit hk] at hy
        have hne : b ≠ g := by
          have := hst.apart2 hi hj hij b (by simp [Item.own])
          simpa [Item.own] using this
        have hr := Lib.run_overlaps_apart (P := P) w tS tR e' hu inf.size (fun w => by simp [sizeOf, typeInfo, hinf]) ⟨b, 0, none⟩ ⟨g, k * inf.size, none⟩ la ca lb cb hne e2 e' bc.length cur.size
          (by simp [World.shape?, hB]) (by simp [World.shape?, hg]) (by rw [hsz]; exact Nat.mul_ne_zero (by omega) (by omega)) (by simp [World.frozen?, hB]) (by simp [World.frozen?, hB])
        have hcall := run_callFunc_extern (P := P) hf hname hb hn he #[.slice (some ⟨b, 0, none⟩) la ca, .slice (some ⟨g, k * inf.size, none⟩) lb cb] w
        rw [hr] at hcall
        refine ⟨.bool false, m, H, w, ?_, hst, h⟩
        have e0 : execOp ac.eval ⟨d, .call ⟨.value (.func f), [x, y].toArray, ats⟩, ty, ps, af, gd⟩ = execOp ac.eval ⟨d, .call ⟨.value (.func f), [x, y].toArray, ats⟩, ty, ps, af, gd⟩ := rfl
        simp only [execOp, resolve, Act.eval, Deferred.ofValue, Sem.run_bind, Sem.run_pure, Result.andThen_ok, invoke, List.map_toArray, List.map_cons, List.map_nil]
        have hx' := hfr.eval hx
        have hy' := hfr.eval hy
        unfold Act.eval at hx' hy'
        simp only [hx', hy'] 
        simpa using hcall
theorem r_perm {l : List Oper} (H' : Hp) (hp : H.Perm H') (h : Run P n ops Q l L m H') : Run P n ops Q l L m H := fun a w hf hs => h a w hf (hs.perm hp)
end
end Go.Aw
namespace Go.Aw
open Go
/-- A rule of the call's own: what it says, its actions' head as it stands in the rule, the room of the actions' block. -/
structure OwnR where
  r : RuleD
  s : Sl
  k : Nat
def OwnR.enc (o : OwnR) : List Value := encRule o.r o.s
def OwnR.it (o : OwnR) : Item := .vec o.s.a o.s.n o.k 53 4 (o.r.acts.map encAct)
/-- Clipped: no room behind its last action. -/
def OwnR.ok (o : OwnR) : Prop := o.s.cap = o.s.n
def itsO (l : List OwnR) : Hp := l.map OwnR.it
abbrev rowO (a : Option Addr) (n cap : Nat) (l : List OwnR) : Item := .vec a n cap 50 32 (l.map OwnR.enc)
def rulesO (l : List OwnR) : List RuleD := l.map (·.r)
theorem Fz.clip {m : Snap} {a : Option Addr} {n cap s : Nat} {cs : List (List Value)} (h : Fz m a n cap s cs) : Fz m a n n s cs := ⟨h.len, h.each, Nat.le_refl _, Nat.le_trans h.le h.max, h.get⟩
theorem OwnR.len {o : OwnR} : o.enc.length = 32 := rfl
theorem one_own (o : OwnR) : ∀ u ∈ o.enc, u.oneCell' = true := one_rule _ _
/-- Actions are given up. -/
theorem St.freezeIts {m : Snap} {w : World} : ∀ (l : List OwnR) {H : Hp}, (∀ o ∈ l, o.ok) → St m (itsO l ++ H) w → ∃ m', m.le m' ∧ St m' H w ∧ ∀ o ∈ l, FzA m' o.s o.r.acts ∧ o.s.ok
  | [], H, _, h => ⟨m, Snap.le.refl m, h, fun o ho => (by cases ho)⟩
  | o :: l, H, hok, h => by
    obtain ⟨m1, g1, g2, g3, g4⟩ := St.freezeVec (H := o.it :: (itsO l ++ H)) (i := 0) h rfl (by decide)
    obtain ⟨m2, k1, k2, k3⟩ := St.freezeIts l (fun x hx => hok x (List.mem_cons_of_mem _ hx)) (show St m1 (itsO l ++ H) w from g2)
    refine ⟨m2, g1.trans k1, k2, fun x hx => ?_⟩
    rcases List.mem_cons.1 hx with rfl | hx
    · have hc := hok x List.mem_cons_self
      have hz : Fz m2 x.s.a x.s.n x.s.n 4 (x.r.acts.map encAct) := (g3.mono k1).clip
      refine ⟨?_, fun hn => ?_⟩
      · show Fz m2 x.s.a x.s.n x.s.cap 4 _
        rw [hc]; exact hz
      · have := g4 hn
        have hle := g3.le
        rw [hc]; omega
    · exact k3 x hx
/-- A table of the call's own is given up. -/
theorem St.freezeO {m : Snap} {w : World} {H : Hp} {a : Option Addr} {n cap : Nat} {l : List OwnR} (hok : ∀ o ∈ l, o.ok) (h : St m (rowO a n cap l :: (itsO l ++ H)) w) :
    ∃ m', m.le m' ∧ St m' H w ∧ FzR m' ⟨a, n, n⟩ (l.map fun o => (o.r, o.s)) ∧ (a = none → n = 0) := by
  obtain ⟨m1, g1, g2, g3, g4⟩ := St.freezeVec (i := 0) h rfl (by decide)
  obtain ⟨m2, k1, k2, k3⟩ := St.freezeIts l hok (show St m1 (itsO l ++ H) w from g2)
  refine ⟨m2, g1.trans k1, k2, ⟨?_, fun p hp => ?_⟩, fun hn => ?_⟩
  · have := (g3.mono k1).clip
    have e : ((l.map fun o => (o.r, o.s)).map fun p => encRule p.1 p.2) = l.map OwnR.enc := by simp [OwnR.enc]
    show Fz m2 a n n 32 _
    rw [e]; exact this
  · obtain ⟨o, ho, rfl⟩ := List.mem_map.1 hp
    exact k3 o ho
  · have := g4 hn
    have hle := g3.le
    omega
section
variable {P : Program} {n : Nat} {Q : Post} {L : Slots} {m : Snap} {H : Hp} {ops : Array Oper} {l : List Oper}
end
theorem map_fst (l : List OwnR) : (l.map fun o => (o.r, o.s)).map (·.1) = rulesO l := by simp [rulesO]
theorem itsO_snoc (l : List OwnR) (o : OwnR) : itsO (l ++ [o]) = itsO l ++ [o.it] := by simp [itsO]
/-- One more rule of its own: its actions' item from the front to the end. -/
theorem perm_snoc (x : Item) (l : List OwnR) (o : OwnR) (H : Hp) : (o.it :: x :: (itsO l ++ H)).Perm (x :: (itsO (l ++ [o]) ++ H)) := by
  rw [itsO_snoc, List.append_assoc]
  refine (List.Perm.swap ..).trans (.cons _ ?_)
  have := (List.perm_middle (a := o.it) (l₁ := itsO l) (l₂ := H)).symm
  simpa using this
theorem one_acts (l : List ActD) : ∀ c ∈ l.map encAct, ∀ u ∈ c, u.oneCell' = true := by
  intro c hc u hu
  obtain ⟨x, _, rfl⟩ := List.mem_map.1 hc
  exact one_act x u hu
theorem rulesO_snoc (l : List OwnR) (o : OwnR) : rulesO (l ++ [o]) = rulesO l ++ [o.r] := by simp [rulesO]
theorem ok_snoc {l : List OwnR} {o : OwnR} (h : ∀ x ∈ l, x.ok) (ho : o.ok) : ∀ x ∈ l ++ [o], x.ok := fun x hx => by
  rcases List.mem_append.1 hx with hx | hx
  · exact h x hx
  · simp at hx; subst hx; exact ho
end Go.Aw
namespace Go.Aw
open Go
section
variable {P : Program} {n : Nat} {L : Slots} {m : Snap} {H : Hp} {d : Option Tmp} {ty : TypeId} {ps : String} {af : Array Edge} {gd : Option (Nat × Bool)}
theorem y_subn {t t' : TypeId} {x y : Operand} {a b : Nat} (hx : opv L x = some (.int .i64 (a : Int))) (hy : opv L y = some (.int .i64 (b : Int))) (hb : b ≤ a) (ha : a ≤ 9223372036854775807) :
    Yl P n L m H ⟨d, .binOp .sub t x y t', ty, ps, af, gd⟩ (.int .i64 ((a - b : Nat) : Int)) :=
  y_iop hx hy (by
    show some (Value.int .i64 (IntKind.i64.wrap ((a : Int) - (b : Int)))) = _
    rw [wrap_i64_small (by omega) (by omega)]
    congr 2
    omega)
theorem y_halfn {t t' : TypeId} {x : Operand} {a : Nat} (hx : opv L x = some (.int .u64 (a : Int))) :
    Yl P n L m H ⟨d, .binOp .shr t x (.const (.int .u64 1)) t', ty, ps, af, gd⟩ (.int .u64 ((a / 2 : Nat) : Int)) :=
  y_shift hx rfl (by
    show some (Value.int .u64 ((a : Int).fdiv (2 ^ (min 1 64)))) = _
    have e : (a : Int).fdiv (2 ^ (min 1 64)) = ((a / 2 : Nat) : Int) := by
      show (a : Int).fdiv ((2 : Nat) : Int) = _
      rw [← Int.ofNat_fdiv]
    rw [e])
theorem sadd_zero (a : Option Addr) (s c : Nat) : sadd a 0 s c = a := by
  unfold sadd
  split
  · rfl
  · cases a <;> simp [Addr.add]
/-- s[:hi]. -/
theorem y_slicel {t e : TypeId} {x o2 : Operand} {kd : IntKind} {a : Option Addr} {len cap s hi : Nat} (hx : opv L x = some (.slice a len cap)) (ht : tslice P t = some (e, s)) (h2 : opv L o2 = some (.int kd (hi : Int))) (hc : hi ≤ cap) :
    Yl P n L m H ⟨d, .slice t x none (some o2) none, ty, ps, af, gd⟩ (.slice a hi cap) := by
  have := y_slice (P := P) (n := n) (m := m) (H := H) (d := d) (ty := ty) (ps := ps) (af := af) (gd := gd) hx ht bnd_none (bnd_some (d := len) h2) (Nat.zero_le _) hc
  rw [sadd_zero] at this
  exact this
theorem At.memv {a : Option Addr} {len cap s k : Nat} {e : TypeId} {cs : List (List Value)} (hi : Item.vec a len cap e s cs ∈ H) (hk : k < len) : At m H a := fun w hs => by
  have h : Item.holds w (.vec a len cap e s cs) := hs.hold _ hi
  rcases h.1.2 with ⟨hv, h0⟩ | ⟨g, cap', cur, hv, _⟩
  · omega
  · cases hv; exact IsAt.lit
theorem RdA.memv0 {a : Option Addr} {len cap s k : Nat} {e : TypeId} {cs : List (List Value)} {c : List Value} (hi : Item.vec a len cap e s cs ∈ H) (hs0 : Nat.blt 0 s = true) (hk : cs[k]? = some c) (hl : c.length = s) :
    RdA m H (eadd a (k * s)) s c := ⟨hl, fun w hs => by
  obtain ⟨g, rfl, hc⟩ := vec_cell (hs.hold _ hi) hk (by simpa [Nat.blt_eq] using hs0)
  exact ⟨g, 0 + k * s, rfl, fun q u hu => by
    rw [show 0 + k * s + q = k * s + q by omega]
    exact hc q u hu⟩⟩
end
theorem one_rows {lo : List OwnR} {a b : Nat} : ∀ r ∈ ((lo.map OwnR.enc).drop a).take b, ∀ u ∈ r, u.oneCell' = true := by
  intro r hr u hu
  obtain ⟨o, _, rfl⟩ := List.mem_map.1 (List.mem_of_mem_drop (List.mem_of_mem_take hr))
  exact one_own o u hu
theorem one_rowsz {lo : List OwnR} {zs : List (List Value)} {a b : Nat} (hb : a + b ≤ lo.length) : ∀ r ∈ ((lo.map OwnR.enc ++ zs).drop a).take b, ∀ u ∈ r, u.oneCell' = true := by
  intro r hr u hu
  rw [List.drop_append_of_le_length (by simp; omega), List.take_append_of_le_length (by simp; omega)] at hr
  exact one_rows r hr u hu
theorem lo_enc_len {lo : List OwnR} : ∀ r ∈ lo.map OwnR.enc, r.length = 32 := by
  intro r hr
  obtain ⟨o, _, rfl⟩ := List.mem_map.1 hr
  rfl
theorem lo_encz_len {lo : List OwnR} {zs : List (List Value)} (hz : ∀ r ∈ zs, r.length = 32) : ∀ r ∈ lo.map OwnR.enc ++ zs, r.length = 32 := by
  intro r hr
  rcases List.mem_append.1 hr with hr | hr
  · exact lo_enc_len r hr
  · exact hz r hr
/-- The rows behind Insert. -/
theorem ins_grow {α : Type} {R zs : List α} {x : α} {p n : Nat} (hR : R.length = n) (hp : p ≤ n) (hz : zs.length = n + 1 - p) :
    let A := (R.take p ++ zs).take p ++ ([x] ++ (R.take p ++ zs).drop (p + 1))
    A.take (p + 1) ++ ((R.drop p).take (n - p) ++ A.drop (p + 1 + (n - p))) = R.take p ++ x :: R.drop p := by
  intro A
  have h1 : (R.take p ++ zs).take p = R.take p := by rw [List.take_append_of_le_length (by simp; omega), List.take_take, Nat.min_self]
  have hA : A = (R.take p ++ [x]) ++ (R.take p ++ zs).drop (p + 1) := by show _ ++ _ = _; rw [h1]; simp
  have hl : (R.take p ++ [x]).length = p + 1 := by simp; omega
  have hAl : A.length = n + 1 := by rw [hA]; simp; omega
  have e1 : A.take (p + 1) = R.take p ++ [x] := by rw [hA]; exact List.take_left' hl
  have e2 : (R.drop p).take (n - p) = R.drop p := List.take_of_length_le (by simp; omega)
  have e3 : A.drop (p + 1 + (n - p)) = [] := List.drop_eq_nil_of_le (by omega)
  rw [e1, e2, e3]; simp
theorem ins_shift {α : Type} {R zs : List α} {x : α} {p n : Nat} (hR : R.length = n) (hp : p < n) (hz : zs.length = 1) :
    let A := (R ++ zs).take (p + 1) ++ (((R ++ zs).drop p).take (n - p) ++ (R ++ zs).drop (p + 1 + (n - p)))
    A.take p ++ ([x] ++ A.drop (p + 1)) = R.take p ++ x :: R.drop p := by
  intro A
  have e0 : (R ++ zs).drop (p + 1 + (n - p)) = [] := List.drop_eq_nil_of_le (by simp; omega)
  have e1 : ((R ++ zs).drop p).take (n - p) = R.drop p := by rw [List.drop_append_of_le_length (by omega), List.take_append_of_le_length (by simp; omega)]; exact List.take_of_length_le (by simp; omega)
  have e2 : (R ++ zs).take (p + 1) = R.take (p + 1) := List.take_append_of_le_length (by omega)
  have hA : A = R.take (p + 1) ++ R.drop p := by show _ ++ (_ ++ _) = _; rw [e0, e1, e2]; simp
  have hl : (R.take (p + 1)).length = p + 1 := by simp; omega
  have t1 : A.take p = R.take p := by rw [hA, List.take_append_of_le_length (by omega), List.take_take]; congr 1; omega
  have t2 : A.drop (p + 1) = R.drop p := by rw [hA]; exact List.drop_left' hl
  rw [t1, t2]; simp
theorem ins_map (lo : List OwnR) (o : OwnR) (p : Nat) : (lo.take p ++ o :: lo.drop p).map OwnR.enc = (lo.map OwnR.enc).take p ++ o.enc :: (lo.map OwnR.enc).drop p := by simp
theorem lt_of_neq {p n : Nat} (hp : p ≤ n) (h : ((p : Int) == (n : Int)) = false) : p < n := by
  have : (p : Int) ≠ n := by simpa using h
  omega
/-- What a search has shown: all ahead of i are less, none from j on is. -/
def LowR (lo : List OwnR) (r : RuleD) (i j : Nat) : Prop := (∀ (q : Nat) (o : OwnR), q < i → lo[q]? = some o → ruleCmp o.r r < 0) ∧ (∀ (q : Nat) (o : OwnR), j ≤ q → lo[q]? = some o → ¬ ruleCmp o.r r < 0)
def MonoR (lo : List OwnR) (r : RuleD) : Prop := ∀ (q q' : Nat) (o o' : OwnR), q < q' → lo[q]? = some o → lo[q']? = some o' → ruleCmp o'.r r < 0 → ruleCmp o.r r < 0
theorem LowR.up {lo : List OwnR} {r : RuleD} {i j h : Nat} {o : OwnR} (hm : MonoR lo r) (hl : LowR lo r i j) (ho : lo[h]? = some o) (hc : ruleCmp o.r r < 0) : LowR lo r (h + 1) j :=
  ⟨fun q o' hq hqo => by
    rcases Nat.lt_succ_iff_lt_or_eq.1 hq with h1 | h1
    · exact hm q h o' o h1 hqo ho hc
    · subst h1; rw [ho] at hqo; cases hqo; exact hc, hl.2⟩
theorem LowR.down {lo : List OwnR} {r : RuleD} {i j h : Nat} {o : OwnR} (hm : MonoR lo r) (hl : LowR lo r i j) (ho : lo[h]? = some o) (hc : ¬ ruleCmp o.r r < 0) : LowR lo r i h :=
  ⟨hl.1, fun q o' hq hqo h2 => by
    rcases Nat.lt_or_eq_of_le hq with h1 | h1
    · exact hc (hm h q o o' h1 ho hqo h2)
    · subst h1; rw [ho] at hqo; cases hqo; exact hc h2⟩
theorem LowR.start {lo : List OwnR} {r : RuleD} {n : Nat} (hn : n = lo.length) : LowR lo r 0 n :=
  ⟨fun q o h _ => by omega, fun q o h ho => by have := (List.getElem?_eq_some_iff.1 ho).1; omega⟩
theorem bs_found {lo : List OwnR} {r : RuleD} {i : Nat} {o : OwnR} (ho : lo[i]? = some o) : ((ruleCmp o.r r == 0) = true ↔ ∃ x, lo[i]? = some x ∧ ruleCmp x.r r = 0) := by
  constructor
  · intro h; exact ⟨o, ho, by simpa using h⟩
  · rintro ⟨x, h1, h2⟩; rw [ho] at h1; cases h1; simpa using h2
theorem bs_none {lo : List OwnR} {r : RuleD} {i : Nat} (h : lo.length ≤ i) : (false = true ↔ ∃ x, lo[i]? = some x ∧ ruleCmp x.r r = 0) := by
  constructor
  · intro h; cases h
  · rintro ⟨x, h1, _⟩; have := (List.getElem?_eq_some_iff.1 h1).1; omega
end Go.Aw
namespace Go.Aw
open Go
theorem cmpW_zero {a b : W} : cmpW a b = 0 ↔ a = b := by
  unfold cmpW
  constructor
  · intro h
    split at h
    · cases h
    · split at h
      · cases h
      · rename_i h1 h2
        exact BitVec.le_antisymm (BitVec.not_lt.1 h2) (BitVec.not_lt.1 h1)
  · rintro rfl
    rw [if_neg (BitVec.lt_irrefl a), if_neg (BitVec.lt_irrefl a)]
theorem cmpW_neg {a b : W} : cmpW a b < 0 ↔ a < b := by
  unfold cmpW
  split
  · simp_all
  · split <;> simp_all
theorem cmpW_anti (a b : W) : cmpW b a = - cmpW a b := by
  unfold cmpW
  by_cases h1 : a < b
  · have h2 : ¬ b < a := fun h => BitVec.lt_irrefl a (BitVec.lt_trans h1 h)
    simp [h1, h2]
  · by_cases h2 : b < a <;> simp [h1, h2]
theorem cmpW_trans {a b c : W} (h1 : cmpW a b < 0) (h2 : cmpW b c < 0) : cmpW a c < 0 := cmpW_neg.2 (BitVec.lt_trans (cmpW_neg.1 h1) (cmpW_neg.1 h2))
theorem cmpL_zero : ∀ {a b : List W}, a.length = b.length → (cmpL a b = 0 ↔ a = b)
  | [], [], _ => by simp [cmpL]
  | x :: a, y :: b, h => by
    have ih := cmpL_zero (a := a) (b := b) (by simpa using h)
    simp only [cmpL]
    by_cases hc : cmpW x y = 0
    · rw [if_neg (by simpa using hc), ih, cmpW_zero.1 hc]; simp
    · rw [if_pos hc]
      exact ⟨fun h => absurd h hc, fun h => by cases h; exact absurd (cmpW_zero.2 rfl) hc⟩
theorem cmpL_anti : ∀ {a b : List W}, a.length = b.length → cmpL b a = - cmpL a b
  | [], [], _ => by simp [cmpL]
  | x :: a, y :: b, h => by
    have ih := cmpL_anti (a := a) (b := b) (by simpa using h)
    have ha := cmpW_anti x y
    simp only [cmpL]
    by_cases hc : cmpW x y = 0
    · rw [if_neg (by omega), if_neg (by omega), ih]
    · rw [if_pos (by omega), if_pos hc, ha]
theorem cmpL_trans : ∀ {a b c : List W}, a.length = b.length → b.length = c.length → cmpL a b < 0 → cmpL b c < 0 → cmpL a c < 0
  | [], [], [], _, _, h, _ => by simp [cmpL] at h
  | x :: a, y :: b, z :: c, h1, h2, h3, h4 => by
    simp only [cmpL] at h3 h4 ⊢
    by_cases c1 : cmpW x y = 0
    · rw [if_neg (by simpa using c1)] at h3
      have e := cmpW_zero.1 c1
      subst e
      by_cases c2 : cmpW x z = 0
      · rw [if_neg (by simpa using c2)] at h4 ⊢
        exact cmpL_trans (by simpa using h1) (by simpa using h2) h3 h4
      · rw [if_pos c2] at h4 ⊢; exact h4
    · rw [if_pos c1] at h3
      by_cases c2 : cmpW y z = 0
      · have e := cmpW_zero.1 c2
        subst e
        rw [if_pos c1]; exact h3
      · rw [if_pos c2] at h4
        have := cmpW_trans h3 h4
        rw [if_pos (by omega)]; exact this
def cubeL (c : Cube) : List W := headL c.care ++ headL c.value
theorem cmpL_append : ∀ {a b c d : List W}, a.length = b.length → cmpL (a ++ c) (b ++ d) = if cmpL a b ≠ 0 then cmpL a b else cmpL c d
  | [], [], c, d, _ => by simp [cmpL]
  | x :: a, y :: b, c, d, h => by
    simp only [List.cons_append, cmpL, cmpL_append (a := a) (b := b) (c := c) (d := d) (by simpa using h)]
    by_cases hc : cmpW x y = 0
    · simp [hc]
    · simp [hc]
theorem cubeCmp_L (a b : Cube) : cubeCmp a b = cmpL (cubeL a) (cubeL b) := by
  unfold cubeL
  rw [cmpL_append (a := headL a.care) (b := headL b.care) rfl]
  unfold cubeCmp orL headCmp
  by_cases h : cmpL (headL a.care) (headL b.care) = 0
  · by_cases h2 : cmpL (headL a.value) (headL b.value) = 0 <;> simp [h, h2, List.find?_cons]
  · simp [h, List.find?_cons]
theorem headL_inj {a b : Head} (h : headL a = headL b) : a = b := by
  simp only [headL, List.cons.injEq, and_true] at h
  exact (Head.eq_iff a b).2 (by simpa [and_assoc] using h)
theorem cubeL_inj {a b : Cube} (h : cubeL a = cubeL b) : a = b := by
  unfold cubeL at h
  have := List.append_inj h rfl
  cases a; cases b
  simp only [Cube.mk.injEq]
  exact ⟨headL_inj this.2, headL_inj this.1⟩
theorem cubeL_len (c : Cube) : (cubeL c).length = 24 := rfl
theorem cubeCmp_zero {a b : Cube} : cubeCmp a b = 0 ↔ a = b := by
  rw [cubeCmp_L, cmpL_zero (by rw [cubeL_len, cubeL_len])]
  exact ⟨cubeL_inj, fun h => by rw [h]⟩
theorem cubeCmp_anti (a b : Cube) : cubeCmp b a = - cubeCmp a b := by rw [cubeCmp_L, cubeCmp_L, cmpL_anti (by rw [cubeL_len, cubeL_len])]
theorem cubeCmp_trans {a b c : Cube} (h1 : cubeCmp a b < 0) (h2 : cubeCmp b c < 0) : cubeCmp a c < 0 := by
  rw [cubeCmp_L] at h1 h2 ⊢
  exact cmpL_trans (by rw [cubeL_len, cubeL_len]) (by rw [cubeL_len, cubeL_len]) h1 h2
def ruleKey (a b : RuleD) : Bool := decide (a.m = b.m) && (a.prio == b.prio)
theorem ruleCmp_zero {a b : RuleD} : ruleCmp a b = 0 ↔ ruleKey a b = true := by
  unfold ruleCmp ruleKey
  by_cases h : a.prio = b.prio
  · rw [if_neg (by simpa using h), cubeCmp_zero]; simp [h]
  · rw [if_pos h]
    constructor
    · intro h2; split at h2 <;> cases h2
    · intro h2; simp at h2; exact absurd h2.2 h
theorem ruleCmp_anti (a b : RuleD) : ruleCmp b a = - ruleCmp a b := by
  unfold ruleCmp
  by_cases h : a.prio = b.prio
  · rw [if_neg (by omega), if_neg (by omega), cubeCmp_anti]
  · rw [if_pos (by omega), if_pos h]
    by_cases h2 : a.prio > b.prio
    · rw [if_neg (by omega), if_pos h2]; rfl
    · rw [if_pos (by omega), if_neg h2]
theorem ruleCmp_trans {a b c : RuleD} (h1 : ruleCmp a b < 0) (h2 : ruleCmp b c < 0) : ruleCmp a c < 0 := by
  unfold ruleCmp at h1 h2 ⊢
  by_cases p1 : a.prio = b.prio
  · rw [if_neg (by omega)] at h1
    by_cases p2 : b.prio = c.prio
    · rw [if_neg (by omega)] at h2 ⊢
      exact cubeCmp_trans h1 h2
    · rw [if_pos p2] at h2
      rw [if_pos (by omega)]
      rw [p1]; exact h2
  · rw [if_pos p1] at h1
    by_cases p2 : b.prio = c.prio
    · rw [if_pos (by omega), ← p2]; exact h1
    · rw [if_pos p2] at h2
      split at h1
      · split at h2
        · rw [if_pos (by omega), if_pos (by omega)]; decide
        · cases h2
      · cases h1
theorem ruleKey_cmp_l {a b c : RuleD} (h : ruleKey b c = true) : ruleCmp b a = ruleCmp c a := by
  simp [ruleKey] at h
  unfold ruleCmp
  rw [h.1, h.2]
theorem ruleKey_refl (a : RuleD) : ruleKey a a = true := by simp [ruleKey]
abbrev Srt (l : List RuleD) : Prop := l.Pairwise fun a b => ruleCmp a b < 0
def insR : List RuleD → RuleD → List RuleD
  | [], r => [r]
  | x :: l, r => if ruleCmp x r < 0 then x :: insR l r else if ruleCmp x r = 0 then r :: l else r :: x :: l
def sortR (l : List RuleD) : List RuleD := (l.filter ruleSound).foldl insR []
theorem sortR_snoc (l : List RuleD) (x : RuleD) : sortR (l ++ [x]) = if ruleSound x then insR (sortR l) x else sortR l := by
  unfold sortR
  rw [List.filter_append, List.foldl_append]
  cases h : ruleSound x <;> simp [h]
theorem insR_mem {r x : RuleD} : ∀ {l : List RuleD}, x ∈ insR l r → x = r ∨ x ∈ l
  | [], h => by simpa [insR] using h
  | y :: l, h => by
    unfold insR at h
    split at h
    · rcases List.mem_cons.1 h with h | h
      · exact .inr (by simp [h])
      · rcases insR_mem h with h | h
        · exact .inl h
        · exact .inr (by simp [h])
    · split at h
      · rcases List.mem_cons.1 h with h | h
        · exact .inl h
        · exact .inr (by simp [h])
      · rcases List.mem_cons.1 h with h | h
        · exact .inl h
        · exact .inr h
theorem insR_srt {r : RuleD} : ∀ {l : List RuleD}, Srt l → Srt (insR l r)
  | [], _ => by simp [insR, Srt]
  | x :: l, h => by
    have h1 := List.pairwise_cons.1 h
    unfold insR
    split
    · rename_i hx
      refine List.pairwise_cons.2 ⟨fun y hy => ?_, insR_srt h1.2⟩
      rcases insR_mem hy with rfl | hy
      · exact hx
      · exact h1.1 y hy
    · split
      · rename_i hx
        have hk := ruleCmp_zero.1 hx
        exact List.pairwise_cons.2 ⟨fun y hy => by rw [← ruleKey_cmp_l hk]; exact h1.1 y hy, h1.2⟩
      · rename_i hx hx0
        have hr : ruleCmp r x < 0 := by rw [ruleCmp_anti x r]; omega
        refine List.pairwise_cons.2 ⟨fun y hy => ?_, h⟩
        rcases List.mem_cons.1 hy with rfl | hy
        · exact hr
        · exact ruleCmp_trans hr (h1.1 y hy)
theorem sortR_srt' : ∀ (l acc : List RuleD), Srt acc → Srt (l.foldl insR acc)
  | [], acc, h => h
  | x :: l, acc, h => sortR_srt' l _ (insR_srt h)
theorem sortR_srt (l : List RuleD) : Srt (sortR l) := sortR_srt' _ [] List.Pairwise.nil
theorem mono_of {lo : List OwnR} {r : RuleD} (h : Srt (rulesO lo)) : MonoR lo r := by
  intro q q' o o' hq hqo hqo' hc
  have h1 : (rulesO lo)[q]? = some o.r := by simp [rulesO, hqo]
  have h2 : (rulesO lo)[q']? = some o'.r := by simp [rulesO, hqo']
  have hlt := (List.getElem?_eq_some_iff.1 h1).1
  have hlt' := (List.getElem?_eq_some_iff.1 h2).1
  have := List.pairwise_iff_getElem.1 h q q' hlt hlt' hq
  rw [(List.getElem?_eq_some_iff.1 h1).2, (List.getElem?_eq_some_iff.1 h2).2] at this
  exact ruleCmp_trans this hc
/-- Where a search has ended. -/
def LowP (l : List RuleD) (r : RuleD) (p : Nat) : Prop := (∀ (q : Nat) (x : RuleD), q < p → l[q]? = some x → ruleCmp x r < 0) ∧ (∀ (q : Nat) (x : RuleD), p ≤ q → l[q]? = some x → ¬ ruleCmp x r < 0)
theorem LowP.of {lo : List OwnR} {r : RuleD} {p : Nat} (h : LowR lo r p p) : LowP (rulesO lo) r p := by
  refine ⟨fun q x hq hx => ?_, fun q x hq hx => ?_⟩
  · simp only [rulesO, List.getElem?_map, Option.map_eq_some_iff] at hx
    obtain ⟨o, ho, rfl⟩ := hx
    exact h.1 q o hq ho
  · simp only [rulesO, List.getElem?_map, Option.map_eq_some_iff] at hx
    obtain ⟨o, ho, rfl⟩ := hx
    exact h.2 q o hq ho
theorem insR_set {r y : RuleD} : ∀ {l : List RuleD} {p : Nat}, LowP l r p → l[p]? = some y → ruleCmp y r = 0 → insR l r = l.set p r
  | [], p, _, h, _ => by simp at h
  | x :: l, 0, hl, h, h0 => by
    simp only [List.getElem?_cons_zero, Option.some.injEq] at h
    subst h
    unfold insR
    rw [if_neg (by omega), if_pos h0]; rfl
  | x :: l, p + 1, hl, h, h0 => by
    unfold insR
    rw [if_pos (hl.1 0 x (by omega) rfl), insR_set (p := p) ⟨fun q x hq hx => hl.1 (q + 1) x (by omega) (by simpa using hx), fun q x hq hx => hl.2 (q + 1) x (by omega) (by simpa using hx)⟩ (by simpa using h) h0]
    rfl
theorem insR_ins {r : RuleD} : ∀ {l : List RuleD} {p : Nat}, LowP l r p → p ≤ l.length → (∀ y, l[p]? = some y → ruleCmp y r ≠ 0) → insR l r = l.take p ++ r :: l.drop p
  | [], p, _, hp, _ => by simp at hp; subst hp; rfl
  | x :: l, 0, hl, hp, h => by
    unfold insR
    rw [if_neg (hl.2 0 x (by omega) rfl), if_neg (h x rfl)]; rfl
  | x :: l, p + 1, hl, hp, h => by
    unfold insR
    rw [if_pos (hl.1 0 x (by omega) rfl), insR_ins (p := p) ⟨fun q x hq hx => hl.1 (q + 1) x (by omega) (by simpa using hx), fun q x hq hx => hl.2 (q + 1) x (by omega) (by simpa using hx)⟩ (by simpa using hp) (fun y hy => h y (by simpa using hy))]
    rfl
theorem sort_found {lo : List OwnR} {o : OwnR} {r : RuleD} {p : Nat} (hlow : LowR lo r p p) (hf : ∃ y, lo[p]? = some y ∧ ruleCmp y.r r = 0) (hor : o.r = r) : rulesO (lo.set p o) = insR (rulesO lo) r := by
  obtain ⟨y, h1, h2⟩ := hf
  rw [insR_set (LowP.of hlow) (y := y.r) (by simp [rulesO, h1]) h2]
  simp [rulesO, List.map_set, hor]
theorem sort_new {lo : List OwnR} {o : OwnR} {r : RuleD} {p : Nat} (hlow : LowR lo r p p) (hp : p ≤ lo.length) (hf : ¬ ∃ y, lo[p]? = some y ∧ ruleCmp y.r r = 0) (hor : o.r = r) : rulesO (lo.take p ++ o :: lo.drop p) = insR (rulesO lo) r := by
  rw [insR_ins (LowP.of hlow) (by simpa [rulesO] using hp) (fun y hy h0 => ?_)]
  · simp [rulesO, hor]
  · simp only [rulesO, List.getElem?_map, Option.map_eq_some_iff] at hy
    obtain ⟨x, hx, rfl⟩ := hy
    exact hf ⟨x, hx, h0⟩
/-- Items behind a rule that takes another one's place. -/
theorem St.setIts {m : Snap} {w : World} {x : Item} {lo : List OwnR} {o : OwnR} {H : Hp} {p : Nat} (hp : p < lo.length) (h : St m (o.it :: x :: (itsO lo ++ H)) w) : St m (x :: (itsO (lo.set p o) ++ H)) w := by
  have e1 : itsO lo = itsO (lo.take p) ++ lo[p].it :: itsO (lo.drop (p + 1)) := by
    have : lo = lo.take p ++ lo[p] :: lo.drop (p + 1) := by rw [List.getElem_cons_drop, List.take_append_drop]
    calc itsO lo = itsO (lo.take p ++ lo[p] :: lo.drop (p + 1)) := by rw [← this]
      _ = _ := by unfold itsO; rw [List.map_append, List.map_cons]
  have e2 : itsO (lo.set p o) = itsO (lo.take p) ++ o.it :: itsO (lo.drop (p + 1)) := by
    rw [List.set_eq_take_append_cons_drop, if_pos hp]
    unfold itsO; rw [List.map_append, List.map_cons]
  rw [e2]
  rw [e1] at h
  refine St.tail (it := lo[p].it) (h.perm ?_)
  generalize itsO (lo.take p) = A
  generalize itsO (lo.drop (p + 1)) = B
  generalize lo[p].it = y
  generalize o.it = z
  rw [List.append_assoc, List.append_assoc, List.cons_append, List.cons_append]
  have h1 : (A ++ y :: (B ++ H)).Perm (y :: (A ++ (B ++ H))) := List.perm_middle
  have h2 : (A ++ z :: (B ++ H)).Perm (z :: (A ++ (B ++ H))) := List.perm_middle
  refine ((h1.cons x).cons z).trans ?_
  refine .trans ?_ ((h2.symm.cons x).cons y)
  exact ((List.Perm.swap _ _ _).cons z).trans ((List.Perm.swap _ _ _).trans ((List.Perm.swap _ _ _).cons y))
theorem perm_ins (x : Item) (lo : List OwnR) (o : OwnR) (p : Nat) (H : Hp) : (o.it :: x :: (itsO lo ++ H)).Perm (x :: (itsO (lo.take p ++ o :: lo.drop p) ++ H)) := by
  have e1 : itsO lo = itsO (lo.take p) ++ itsO (lo.drop p) := by simp [itsO, ← List.map_append]
  have e2 : itsO (lo.take p ++ o :: lo.drop p) = itsO (lo.take p) ++ o.it :: itsO (lo.drop p) := by simp [itsO]
  rw [e1, e2, List.append_assoc, List.append_assoc, List.cons_append]
  refine (List.Perm.swap _ _ _).trans (.cons _ ?_)
  exact List.perm_middle.symm
theorem ok_set {l : List OwnR} {o : OwnR} {p : Nat} (h : ∀ x ∈ l, x.ok) (ho : o.ok) : ∀ x ∈ l.set p o, x.ok := fun x hx => by
  rcases List.mem_or_eq_of_mem_set hx with hx | rfl
  · exact h x hx
  · exact ho
theorem ok_ins {l : List OwnR} {o : OwnR} {p : Nat} (h : ∀ x ∈ l, x.ok) (ho : o.ok) : ∀ x ∈ l.take p ++ o :: l.drop p, x.ok := fun x hx => by
  rcases List.mem_append.1 hx with hx | hx
  · exact h x (List.mem_of_mem_take hx)
  · rcases List.mem_cons.1 hx with rfl | hx
    · exact ho
    · exact h x (List.mem_of_mem_drop hx)
end Go.Aw
namespace Go.Aw
open Go
/-- Whose first rule has another priority. -/
def Bumped (lo lc : List OwnR) (i : Nat) : Prop := (i = 0 ∧ lc = lo) ∨ (0 < i ∧ ∃ o o', lo[0]? = some o ∧ lc[0]? = some o' ∧ o'.r.prio ≠ o.r.prio)
theorem Bumped.next {lo lc : List OwnR} {i : Nat} {o o' : OwnR} (h : Bumped lo lc i) (ho : lc[i]? = some o) (hp : o'.r.prio ≠ o.r.prio) : Bumped lo (lc.set i o') (i + 1) := by
  right
  refine ⟨by omega, ?_⟩
  rcases h with ⟨rfl, rfl⟩ | ⟨hi, x, x', h1, h2, h3⟩
  · refine ⟨o, o', ho, ?_, hp⟩
    rw [List.getElem?_set_self (List.getElem?_eq_some_iff.1 ho).1]
  · refine ⟨x, x', h1, ?_, h3⟩
    rw [List.getElem?_set_ne (by omega)]; exact h2
theorem insR_len (r : RuleD) : ∀ l : List RuleD, (insR l r).length ≤ l.length + 1
  | [] => by simp [insR]
  | x :: l => by
    have := insR_len r l
    unfold insR
    split
    · simp; exact this
    · split <;> simp
theorem foldl_len : ∀ (l acc : List RuleD), (l.foldl insR acc).length ≤ acc.length + l.length
  | [], acc => by simp
  | x :: l, acc => by
    have h1 := foldl_len l (insR acc x)
    have h2 := insR_len x acc
    simp only [List.foldl_cons, List.length_cons]
    omega
theorem sortR_len (l : List RuleD) : (sortR l).length ≤ l.length := by
  have h1 := foldl_len (l.filter ruleSound) []
  have h2 := List.length_filter_le ruleSound l
  unfold sortR
  simp at h1
  omega
end Go.Aw
namespace Go.Aw
open Go Go.Proofs Go.RowKit
def TrW {H : Type} (enc : TypeId × Value → H) (P : Program) (w : World) (t : TypeId) (cs : List Value) : Prop :=
  ∃ (sp : Nat → Bool) (fuel : Nat) (x : DataW H × List MemPlace), DataW.trod enc P w 0 sp true fuel t cs = some x ∧ ∀ n ∈ x.1.weights P t, n ≤ reachBytes
section
variable {H : Type} {enc : TypeId × Value → H} {P : Program} {w : World} {t : TypeId} {cs : List Value}
theorem TrW.tr (h : TrW enc P w t cs) : Tr enc P w t cs := by obtain ⟨sp, f, x, h, _⟩ := h; exact ⟨sp, f, x, h⟩
theorem TrW.of {v : Value} {d : DataW H} {p : List MemPlace} {sp : Nat → Bool} (h : DataW.Trod enc P w 0 sp true t v d p) (hw : ∀ n ∈ d.weights P t, n ≤ reachBytes) : TrW enc P w t v.cells.toList := by
  obtain ⟨f, hf⟩ := h
  exact ⟨sp, f, _, hf, hw⟩
theorem mem_weightsEach {n : Nat} : ∀ {ts : List TypeId} {ds : List (DataW H)} {i : Nat} {t : TypeId} {d : DataW H}, ts[i]? = some t → ds[i]? = some d → n ∈ d.weights P t → n ∈ DataW.weightsEach P ts ds
  | [], _, i, t, d, h, _, _ => by simp at h
  | _ :: _, [], i, t, d, _, h, _ => by simp at h
  | t0 :: ts, d0 :: ds, 0, t, d, h1, h2, h3 => by
    simp only [List.getElem?_cons_zero, Option.some.injEq] at h1 h2
    subst h1; subst h2
    unfold DataW.weightsEach
    exact List.mem_append_left _ h3
  | t0 :: ts, d0 :: ds, i + 1, t, d, h1, h2, h3 => by
    unfold DataW.weightsEach
    exact List.mem_append_right _ (mem_weightsEach (by simpa using h1) (by simpa using h2) h3)
theorem mem_weightsAll {n : Nat} {e : TypeId} : ∀ {ds : List (DataW H)} {d : DataW H}, d ∈ ds → n ∈ d.weights P e → n ∈ DataW.weightsAll P e ds
  | d0 :: ds, d, h, h3 => by
    unfold DataW.weightsAll
    rcases List.mem_cons.1 h with rfl | h
    · exact List.mem_append_left _ h3
    · exact List.mem_append_right _ (mem_weightsAll h h3)
theorem TrW.struct {fs : Array Field} {n : Nat} (ht : P.underlying t = some (.struct fs)) (hc : P.cellsOf t = n) (h : TrW enc P w t cs) : cs.length = n ∧ ∀ (i : Nat) (f : Field), fs[i]? = some f → TrW enc P w f.type ((cs.drop f.offset).take (P.cellsOf f.type)) := by
  obtain ⟨sp, f, x, h, hw⟩ := h
  obtain ⟨xs, m, _, rfl, hl, hx, hf⟩ := DataW.trod_struct ht h
  refine ⟨hl.trans hc, fun i f hi => ?_⟩
  have hlt : i < xs.length := by rw [hx]; exact (Array.getElem?_eq_some_iff.1 hi).1
  have := hf i f hi
  rw [List.getElem?_eq_getElem hlt] at this
  refine ⟨sp, m, _, this, fun k hk => hw k ?_⟩
  have e : (DataW.agg (xs.map (·.1))).weights P t = DataW.weightsEach P (fs.toList.map (·.type)) (xs.map (·.1)) := by rw [DataW.weights]; rw [ht]
  show k ∈ (DataW.agg (xs.map (·.1))).weights P t
  rw [e]
  exact mem_weightsEach (i := i) (t := f.type) (d := xs[i].1) (by simpa using ⟨f, hi, rfl⟩) (by simp [hlt]) hk
theorem TrW.slice {e : TypeId} {k B : Nat} (ht : P.underlying t = some (.slice e)) (hc : P.cellsOf e = k) (hk : 0 < k) (hB : P.bytesOf e = B) (h : TrW enc P w t cs) :
    ∃ (s : Sl) (rows : List (List Value)), cs = [s.v] ∧ s.ok ∧ Fz (snapOf w) s.a s.n s.cap k rows ∧ (∀ r ∈ rows, TrW enc P w e r) ∧ s.n * B ≤ reachBytes := by
  obtain ⟨s, rows, h1, h2, h3, _⟩ := h.tr.slice ht hc hk
  obtain ⟨sp, f, x, h, hw⟩ := h
  rcases Deep.open_slice ht h with ⟨rfl, rfl⟩ | ⟨a, len, cap, m, n, D, Pl, rfl, _, hl, hm, hmm, rfl, hx⟩
  · have e0 : s = zSl := by
      have := (List.cons.inj h1).1
      obtain ⟨a, n, c⟩ := s
      simp only [Sl.v, Value.slice.injEq] at this
      obtain ⟨rfl, rfl, rfl⟩ := this; rfl
    subst e0
    have hr : rows = [] := List.eq_nil_of_length_eq_zero h3.len
    subst hr
    exact ⟨zSl, [], h1, h2, h3, fun r hr => (by cases hr), by show 0 * B ≤ _; simp⟩
  · have hle : len ≤ m := by rw [hmm]; split <;> omega
    have hs := (List.cons.inj h1).1
    obtain ⟨sa, sn, sc⟩ := s
    simp only [Sl.v, Value.slice.injEq] at hs
    obtain ⟨rfl, rfl, rfl⟩ := hs
    have ew : ∀ (es sp2 : List (DataW H)), (DataW.slice es sp2).weights P t = (es.length + sp2.length) * P.bytesOf e :: (DataW.weightsAll P e es ++ DataW.weightsAll P e sp2) := fun es sp2 => by rw [DataW.weights]; rw [ht]
    simp only [ew] at hw
    have h0 := hw _ List.mem_cons_self
    have hrow : ∀ i, i < len → ∃ r, rows[i]? = some r ∧ TrW enc P w e r := fun i hi => by
      obtain ⟨cs', c1, c2⟩ := hx i (by omega)
      rw [hc] at c1
      have hlr : i < rows.length := by rw [h3.len]; exact hi
      refine ⟨rows[i], by simp, ?_⟩
      have hcs : cs' = rows[i] := by
        obtain ⟨_, hlen, hcell⟩ := World.cells?_some c1
        obtain ⟨g, o, ha, hv⟩ := h3.get i rows[i] (by simp)
        simp only [Option.some.injEq] at ha
        apply List.ext_getElem?
        intro j
        by_cases hj : j < k
        · have hr := h3.each rows[i] (by simp)
          have hj2 : j < rows[i].length := by omega
          have hh := hv j (rows[i][j]) (by simp)
          have hh2 := (St.start w).cell hh
          have := hcell j hj
          rw [ha, addr_add, addr_add, show o + i * k + j = o + (i * k + j) by omega, hh2] at this
          rw [← this, List.getElem?_eq_getElem hj2]
        · rw [List.getElem?_eq_none (by omega), List.getElem?_eq_none (by have := h3.each rows[i] (by simp); omega)]
      rw [hcs] at c2
      refine ⟨sp, n, _, c2, fun q hq => hw q (List.mem_cons_of_mem _ (List.mem_append_left _ ?_))⟩
      exact mem_weightsAll (d := D i) (by simp; exact ⟨i, hi, rfl⟩) hq
    refine ⟨⟨some a, len, cap⟩, rows, rfl, h2, h3, fun r hr => ?_, ?_⟩
    · obtain ⟨i, hi⟩ := List.getElem?_of_mem hr
      have hlt : i < len := by have := (List.getElem?_eq_some_iff.1 hi).1; have := h3.len; simp only at this; omega
      obtain ⟨r', h1', h2'⟩ := hrow i hlt
      rw [hi] at h1'; cases h1'; exact h2'
    · rw [hB] at h0
      simp only [List.length_map, List.length_range] at h0
      exact Nat.le_trans (Nat.mul_le_mul_right _ (by show len ≤ _; omega)) h0
end
theorem b53 : Try.prog.bytesOf 53 = 32 := by kernel_rfl
theorem b50 : Try.prog.bytesOf 50 = 272 := by kernel_rfl
section
variable {H : Type} {enc : TypeId × Value → H} {w : World} {cs : List Value}
theorem opw_rule (h : TrW enc Try.prog w 50 cs) : ∃ (p : RuleD × Sl), cs = encRule p.1 p.2 ∧ p.2.ok ∧ FzA (snapOf w) p.2 p.1.acts ∧ RuleR p.1 ∧ p.1.acts.length ≤ 4398046511103 := by
  obtain ⟨p, h1, h2, h3, h4⟩ := op_rule h.tr
  refine ⟨p, h1, h2, h3, h4, ?_⟩
  obtain ⟨hl, hf⟩ := h.struct Try.underlying50 (n := 32) c50
  have h5 : TrW enc Try.prog w 30 ((cs.drop 25).take (Try.prog.cellsOf 30)) := hf 2 _ rfl
  rw [c30] at h5
  obtain ⟨s, rows, e1, _, _, _, e5⟩ := h5.slice Try.underlying30 (k := 4) c53 (by decide) b53
  have e6 : (cs.drop 25).take 1 = [p.2.v] := by rw [h1]; rfl
  rw [e6] at e1
  have e7 : p.2.v = s.v := (List.cons.inj e1).1
  have e8 : p.2.n = s.n := by
    simp only [Sl.v, Value.slice.injEq] at e7
    exact e7.2.1
  have e9 := Fz.lenA h3
  have : reachBytes = 140737488351232 := rfl
  omega
theorem opw_rules (h : TrW enc Try.prog w 33 cs) : ∃ (s : Sl) (lr : List (RuleD × Sl)), cs = [s.v] ∧ s.ok ∧ FzR (snapOf w) s lr ∧ (∀ p ∈ lr, RuleR p.1) ∧ (∀ p ∈ lr, p.1.acts.length ≤ 4398046511103) := by
  obtain ⟨s, rows, h1, h2, h3, h4, _⟩ := h.slice Try.underlying33 (k := 32) c50 (by decide) b50
  obtain ⟨l, rfl, hl⟩ := rows_map (f := fun p : RuleD × Sl => encRule p.1 p.2) (p := fun p => p.2.ok ∧ FzA (snapOf w) p.2 p.1.acts ∧ RuleR p.1 ∧ p.1.acts.length ≤ 4398046511103) fun r hr => opw_rule (h4 r hr)
  exact ⟨s, l, h1, h2, ⟨h3, fun p hp => ⟨(hl p hp).2.1, (hl p hp).1⟩⟩, fun p hp => (hl p hp).2.2.1, fun p hp => (hl p hp).2.2.2⟩
theorem opw_mod (h : TrW enc Try.prog w 32 cs) : ∃ (p : ModD × Sl), cs = encMod p.1 p.2 ∧ p.2.ok ∧ FzA (snapOf w) p.2 p.1.acts ∧ ModR p.1 ∧ p.1.acts.length ≤ 4398046511103 := by
  obtain ⟨p, h1, h2, h3, h4⟩ := op_mod h.tr
  refine ⟨p, h1, h2, h3, h4, ?_⟩
  obtain ⟨hl, hf⟩ := h.struct Try.underlying32 (n := 31) c32
  have h5 : TrW enc Try.prog w 30 ((cs.drop 26).take (Try.prog.cellsOf 30)) := hf 3 _ rfl
  rw [c30] at h5
  obtain ⟨s, rows, e1, _, _, _, e5⟩ := h5.slice Try.underlying30 (k := 4) c53 (by decide) b53
  have e6 : (cs.drop 26).take 1 = [p.2.v] := by rw [h1]; rfl
  rw [e6] at e1
  have e7 : p.2.v = s.v := (List.cons.inj e1).1
  have e8 : p.2.n = s.n := by
    simp only [Sl.v, Value.slice.injEq] at e7
    exact e7.2.1
  have e9 := Fz.lenA h3
  have : reachBytes = 140737488351232 := rfl
  omega
end
theorem weight_at {H : Type} {P : Program} {ts : List TypeId} {ds : List (DataW H)} (h : (DataW.weightsEach P ts ds).all (· ≤ reachBytes) = true) {i : Nat} {t : TypeId} {d : DataW H} (ht : ts[i]? = some t) (hd : ds[i]? = some d) : ∀ n ∈ d.weights P t, n ≤ reachBytes := by
  intro n hn
  have := List.all_eq_true.1 h n (mem_weightsEach ht hd hn)
  simpa using this
end Go.Aw
