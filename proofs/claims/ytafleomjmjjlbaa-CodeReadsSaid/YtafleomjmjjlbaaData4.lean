/- Who writes bytes. -/
import Derived.Test.YtafleomjmjjlbaaData3
namespace Go.Aw
open Go

abbrev lim : Nat := 140737488355328
abbrev wItem (r : Nat) (s : Sl) : Item := .blk r (.cells [s.v].toArray 111)
abbrev vItem (s : Sl) (l : List UInt8) : Item := .vec s.a s.n s.cap 5 1 (bytes1 l)
def wput (x : W) : Nat → List UInt8
  | 0 => []
  | k + 1 => UInt8.ofNat (x >>> (8 * k)).toNat :: wput x k
@[simp] theorem wput_len (x : W) : ∀ k, (wput x k).length = k
  | 0 => rfl
  | k + 1 => by simp [wput, wput_len x k]
theorem bytes1_snoc (l : List UInt8) (c : UInt8) : bytes1 (l ++ [c]) = bytes1 l ++ [[bv c]] := by simp [bytes1]
def wputs (k : Nat) : List W → List UInt8
  | [] => []
  | x :: r => wput x k ++ wputs k r
@[simp] theorem wputs_len (k : Nat) : ∀ l, (wputs k l).length = k * l.length
  | [] => rfl
  | x :: r => by simp [wputs, wputs_len k r, Nat.mul_add]; omega
theorem wputs_append (k : Nat) : ∀ a b, wputs k (a ++ b) = wputs k a ++ wputs k b
  | [], b => rfl
  | x :: r, b => by simp [wputs, wputs_append k r b]
abbrev iw (n : Int) : W := BitVec.ofInt 64 n
def whead (h : Head) : List UInt8 := wputs 8 (headL h)
@[simp] theorem whead_len (h : Head) : (whead h).length = 96 := by simp [whead, headL]
def wmatch (c : Cube) (prio idle hard owner : Int) : List UInt8 := whead c.value ++ whead c.care ++ wput (iw prio) 2 ++ wput (iw idle) 4 ++ wput (iw hard) 4 ++ wput (iw owner) 1
@[simp] theorem wmatch_len (c : Cube) (prio idle hard owner : Int) : (wmatch c prio idle hard owner).length = 203 := by simp [wmatch]
def wact (a : ActD) : List UInt8 := wput (iw a.kind) 1 ++ wput (iw a.port) 1 ++ wput (iw a.field) 1 ++ wput a.val 8
@[simp] theorem wact_len (a : ActD) : (wact a).length = 11 := by simp [wact]
def wactsL : List ActD → List UInt8
  | [] => []
  | a :: r => wact a ++ wactsL r
@[simp] theorem wactsL_len : ∀ l, (wactsL l).length = 11 * l.length
  | [] => rfl
  | a :: r => by simp [wactsL, wactsL_len r]; omega
theorem wactsL_append : ∀ a b, wactsL (a ++ b) = wactsL a ++ wactsL b
  | [], b => rfl
  | x :: r, b => by simp [wactsL, wactsL_append r b]
def wacts (l : List ActD) : List UInt8 := wput (iw (l.length : Nat)) 1 ++ wactsL l
@[simp] theorem wacts_len (l : List ActD) : (wacts l).length = 1 + 11 * l.length := by simp [wacts]
def wmod (m : ModD) : List UInt8 := wput (iw m.kind) 1 ++ wmatch m.m m.prio m.idle m.hard m.owner ++ wput (if m.check then 1 else 0) 1 ++ wacts m.acts
@[simp] theorem wmod_len (m : ModD) : (wmod m).length = 206 + 11 * m.acts.length := by simp [wmod]; omega
def wrule (r : RuleD) : List UInt8 := wmatch r.m r.prio r.idle r.hard r.owner ++ wputs 8 [iw r.hits, iw r.quiet, iw r.age] ++ wacts r.acts
@[simp] theorem wrule_len (r : RuleD) : (wrule r).length = 228 + 11 * r.acts.length := by simp [wrule]; omega
def wrulesL : List RuleD → List UInt8
  | [] => []
  | a :: r => wrule a ++ wrulesL r
theorem wrulesL_append : ∀ a b, wrulesL (a ++ b) = wrulesL a ++ wrulesL b
  | [], b => rfl
  | x :: r, b => by simp [wrulesL, wrulesL_append r b]
def wrules (l : List RuleD) : List UInt8 := wput (iw (l.length : Nat)) 2 ++ wrulesL l
theorem wrulesL_len {k : Nat} : ∀ {l : List RuleD}, (∀ r ∈ l, r.acts.length ≤ k) → (wrulesL l).length ≤ l.length * (228 + 11 * k)
  | [], _ => Nat.zero_le _
  | x :: r, h => by
    have h1 := h x (by simp)
    have h2 := wrulesL_len (l := r) (fun y hy => h y (by simp [hy]))
    simp only [wrulesL, List.length_append, wrule_len, List.length_cons]
    rw [Nat.add_mul]
    omega
def encode (m : MsgD) : Option (List UInt8) :=
  if !msgSound m || decide ((m.rules.length : Int) > 65535) then none else some (wput (iw m.kind) 1 ++ wput (iw m.txn) 4 ++
    (if m.kind = 1 then wmod m.mod else if m.kind = 6 then wput (iw m.e) 1 else if m.kind = 8 then wput (iw m.port) 1 ++ whead m.head else if m.kind = 9 ∨ m.kind = 10 then wrules m.rules else []))
theorem whead_step (h : Head) {i : Nat} (hlt : i < 12) : wputs 8 ((headL h).take i) ++ wput (h.at i) 8 = wputs 8 ((headL h).take (i + 1)) := by
  match i, hlt with
  | 0, _ | 1, _ | 2, _ | 3, _ | 4, _ | 5, _ | 6, _ | 7, _ | 8, _ | 9, _ | 10, _ | 11, _ => simp [headL, wputs, Head.at]
theorem wacts_step {l : List ActD} {i : Nat} {a : ActD} (h : l[i]? = some a) : wactsL (l.take (i + 1)) = wactsL (l.take i) ++ (wput (iw a.kind) 1 ++ (wput (iw a.port) 1 ++ (wput (iw a.field) 1 ++ wput a.val 8))) := by
  rw [List.take_add_one, h, wactsL_append]; simp [wactsL, wact]
theorem wrules_step {l : List RuleD} {i : Nat} {a : RuleD} (h : l[i]? = some a) : wrulesL (l.take (i + 1)) = wrulesL (l.take i) ++ wrule a := by
  rw [List.take_add_one, h, wrulesL_append]; simp [wrulesL]
theorem cget_ints {l : List Int} {i : Nat} {x : Int} (h : l[i]? = some x) : cget (l.map i64) (i * 1) = some (i64 x) := by
  rw [cget_eq, Nat.mul_one]; simp [h]
theorem wputs_step {k : Nat} {l : List Int} {i : Nat} {x : Int} (h : l[i]? = some x) : wputs k ((l.take (i + 1)).map iw) = wputs k ((l.take i).map iw) ++ wput (iw x) k := by
  rw [List.take_add_one, h, List.map_append, wputs_append]; simp [wputs]
theorem wrulesL_take {k : Nat} {l : List RuleD} (i : Nat) (h : ∀ r ∈ l, r.acts.length ≤ k) : (wrulesL (l.take i)).length ≤ i * (228 + 11 * k) := by
  have := wrulesL_len (l := l.take i) (fun r hr => h r (List.mem_of_mem_take hr))
  exact Nat.le_trans this (Nat.mul_le_mul_right _ (by simp; omega))
theorem modSound_acts {x : ModD} (h : modSound x = true) : x.acts.length ≤ 8 := by
  unfold modSound at h
  split at h
  · cases h
  · rename_i h1
    simp [actsSound] at h1
    omega
theorem ruleSound_acts {x : RuleD} (h : ruleSound x = true) : x.acts.length ≤ 8 := by
  simp [ruleSound, actsSound] at h
  omega
theorem ruleTable_acts {l : List RuleD} (h : ruleTable l = true) : ∀ r ∈ l, r.acts.length ≤ 8 := by
  intro r hr
  obtain ⟨i, hi, rfl⟩ := List.mem_iff_getElem.1 hr
  unfold ruleTable at h
  rw [List.all_eq_true] at h
  have := h i (by simpa using hi)
  unfold okAt at this
  rw [List.getElem?_eq_getElem hi] at this
  simp at this
  exact ruleSound_acts this.1
theorem msgSound_mod {x : MsgD} (h : msgSound x = true) (k : (x.kind == 1) = true) : x.mod.acts.length ≤ 8 := by
  simp only [beq_iff_eq] at k
  simp [msgSound, msgBody, k] at h
  exact modSound_acts h.2.2
theorem msgSound_rules {x : MsgD} (h : msgSound x = true) (k : x.kind = 9 ∨ x.kind = 10) : ∀ r ∈ x.rules, r.acts.length ≤ 8 := by
  have h1 : ¬ x.kind = 1 := by omega
  have h6 : ¬ x.kind = 6 := by omega
  have h8 : ¬ x.kind = 8 := by omega
  simp [msgSound, msgBody, h1, h6, h8, k] at h
  exact ruleTable_acts h.2.1.2
theorem encode_9 {x : MsgD} (hs : msgSound x = true) (hr : x.rules.length ≤ 65535) (k : x.kind = 9 ∨ x.kind = 10) : encode x = some ([] ++ wput (iw x.kind) 1 ++ wput (iw x.txn) 4 ++ wrules x.rules) := by
  have h1 : ¬ x.kind = 1 := by omega
  have h6 : ¬ x.kind = 6 := by omega
  have h8 : ¬ x.kind = 8 := by omega
  unfold encode
  rw [if_neg (by simp [hs]; omega)]
  simp only [h1, h6, h8, k, if_true, if_false, List.nil_append]
end Go.Aw
