/- Bytes; who reads them. -/
import Derived.Test.YtafleomjmjjlbaaData2
import Derived.Test.YtafleomjmjjlbaaAw14
namespace Go.Aw
open Go

def bytes1 (l : List UInt8) : List (List Value) := l.map fun c => [bv c]
abbrev FzB (m : Snap) (s : Sl) (l : List UInt8) : Prop := Fz m s.a s.n s.cap 1 (bytes1 l)
theorem Fz.lenB {m : Snap} {s : Sl} {l : List UInt8} (h : FzB m s l) : s.n = l.length := by have := h.len; simpa [bytes1] using this.symm
theorem bytes1_get {l : List UInt8} {k : Nat} {x : UInt8} (h : l[k]? = some x) : (bytes1 l)[k]? = some [bv x] := by simp [bytes1, h]
theorem bytes1_take {l : List UInt8} {i n : Nat} {x : UInt8} (h : l[i]? = some x) (hn : i < n) : (((bytes1 l).drop 0).take n)[i]? = some [bv x] := by
  rw [List.getElem?_take, if_pos hn, List.drop_zero]; exact bytes1_get h
def Sl.cut (s : Sl) (lo hi w : Nat) : Sl := ⟨sadd s.a lo w s.cap, hi - lo, s.cap - lo⟩
theorem FzB.cut {m : Snap} {s : Sl} {l : List UInt8} (h : FzB m s l) {lo hi : Nat} (h1 : lo ≤ hi) (h2 : hi ≤ s.n) : FzB m (s.cut lo hi 1) ((l.drop lo).take (hi - lo)) := by
  have e : bytes1 ((l.drop lo).take (hi - lo)) = ((bytes1 l).drop lo).take (hi - lo) := by simp [bytes1, List.map_take, List.map_drop]
  show Fz m _ _ _ 1 (bytes1 _)
  rw [e]
  exact h.slice h1 h2

/-- A reader: its slice, the bytes of it, whether it has ended. -/
structure Rs where
  s : Sl
  l : List UInt8
  e : Bool
def Rs.ok (q : Rs) (m : Snap) : Prop := FzB m q.s q.l
theorem Rs.ok.mono {q : Rs} {m m' : Snap} (h : q.ok m) (hm : m.le m') : q.ok m' := Fz.mono h hm
abbrev rdItem (r : Nat) (q : Rs) : Item := .blk r (.cells [q.s.v, .bool q.e].toArray 98)
def rnum (l : List UInt8) : W := l.foldl (fun n c => n <<< 8 ||| BitVec.ofNat 64 c.toNat) 0
theorem rnum_take {l : List UInt8} {i : Nat} {x : UInt8} (h : l[i]? = some x) : rnum (l.take (i + 1)) = rnum (l.take i) <<< 8 ||| BitVec.ofNat 64 x.toNat := by
  rw [List.take_add_one, h]; simp [rnum]
def rget (k : Nat) (q : Rs) : W × Rs := if q.e || decide (q.l.length < k) then (0, { q with e := true }) else (rnum (q.l.take k), ⟨q.s.cut k q.s.n 1, q.l.drop k, q.e⟩)
theorem rget_no {k : Nat} {q : Rs} (h : (q.e || decide (q.l.length < k)) = true) : rget k q = (0, { q with e := true }) := by unfold rget; rw [if_pos h]
theorem rget_yes {k : Nat} {q : Rs} (h : (q.e || decide (q.l.length < k)) = false) : rget k q = (rnum (q.l.take k), ⟨q.s.cut k q.s.n 1, q.l.drop k, q.e⟩) := by unfold rget; rw [if_neg (by simp [h])]
theorem rget_ok {k : Nat} {q : Rs} {m : Snap} (h : q.ok m) : (rget k q).2.ok m := by
  unfold rget
  split
  · exact h
  · rename_i h0
    have hl := Fz.lenB (s := q.s) (l := q.l) h
    have := FzB.cut (s := q.s) (l := q.l) h (lo := k) (hi := q.s.n) (by simp at h0; omega) (Nat.le_refl _)
    simp only [Rs.ok]
    rwa [List.take_of_length_le (by simp; omega)] at this
def rint (k : Nat) (q : Rs) : Int × Rs := ((rget k q).1.toInt, (rget k q).2)
theorem rint_ok {k : Nat} {q : Rs} {m : Snap} (h : q.ok m) : (rint k q).2.ok m := rget_ok h
def rheadN : Nat → Rs → Head × Rs
  | 0, q => (zHead, q)
  | i + 1, q => ((rheadN i q).1.set i (rget 8 (rheadN i q).2).1, (rget 8 (rheadN i q).2).2)
theorem rheadN_ok {q : Rs} {m : Snap} (h : q.ok m) : ∀ i, (rheadN i q).2.ok m
  | 0 => h
  | i + 1 => rget_ok (rheadN_ok h i)
def rhead (q : Rs) : Head × Rs := rheadN 12 q
theorem rhead_ok {q : Rs} {m : Snap} (h : q.ok m) : (rhead q).2.ok m := rheadN_ok h 12
def rcube (q : Rs) : Cube × Rs := (⟨(rhead q).1, (rhead (rhead q).2).1⟩, (rhead (rhead q).2).2)
theorem rcube_ok {q : Rs} {m : Snap} (h : q.ok m) : (rcube q).2.ok m := rhead_ok (rhead_ok h)
def ract (q : Rs) : ActD × Rs :=
  let a := rint 1 q; let b := rint 1 a.2; let c := rint 1 b.2; let d := rget 8 c.2
  (⟨a.1, b.1, c.1, d.1⟩, d.2)
theorem ract_ok {q : Rs} {m : Snap} (h : q.ok m) : (ract q).2.ok m := rget_ok (rget_ok (rget_ok (rget_ok h)))
def ractsN : Nat → Rs → List ActD × Rs
  | 0, q => ([], q)
  | n + 1, q => if q.e then ([], q) else ((ract q).1 :: (ractsN n (ract q).2).1, (ractsN n (ract q).2).2)
def racts (q : Rs) : List ActD × Rs := ractsN (rint 1 q).1.toNat (rint 1 q).2

theorem toNat_shl8_or {a : W} {c : UInt8} {k : Nat} (ha : a.toNat < 256 ^ k) (hk : k ≤ 7) : (a <<< 8 ||| BitVec.ofNat 64 c.toNat).toNat = a.toNat * 256 + c.toNat := by
  have hc := c.toNat_lt
  have hp : (256 : Nat) ^ k ≤ 256 ^ 7 := Nat.pow_le_pow_right (by decide) hk
  have h1 : a.toNat <<< 8 < 2 ^ 64 := by rw [Nat.shiftLeft_eq]; simp at hp ⊢; omega
  rw [BitVec.toNat_or, BitVec.toNat_shiftLeft, BitVec.toNat_ofNat, Nat.mod_eq_of_lt h1, Nat.mod_eq_of_lt (by omega), ← Nat.shiftLeft_add_eq_or_of_lt (by simpa using hc), Nat.shiftLeft_eq]
theorem rnum_lt' : ∀ (l : List UInt8) (a : W) (j k : Nat), a.toNat < 256 ^ j → j + l.length ≤ k → k ≤ 7 → (l.foldl (fun (n : W) (c : UInt8) => n <<< 8 ||| BitVec.ofNat 64 c.toNat) a).toNat < 256 ^ k
  | [], a, j, k, h, hk, h7 => Nat.lt_of_lt_of_le h (Nat.pow_le_pow_right (by decide) (by simpa using hk))
  | c :: l, a, j, k, h, hk, h7 => by
    simp at hk
    have hc := c.toNat_lt
    exact rnum_lt' l _ (j + 1) k (by rw [toNat_shl8_or h (by omega), Nat.pow_succ]; omega) (by omega) h7
theorem rnum_lt {l : List UInt8} {k : Nat} (h : l.length ≤ k) (hk : k ≤ 7) : (rnum l).toNat < 256 ^ k := rnum_lt' l 0 0 k (by decide) (by omega) hk
theorem rint_nat {k : Nat} (hk : k ≤ 7) (q : Rs) : ∃ n : Nat, (rint k q).1 = n ∧ n < 256 ^ k := by
  have hp : (256 : Nat) ^ k ≤ 256 ^ 7 := Nat.pow_le_pow_right (by decide) hk
  have h : (rget k q).1.toNat < 256 ^ k := by
    unfold rget
    split
    · simpa using Nat.pow_pos (by decide)
    · exact rnum_lt (by simp; omega) hk
  refine ⟨(rget k q).1.toNat, ?_, h⟩
  simp only [rint, BitVec.toInt]
  rw [if_pos]
  simp at hp ⊢; omega
theorem ractsN_end {n : Nat} {q : Rs} (h : q.e = true) : ractsN n q = ([], q) := by cases n <;> simp [ractsN, h]
theorem ractsN_succ {n : Nat} {q : Rs} (h : q.e = false) : ractsN (n + 1) q = ((ract q).1 :: (ractsN n (ract q).2).1, (ractsN n (ract q).2).2) := by simp [ractsN, h]
theorem ractsN_ok {m : Snap} : ∀ {n : Nat} {q : Rs}, q.ok m → (ractsN n q).2.ok m
  | 0, q, h => h
  | n + 1, q, h => by
    unfold ractsN; split
    · exact h
    · exact ractsN_ok (ract_ok h)
theorem racts_ok {q : Rs} {m : Snap} (h : q.ok m) : (racts q).2.ok m := ractsN_ok (rint_ok h)
def rmod0 (q : Rs) : ModD × Rs :=
  let k := rint 1 q; let c := rcube k.2; let p := rint 2 c.2; let i := rint 4 p.2; let h := rint 4 i.2; let o := rint 1 h.2
  (⟨k.1, c.1, p.1, [], i.1, h.1, o.1, false⟩, o.2)
theorem rmod0_ok {q : Rs} {m : Snap} (h : q.ok m) : (rmod0 q).2.ok m := rint_ok (rint_ok (rint_ok (rint_ok (rcube_ok (rint_ok h)))))
def rmod (q : Rs) : (ModD × Bool) × Rs :=
  let c := rint 1 (rmod0 q).2
  (({ (rmod0 q).1 with check := c.1 == 1, acts := (racts c.2).1 }, decide (c.1 ≤ 1)), (racts c.2).2)
theorem rmod_ok {q : Rs} {m : Snap} (h : q.ok m) : (rmod q).2.ok m := racts_ok (rint_ok (rmod0_ok h))
def rrule0 (q : Rs) : RuleD × Rs :=
  let c := rcube q; let p := rint 2 c.2; let i := rint 4 p.2; let h := rint 4 i.2; let o := rint 1 h.2; let x := rint 8 o.2; let y := rint 8 x.2; let z := rint 8 y.2
  (⟨c.1, p.1, [], i.1, h.1, o.1, x.1, y.1, z.1⟩, z.2)
def rrule (q : Rs) : RuleD × Rs := ({ (rrule0 q).1 with acts := (racts (rrule0 q).2).1 }, (racts (rrule0 q).2).2)
set_option maxRecDepth 100000 in
theorem rrule0_ok {q : Rs} {m : Snap} (h : q.ok m) : (rrule0 q).2.ok m := rint_ok (rint_ok (rint_ok (rint_ok (rint_ok (rint_ok (rint_ok (rcube_ok h)))))))
set_option maxRecDepth 100000 in
theorem rrule_ok {q : Rs} {m : Snap} (h : q.ok m) : (rrule q).2.ok m := racts_ok (rrule0_ok h)
def rrulesN : Nat → Rs → List RuleD × Rs
  | 0, q => ([], q)
  | n + 1, q => if q.e then ([], q) else ((rrule q).1 :: (rrulesN n (rrule q).2).1, (rrulesN n (rrule q).2).2)
def rrules (q : Rs) : List RuleD × Rs := rrulesN (rint 2 q).1.toNat (rint 2 q).2
theorem rrulesN_end {n : Nat} {q : Rs} (h : q.e = true) : rrulesN n q = ([], q) := by cases n <;> simp [rrulesN, h]
theorem rrulesN_succ {n : Nat} {q : Rs} (h : q.e = false) : rrulesN (n + 1) q = ((rrule q).1 :: (rrulesN n (rrule q).2).1, (rrulesN n (rrule q).2).2) := by simp [rrulesN, h]
theorem rrulesN_ok {m : Snap} : ∀ {n : Nat} {q : Rs}, q.ok m → (rrulesN n q).2.ok m
  | 0, q, h => h
  | n + 1, q, h => by
    unfold rrulesN; split
    · exact h
    · exact rrulesN_ok (rrule_ok h)
theorem rrules_ok {q : Rs} {m : Snap} (h : q.ok m) : (rrules q).2.ok m := rrulesN_ok (rint_ok h)
def rmsg0 (q : Rs) : MsgD × Rs := let k := rint 1 q; let t := rint 4 k.2; (⟨k.1, t.1, 0, zMod, 0, zHead, []⟩, t.2)
theorem rmsg0_ok {q : Rs} {m : Snap} (h : q.ok m) : (rmsg0 q).2.ok m := rint_ok (rint_ok h)
def rmsg (q : Rs) : (MsgD × Bool) × Rs :=
  let x := (rmsg0 q).1; let q := (rmsg0 q).2
  if x.kind = 1 then (({ x with mod := (rmod q).1.1 }, (rmod q).1.2), (rmod q).2)
  else if x.kind = 6 then (({ x with e := (rint 1 q).1 }, true), (rint 1 q).2)
  else if x.kind = 8 then (({ x with port := (rint 1 q).1, head := (rhead (rint 1 q).2).1 }, true), (rhead (rint 1 q).2).2)
  else if x.kind = 9 ∨ x.kind = 10 then (({ x with rules := (rrules q).1 }, true), (rrules q).2)
  else ((x, true), q)
def zMsg : MsgD := ⟨0, 0, 0, zMod, 0, zHead, []⟩
def decode (s : Sl) (l : List UInt8) : MsgD × Int :=
  let x := rmsg ⟨s, l, false⟩
  if x.2.e then (zMsg, 8) else if !x.1.2 || decide (0 < x.2.l.length) || !msgSound x.1.1 then (zMsg, 2) else (x.1.1, 0)
def AllA (m : Snap) (l : List (RuleD × Sl)) : Prop := ∀ p ∈ l, FzA m p.2 p.1.acts ∧ p.2.ok
theorem AllA.mono {m m' : Snap} {l : List (RuleD × Sl)} (h : AllA m l) (hm : m.le m') : AllA m' l := fun p hp => ⟨(h p hp).1.mono hm, (h p hp).2⟩
theorem AllA.snoc {m : Snap} {l : List (RuleD × Sl)} {x : RuleD} {s : Sl} (h : AllA m l) (hx : FzA m s x.acts) (hs : s.ok) : AllA m (l ++ [(x, s)]) := fun p hp => by
  rcases List.mem_append.1 hp with hp | hp
  · exact h p hp
  · simp at hp; subst hp; exact ⟨hx, hs⟩
theorem rmsg_1 {q : Rs} (h : ((rmsg0 q).1.kind == 1) = true) : rmsg q = (({ (rmsg0 q).1 with mod := (rmod (rmsg0 q).2).1.1 }, (rmod (rmsg0 q).2).1.2), (rmod (rmsg0 q).2).2) := by
  simp only [beq_iff_eq] at h; unfold rmsg; simp only [h, if_true]
theorem rmsg_6 {q : Rs} (h1 : ((rmsg0 q).1.kind == 1) = false) (h : ((rmsg0 q).1.kind == 6) = true) : rmsg q = (({ (rmsg0 q).1 with e := (rint 1 (rmsg0 q).2).1 }, true), (rint 1 (rmsg0 q).2).2) := by
  simp only [beq_iff_eq] at h; unfold rmsg; simp [h]
theorem rmsg_8 {q : Rs} (h1 : ((rmsg0 q).1.kind == 1) = false) (h6 : ((rmsg0 q).1.kind == 6) = false) (h : ((rmsg0 q).1.kind == 8) = true) : rmsg q = (({ (rmsg0 q).1 with port := (rint 1 (rmsg0 q).2).1, head := (rhead (rint 1 (rmsg0 q).2).2).1 }, true), (rhead (rint 1 (rmsg0 q).2).2).2) := by
  simp only [beq_iff_eq] at h; unfold rmsg; simp [h]
theorem rmsg_9 {q : Rs} (h1 : ((rmsg0 q).1.kind == 1) = false) (h6 : ((rmsg0 q).1.kind == 6) = false) (h8 : ((rmsg0 q).1.kind == 8) = false) (h : ((rmsg0 q).1.kind == 9) = true) : rmsg q = (({ (rmsg0 q).1 with rules := (rrules (rmsg0 q).2).1 }, true), (rrules (rmsg0 q).2).2) := by
  simp only [beq_iff_eq] at h; unfold rmsg; simp [h]
theorem rmsg_10 {q : Rs} (h1 : ((rmsg0 q).1.kind == 1) = false) (h6 : ((rmsg0 q).1.kind == 6) = false) (h8 : ((rmsg0 q).1.kind == 8) = false) (h9 : ((rmsg0 q).1.kind == 9) = false) (h : ((rmsg0 q).1.kind == 10) = true) : rmsg q = (({ (rmsg0 q).1 with rules := (rrules (rmsg0 q).2).1 }, true), (rrules (rmsg0 q).2).2) := by
  simp only [beq_iff_eq] at h; unfold rmsg; simp [h]
theorem rmsg_o {q : Rs} (h1 : ((rmsg0 q).1.kind == 1) = false) (h6 : ((rmsg0 q).1.kind == 6) = false) (h8 : ((rmsg0 q).1.kind == 8) = false) (h9 : ((rmsg0 q).1.kind == 9) = false) (h : ((rmsg0 q).1.kind == 10) = false) : rmsg q = (((rmsg0 q).1, true), (rmsg0 q).2) := by
  simp only [beq_eq_false_iff_ne] at h1 h6 h8 h9 h; unfold rmsg; simp [h1, h6, h8, h9, h]
theorem decode_short {s : Sl} {l : List UInt8} {p : (MsgD × Bool) × Rs} (hx : rmsg ⟨s, l, false⟩ = p) (h : p.2.e = true) : decode s l = (zMsg, 8) := by unfold decode; simp [hx, h]
theorem decode_bad {s : Sl} {l : List UInt8} {p : (MsgD × Bool) × Rs} (hx : rmsg ⟨s, l, false⟩ = p) (h : p.2.e = false) (hb : (!p.1.2 || decide (0 < p.2.l.length) || !msgSound p.1.1) = true) : decode s l = (zMsg, 2) := by unfold decode; simp only [hx, h, hb]; rfl
theorem decode_ok {s : Sl} {l : List UInt8} {p : (MsgD × Bool) × Rs} (hx : rmsg ⟨s, l, false⟩ = p) (h : p.2.e = false) (hb : (!p.1.2 || decide (0 < p.2.l.length) || !msgSound p.1.1) = false) : decode s l = (p.1.1, 0) := by unfold decode; simp only [hx, h, hb]; rfl
theorem zMsg_ok (m : Snap) : MsgOk m zMsg zSl zSl [] := ⟨fzA_nil _, fun _ => rfl, fzR_nil _, rfl⟩
end Go.Aw
