/- What is read is written again. -/
import Derived.Test.YtafleomjmjjlbaaData8
namespace Go.Aw
open Go

def numN : List UInt8 → Nat
  | [] => 0
  | c :: r => c.toNat * 256 ^ r.length + numN r
theorem numN_lt : ∀ l, numN l < 256 ^ l.length
  | [] => by simp [numN]
  | c :: r => by
    have h := numN_lt r
    have hc := c.toNat_lt
    simp only [numN, List.length_cons, Nat.pow_succ]
    have : c.toNat * 256 ^ r.length ≤ 255 * 256 ^ r.length := Nat.mul_le_mul_right _ (by omega)
    omega
theorem foldl_num : ∀ (l : List UInt8) (a : W), (l.foldl (fun (n : W) (c : UInt8) => n <<< 8 ||| BitVec.ofNat 64 c.toNat) a).toNat = (a.toNat * 256 ^ l.length + numN l) % 2 ^ 64
  | [], a => by simp [numN]; omega
  | c :: r, a => by
    have hc := c.toNat_lt
    rw [List.foldl_cons, foldl_num r, shl8_or]
    simp only [BitVec.toNat_add, BitVec.toNat_mul, BitVec.toNat_ofNat, numN, List.length_cons, Nat.pow_succ]
    rw [Nat.mod_eq_of_lt (a := c.toNat) (by omega)]
    generalize 256 ^ r.length = m
    rw [show (256 % 2 ^ 64 : Nat) = 256 from rfl]
    have e1 : ((a.toNat * 256 % 2 ^ 64 + c.toNat) % 2 ^ 64 * m + numN r) % 2 ^ 64 = ((a.toNat * 256 + c.toNat) * m + numN r) % 2 ^ 64 := by
      rw [Nat.add_mod, Nat.mul_mod, Nat.mod_mod, Nat.add_mod (a.toNat * 256 % 2 ^ 64), Nat.mod_mod, ← Nat.add_mod (a.toNat * 256), ← Nat.mul_mod, ← Nat.add_mod]
    rw [e1]
    congr 1
    rw [Nat.add_mul, Nat.add_assoc, Nat.mul_assoc, Nat.mul_comm m 256]
theorem rnum_num {l : List UInt8} (h : l.length ≤ 8) : (rnum l).toNat = numN l := by
  unfold rnum
  rw [foldl_num]
  have h1 := numN_lt l
  have h2 : (256 : Nat) ^ l.length ≤ 256 ^ 8 := Nat.pow_le_pow_right (by decide) h
  simp at h2 ⊢
  omega
theorem byte_of (x : W) (k : Nat) : (x >>> (8 * k)).toNat = x.toNat / 256 ^ k := by
  rw [BitVec.toNat_ushiftRight, Nat.shiftRight_eq_div_pow, Nat.pow_mul]
theorem wput_of : ∀ (r : List UInt8) (x : W), x.toNat % 256 ^ r.length = numN r → wput x r.length = r
  | [], _, _ => rfl
  | c :: r, x, h => by
    have hc := c.toNat_lt
    have hr := numN_lt r
    simp only [List.length_cons, Nat.pow_succ, numN] at h
    have hpos : 0 < 256 ^ r.length := Nat.pow_pos (by decide)
    have h1 : x.toNat / 256 ^ r.length % 256 = c.toNat := by
      rw [← Nat.mod_mul_right_div_self, h, Nat.mul_comm, Nat.mul_add_div hpos, Nat.div_eq_of_lt hr, Nat.add_zero]
    have h2 : x.toNat % 256 ^ r.length = numN r := by
      have := congrArg (· % 256 ^ r.length) h
      simp only [Nat.mod_mul_right_mod] at this
      rw [this, Nat.mul_comm, Nat.mul_add_mod, Nat.mod_eq_of_lt hr]
    simp only [List.length_cons, wput]
    rw [wput_of r x h2, byte_of]
    congr 1
    apply UInt8.toNat_inj.1
    rw [UInt8.toNat_ofNat', ← h1]
theorem wput_rnum {l : List UInt8} (h : l.length ≤ 8) : wput (rnum l) l.length = l :=
  wput_of l _ (by rw [rnum_num h, Nat.mod_eq_of_lt (numN_lt l)])
theorem iw_toInt (w : W) : iw w.toInt = w := BitVec.ofInt_toInt

theorem get_rt {k : Nat} {q : Rs} (hk : k ≤ 8) (h : (rget k q).2.e = false) : q.e = false ∧ q.l = wput (rget k q).1 k ++ (rget k q).2.l := by
  unfold rget at h ⊢
  split at h
  · cases h
  · rename_i h0
    rw [if_neg h0]
    simp at h0
    refine ⟨h0.1, ?_⟩
    have := wput_rnum (l := q.l.take k) (by simp; omega)
    rw [List.length_take, Nat.min_eq_left h0.2] at this
    rw [this]
    simp
theorem int_rt {k : Nat} {q : Rs} (hk : k ≤ 8) (h : (rint k q).2.e = false) : q.e = false ∧ q.l = wput (iw (rint k q).1) k ++ (rint k q).2.l := by
  have := get_rt hk h
  simpa only [rint, iw_toInt] using this
theorem headL_set (h : Head) (w : W) {i : Nat} (hi : i < 12) : (headL (h.set i w)).take (i + 1) = (headL h).take i ++ [w] := by
  match i, hi with
  | 0, _ | 1, _ | 2, _ | 3, _ | 4, _ | 5, _ | 6, _ | 7, _ | 8, _ | 9, _ | 10, _ | 11, _ => rfl
theorem headN_rt {q : Rs} : ∀ {i : Nat}, i ≤ 12 → (rheadN i q).2.e = false → q.e = false ∧ q.l = wputs 8 ((headL (rheadN i q).1).take i) ++ (rheadN i q).2.l
  | 0, _, h => ⟨h, by simp [rheadN, wputs]⟩
  | i + 1, hi, h => by
    obtain ⟨h1, h2⟩ := get_rt (k := 8) (q := (rheadN i q).2) (by decide) h
    obtain ⟨h3, h4⟩ := headN_rt (i := i) (by omega) h1
    refine ⟨h3, ?_⟩
    show q.l = wputs 8 ((headL ((rheadN i q).1.set i _)).take (i + 1)) ++ _
    rw [headL_set _ _ (by omega), wputs_append, List.append_assoc, h4]
    rw [h2]
    simp [wputs, rheadN]
theorem head_rt {q : Rs} (h : (rhead q).2.e = false) : q.e = false ∧ q.l = whead (rhead q).1 ++ (rhead q).2.l := by
  have := headN_rt (i := 12) (Nat.le_refl _) h
  rwa [List.take_of_length_le (by simp [headL])] at this
theorem cube_rt {q : Rs} (h : (rcube q).2.e = false) : q.e = false ∧ q.l = whead (rcube q).1.value ++ (whead (rcube q).1.care ++ (rcube q).2.l) := by
  obtain ⟨h1, h2⟩ := head_rt (q := (rhead q).2) h
  obtain ⟨h3, h4⟩ := head_rt h1
  exact ⟨h3, by rw [h4, h2]; rfl⟩
theorem act_rt {q : Rs} (h : (ract q).2.e = false) : q.e = false ∧ q.l = wact (ract q).1 ++ (ract q).2.l := by
  obtain ⟨h1, g1⟩ := get_rt (k := 8) (by decide) h
  obtain ⟨h2, g2⟩ := int_rt (k := 1) (by decide) h1
  obtain ⟨h3, g3⟩ := int_rt (k := 1) (by decide) h2
  obtain ⟨h4, g4⟩ := int_rt (k := 1) (by decide) h3
  refine ⟨h4, ?_⟩
  rw [g4, g3, g2, g1]
  simp [wact, ract]
theorem actsN_rt : ∀ {n : Nat} {q : Rs}, (ractsN n q).2.e = false → q.e = false ∧ (ractsN n q).1.length = n ∧ q.l = wactsL (ractsN n q).1 ++ (ractsN n q).2.l
  | 0, q, h => ⟨h, rfl, by simp [ractsN, wactsL]⟩
  | n + 1, q, h => by
    cases he : q.e with
    | true => rw [ractsN_end he] at h; rw [he] at h; cases h
    | false =>
      rw [ractsN_succ he] at h ⊢
      obtain ⟨h1, h2, h3⟩ := actsN_rt (n := n) h
      obtain ⟨_, g2⟩ := act_rt h1
      exact ⟨rfl, by simp [h2], by simp only [wactsL, List.append_assoc]; rw [← h3]; exact g2⟩
theorem acts_rt {q : Rs} (h : (racts q).2.e = false) : q.e = false ∧ q.l = wacts (racts q).1 ++ (racts q).2.l := by
  obtain ⟨n, hn, _⟩ := rint_nat (k := 1) (by decide) q
  obtain ⟨h1, h2, h3⟩ := actsN_rt h
  obtain ⟨h4, h5⟩ := int_rt (k := 1) (by decide) h1
  refine ⟨h4, ?_⟩
  have hl : ((racts q).1.length : Int) = (rint 1 q).1 := by
    show (((ractsN (rint 1 q).1.toNat (rint 1 q).2).1.length : Nat) : Int) = _
    rw [h2, hn]; rfl
  unfold wacts
  rw [hl, List.append_assoc]
  show q.l = wput (iw (rint 1 q).1) 1 ++ (wactsL (ractsN (rint 1 q).1.toNat (rint 1 q).2).1 ++ (ractsN (rint 1 q).1.toNat (rint 1 q).2).2.l)
  rw [← h3]
  exact h5

set_option maxRecDepth 100000 in
theorem mod0_rt {q : Rs} (h : (rmod0 q).2.e = false) : q.e = false ∧ q.l = wput (iw (rmod0 q).1.kind) 1 ++ (wmatch (rmod0 q).1.m (rmod0 q).1.prio (rmod0 q).1.idle (rmod0 q).1.hard (rmod0 q).1.owner ++ (rmod0 q).2.l) := by
  obtain ⟨h1, g1⟩ := int_rt (k := 1) (by decide) h
  obtain ⟨h2, g2⟩ := int_rt (k := 4) (by decide) h1
  obtain ⟨h3, g3⟩ := int_rt (k := 4) (by decide) h2
  obtain ⟨h4, g4⟩ := int_rt (k := 2) (by decide) h3
  obtain ⟨h5, g5⟩ := cube_rt h4
  obtain ⟨h6, g6⟩ := int_rt (k := 1) (by decide) h5
  refine ⟨h6, ?_⟩
  rw [g6, g5, g4, g3, g2, g1]
  simp only [wmatch, List.append_assoc]
  rfl
theorem flag_eq {n : Nat} (h : (n : Int) ≤ 1) : (if ((n : Int) == 1) then (1 : W) else 0) = iw n := by
  match n, h with
  | 0, _ => rfl
  | 1, _ => rfl
set_option maxRecDepth 100000 in
theorem mod_rt {q : Rs} (h : (rmod q).2.e = false) (hc : (rmod q).1.2 = true) : q.e = false ∧ q.l = wmod (rmod q).1.1 ++ (rmod q).2.l := by
  obtain ⟨h1, g1⟩ := acts_rt h
  obtain ⟨h2, g2⟩ := int_rt (k := 1) (by decide) h1
  obtain ⟨h3, g3⟩ := mod0_rt h2
  obtain ⟨n, hn, _⟩ := rint_nat (k := 1) (by decide) (rmod0 q).2
  have hc' : (rint 1 (rmod0 q).2).1 ≤ 1 := by simpa [rmod] using hc
  refine ⟨h3, ?_⟩
  rw [g3, g2, g1]
  have e : wput (if (rmod q).1.1.check = true then 1 else 0) 1 = wput (iw (rint 1 (rmod0 q).2).1) 1 := by
    have hk : (rmod q).1.1.check = ((rint 1 (rmod0 q).2).1 == 1) := rfl
    rw [hk, hn] at *
    rw [flag_eq hc']
  unfold wmod
  rw [e]
  simp only [List.append_assoc]
  rfl
set_option maxRecDepth 100000 in
theorem rule0_rt {q : Rs} (h : (rrule0 q).2.e = false) : q.e = false ∧ q.l = wmatch (rrule0 q).1.m (rrule0 q).1.prio (rrule0 q).1.idle (rrule0 q).1.hard (rrule0 q).1.owner ++ (wputs 8 [iw (rrule0 q).1.hits, iw (rrule0 q).1.quiet, iw (rrule0 q).1.age] ++ (rrule0 q).2.l) := by
  obtain ⟨h1, g1⟩ := int_rt (k := 8) (by decide) h
  obtain ⟨h2, g2⟩ := int_rt (k := 8) (by decide) h1
  obtain ⟨h3, g3⟩ := int_rt (k := 8) (by decide) h2
  obtain ⟨h4, g4⟩ := int_rt (k := 1) (by decide) h3
  obtain ⟨h5, g5⟩ := int_rt (k := 4) (by decide) h4
  obtain ⟨h6, g6⟩ := int_rt (k := 4) (by decide) h5
  obtain ⟨h7, g7⟩ := int_rt (k := 2) (by decide) h6
  obtain ⟨h8, g8⟩ := cube_rt h7
  refine ⟨h8, ?_⟩
  rw [g8, g7, g6, g5, g4, g3, g2, g1]
  simp only [wmatch, wputs, List.append_assoc, List.nil_append]
  rfl
set_option maxRecDepth 100000 in
theorem rule_rt {q : Rs} (h : (rrule q).2.e = false) : q.e = false ∧ q.l = wrule (rrule q).1 ++ (rrule q).2.l := by
  obtain ⟨h1, g1⟩ := acts_rt h
  obtain ⟨h2, g2⟩ := rule0_rt h1
  refine ⟨h2, ?_⟩
  rw [g2, g1]
  simp only [wrule, List.append_assoc]
  rfl
set_option maxRecDepth 100000 in
theorem rulesN_rt : ∀ {n : Nat} {q : Rs}, (rrulesN n q).2.e = false → q.e = false ∧ (rrulesN n q).1.length = n ∧ q.l = wrulesL (rrulesN n q).1 ++ (rrulesN n q).2.l
  | 0, q, h => ⟨h, rfl, by simp [rrulesN, wrulesL]⟩
  | n + 1, q, h => by
    cases he : q.e with
    | true => rw [rrulesN_end he] at h; rw [he] at h; cases h
    | false =>
      rw [rrulesN_succ he] at h ⊢
      obtain ⟨h1, h2, h3⟩ := rulesN_rt (n := n) h
      obtain ⟨_, g2⟩ := rule_rt h1
      exact ⟨rfl, by simp [h2], by simp only [wrulesL, List.append_assoc]; rw [← h3]; exact g2⟩
set_option maxRecDepth 100000 in
theorem rules_rt {q : Rs} (h : (rrules q).2.e = false) : q.e = false ∧ (rrules q).1.length < 65536 ∧ q.l = wrules (rrules q).1 ++ (rrules q).2.l := by
  obtain ⟨n, hn, hlt⟩ := rint_nat (k := 2) (by decide) q
  obtain ⟨h1, h2, h3⟩ := rulesN_rt h
  obtain ⟨h4, h5⟩ := int_rt (k := 2) (by decide) h1
  have hl : ((rrules q).1.length : Int) = (rint 2 q).1 := by
    show (((rrulesN (rint 2 q).1.toNat (rint 2 q).2).1.length : Nat) : Int) = _
    rw [h2, hn]; rfl
  refine ⟨h4, by rw [hn] at hl; simp at hlt; omega, ?_⟩
  unfold wrules
  rw [hl, List.append_assoc]
  show q.l = wput (iw (rint 2 q).1) 2 ++ (wrulesL (rrulesN (rint 2 q).1.toNat (rint 2 q).2).1 ++ (rrulesN (rint 2 q).1.toNat (rint 2 q).2).2.l)
  rw [← h3]
  exact h5
set_option maxRecDepth 100000 in
theorem msg0_rt {q : Rs} (h : (rmsg0 q).2.e = false) : q.e = false ∧ q.l = wput (iw (rmsg0 q).1.kind) 1 ++ (wput (iw (rmsg0 q).1.txn) 4 ++ (rmsg0 q).2.l) := by
  obtain ⟨h1, g1⟩ := int_rt (k := 4) (by decide) h
  obtain ⟨h2, g2⟩ := int_rt (k := 1) (by decide) h1
  refine ⟨h2, ?_⟩
  rw [g2, g1]
  rfl
set_option maxRecDepth 100000 in
theorem msg_rt {q : Rs} (h : (rmsg q).2.e = false) (ho : (rmsg q).1.2 = true) (hs : msgSound (rmsg q).1.1 = true) (hl : (rmsg q).2.l = []) : encode (rmsg q).1.1 = some q.l := by
  unfold rmsg at h ho hs hl ⊢
  simp only at h ho hs hl ⊢
  have hk : ∀ x : MsgD, msgSound x = true → x.rules.length ≤ 65535 → encode x = some (wput (iw x.kind) 1 ++ wput (iw x.txn) 4 ++
      (if x.kind = 1 then wmod x.mod else if x.kind = 6 then wput (iw x.e) 1 else if x.kind = 8 then wput (iw x.port) 1 ++ whead x.head else if x.kind = 9 ∨ x.kind = 10 then wrules x.rules else [])) := by
    intro x hx hr
    unfold encode
    rw [if_neg (by simp [hx]; omega)]
  by_cases k1 : (rmsg0 q).1.kind = 1
  · rw [if_pos k1] at h ho hs hl ⊢
    obtain ⟨h1, g1⟩ := mod_rt h ho
    obtain ⟨_, g0⟩ := msg0_rt h1
    rw [hk _ hs (Nat.zero_le _)]
    simp only [if_pos k1]
    rw [g0, g1, hl]
    simp
  rw [if_neg k1] at h ho hs hl ⊢
  by_cases k6 : (rmsg0 q).1.kind = 6
  · rw [if_pos k6] at h ho hs hl ⊢
    obtain ⟨h1, g1⟩ := int_rt (k := 1) (by decide) h
    obtain ⟨_, g0⟩ := msg0_rt h1
    rw [hk _ hs (Nat.zero_le _)]
    simp only [if_neg k1, if_pos k6]
    rw [g0, g1, hl]
    simp
  rw [if_neg k6] at h ho hs hl ⊢
  by_cases k8 : (rmsg0 q).1.kind = 8
  · rw [if_pos k8] at h ho hs hl ⊢
    obtain ⟨h1, g1⟩ := head_rt h
    obtain ⟨h2, g2⟩ := int_rt (k := 1) (by decide) h1
    obtain ⟨_, g0⟩ := msg0_rt h2
    rw [hk _ hs (Nat.zero_le _)]
    simp only [if_neg k1, if_neg k6, if_pos k8]
    rw [g0, g2, g1, hl]
    simp
  rw [if_neg k8] at h ho hs hl ⊢
  by_cases k9 : (rmsg0 q).1.kind = 9 ∨ (rmsg0 q).1.kind = 10
  · rw [if_pos k9] at h ho hs hl ⊢
    obtain ⟨h1, hlt, g1⟩ := rules_rt h
    obtain ⟨_, g0⟩ := msg0_rt h1
    rw [hk _ hs (by simp only; omega)]
    simp only [if_neg k1, if_neg k6, if_neg k8, if_pos k9]
    rw [g0, g1, hl]
    simp
  rw [if_neg k9] at h ho hs hl ⊢
  obtain ⟨_, g0⟩ := msg0_rt h
  rw [hk _ hs (Nat.zero_le _)]
  simp only [if_neg k1, if_neg k6, if_neg k8, if_neg k9]
  rw [g0, hl]
  simp
theorem decode_encode {s : Sl} {l : List UInt8} (h : (decode s l).2 = 0) : encode (decode s l).1 = some l := by
  unfold decode at h ⊢
  simp only at h ⊢
  split at h
  · cases h
  · rename_i he
    rw [if_neg he]
    split at h
    · cases h
    · rename_i hb
      rw [if_neg hb]
      simp only [Bool.or_eq_true, Bool.not_eq_true', decide_eq_true_eq, not_or] at hb
      exact msg_rt (by simpa using he) (by simpa using hb.1.1) (by simpa using hb.2) (List.eq_nil_of_length_eq_zero (by omega))
end Go.Aw
