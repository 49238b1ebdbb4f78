/- Part 5 of the words and walks that the proof behind it uses. -/
import Derived.Test.YtnmhkhobjaklhaaModsApartP4
set_option linter.unusedVariables false
set_option linter.unusedSimpArgs false
set_option maxHeartbeats 1000000
namespace Go.Aw
open Go Go.Proofs
theorem ruleCopyF_w (s1 : Sl) (l1 : List (RuleD × Sl)) (m : Snap) (H : Hp) (hz : FzR m s1 l1) (hfa : ∀ p ∈ l1, p.1.acts.length ≤ 4398046511103) (hfit : l1.length ≤ 1000000) : Fn Try.prog 27 [s1.v] m H (fun v m' H' => ∃ (a : Option Addr) (n : Nat) (lr : List (RuleD × Sl)), v = .slice a n n ∧ FzR m' ⟨a, n, n⟩ lr ∧ lr.map (·.1) = l1.map (·.1) ∧ (a = none → n = 0) ∧ H' = H) :=
  (ruleCopy_w s1 l1 m H hz hfa hfit).post fun v m' H' w hm hs ⟨a, n, cap, lo, h1, h2, h3, h4, h5⟩ => by
    subst h5
    obtain ⟨m2, g1, g2, g3, g4⟩ := hs.freezeO h4
    exact ⟨m2, H, g1, g2, a, n, _, h1, g3, by rw [map_fst, h3], g4, rfl⟩
set_option maxRecDepth 100000 in
theorem idxRules_w (s : Sl) (l : List (RuleD × Sl)) (f : Nat) (cp : List Value) (p : RuleD → Bool) (m : Snap) (H : Hp) (hz : FzR m s l) (hr : runs Try.prog f) (hf : ∀ m' x, m.le m' → x ∈ l → Fn Try.prog f (.agg (encRule x.1 x.2).toArray :: cp) m' H (fun v _ H' => v = .bool (p x.1) ∧ H' = H)) : Fn Try.prog 118 [s.v, .func (.func f) [].toArray cp.toArray] m H (fun v _ H' => v = .int .i64 (idxF p (l.map (·.1))) ∧ H' = H) := by
  have hm : m.le m := Snap.le.refl m
  refine fn_end Try.func118 rfl rfl rfl ?_
  refine c_seq (fun K0 hK0 => ?_)
  refine c_region ?_
  refine r_y rfl rfl (y_assign rfl) ?_
  refine r_nil ?_
  refine hK0 _ _ _ ?_
  clear hK0 K0
  refine c_seq (fun K1 hK1 => ?_)
  refine c_seq (fun K2 hK2 => ?_)
  refine c_region ?_
  refine r_y rfl rfl (y_move rfl) ?_
  refine r_y rfl rfl (y_len tl33 rfl) ?_
  refine r_y rfl rfl (y_move rfl) ?_
  refine r_nil ?_
  refine hK2 _ _ _ ?_
  clear hK2 K2
  refine c_block ?_
  have hl := hz.len
  have hmx := hz.fz.max
  have hle := hz.fz.le
  unfold maxLen at hmx
  refine c_loopx (α := Nat) (fun i => [(0, s.v), (1, .func (.func f) [].toArray cp.toArray), (7, .int .i64 (s.n : Nat)), (8, .int .i64 (i : Nat))]) (fun i => H) (fun k0 i m1 => (i + k0 = s.n ∧ ((l.map (·.1)).take i).any p = false) ∧ m.le m1 ∧ (FzR m1 s l)) (s.n) 0 ⟨rfl, rfl, rfl, rfl, trivial⟩ rfl ⟨⟨by omega, rfl⟩, hm, hz⟩ ?_
  clear hm hz
  rintro k0 i m1 ⟨hi0, hm, hz⟩
  obtain ⟨hi, hinv⟩ := hi0
  refine c_seq (fun K3 hK3 => ?_)
  refine c_region ?_
  refine r_y rfl rfl (y_iop rfl rfl rfl) ?_
  refine r_nil ?_
  refine hK3 _ _ _ ?_
  clear hK3 K3
  refine c_seq (fun K4 hK4 => ?_)
  refine c_cond rfl (fun h0 => ?_) (fun h0 => ?_)
  ·
    have hlt : i < s.n := by simp at h0; omega
    obtain ⟨x, hx⟩ := get_of_lt (l := l) (k := i) (by omega)
    have hy : (l.map (·.1))[i]? = some x.1 := map_get hx
    refine c_skip ?_
    refine hK4 _ _ _ ?_
    clear hK4 K4
    refine c_seq (fun K5 hK5 => ?_)
    refine c_block ?_
    refine c_seq (fun K6 hK6 => ?_)
    refine c_region ?_
    refine r_y rfl rfl (y_move rfl) ?_
    refine r_y rfl rfl (y_assign rfl) ?_
    refine r_nil ?_
    refine hK6 _ _ _ ?_
    clear hK6 K6
    refine c_seq (fun K7 hK7 => ?_)
    refine c_region ?_
    refine r_y rfl rfl (y_move rfl) ?_
    refine r_y rfl rfl (y_move rfl) ?_
    refine r_y rfl rfl (y_move rfl) ?_
    refine r_y rfl rfl (y_indexAddr_slice rfl rfl tl33 hlt (At.fz hz.fz hlt)) ?_
    refine r_y rfl rfl (y_load_a rfl ts50 (RdA.fz0 hz.fz (map_get hx))) ?_
    refine r_s rfl ?_
    refine s_call rfl hr rfl rfl (hf _ x hm (List.mem_of_getElem? hx)) ?_
    rintro _ m2 _ hm2 ⟨rfl, rfl⟩
    replace hm := hm.trans hm2
    replace hz := hz.mono hm2
    clear hm2
    refine r_nil ?_
    refine hK7 _ _ _ ?_
    clear hK7 K7
    refine c_cond rfl (fun h1 => ?_) (fun h1 => ?_)
    ·
      refine c_seq (fun K8 hK8 => ?_)
      refine c_region ?_
      refine r_y rfl rfl (y_move rfl) ?_
      refine r_y rfl rfl (y_assign rfl) ?_
      refine r_nil ?_
      refine hK8 _ _ _ ?_
      clear hK8 K8
      refine c_ret ?_
      refine e_ret 0 hm (res_tmps rfl) ?_
      exact ⟨congrArg _ (idxF_at hinv hy h1).symm, rfl⟩
    ·
      refine c_skip ?_
      refine hK5 _ _ _ ?_
      clear hK5 K5
      refine c_region ?_
      first | refine r_y rfl rfl (y_inc rfl (by omega)) ?_ | refine r_y rfl rfl (y_iop rfl rfl rfl) ?_
      refine r_y rfl rfl (y_move rfl) ?_
      refine r_nil ?_
      exact ⟨k0 - 1, (i + 1), by omega, ⟨rfl, rfl, rfl, rfl, trivial⟩, rfl, ⟨by omega, by rw [any_take_succ hy, hinv]; simpa using h1⟩, hm, hz⟩
  ·
    refine c_exit ?_
    refine hK1 _ _ _ ?_
    clear hK4 K4 hK1 K1
    refine c_seq (fun K9 hK9 => ?_)
    refine c_region ?_
    refine r_y rfl rfl (y_assign rfl) ?_
    refine r_nil ?_
    refine hK9 _ _ _ ?_
    clear hK9 K9
    refine c_ret ?_
    refine e_ret 0 hm (res_tmps rfl) ?_
    refine ⟨congrArg _ (idxF_no ?_).symm, rfl⟩
    have hie : i = s.n := by simp at h0; omega
    rw [List.take_of_length_le (by simp; omega)] at hinv
    exact hinv
set_option maxRecDepth 100000 in
theorem hasRules_w (s : Sl) (l : List (RuleD × Sl)) (f : Nat) (cp : List Value) (p : RuleD → Bool) (m : Snap) (H : Hp) (hz : FzR m s l) (hr : runs Try.prog f) (hf : ∀ m' x, m.le m' → x ∈ l → Fn Try.prog f (.agg (encRule x.1 x.2).toArray :: cp) m' H (fun v _ H' => v = .bool (p x.1) ∧ H' = H)) : Fn Try.prog 133 [s.v, .func (.func f) [].toArray cp.toArray] m H (fun v _ H' => v = .bool ((l.map (·.1)).any p) ∧ H' = H) := by
  have hm : m.le m := Snap.le.refl m
  refine fn_end Try.func133 rfl rfl rfl ?_
  refine c_seq (fun K0 hK0 => ?_)
  refine c_region ?_
  refine r_y rfl rfl (y_assign rfl) ?_
  refine r_nil ?_
  refine hK0 _ _ _ ?_
  clear hK0 K0
  refine c_seq (fun K1 hK1 => ?_)
  refine c_region ?_
  refine r_y rfl rfl (y_move rfl) ?_
  refine r_y rfl rfl (y_move rfl) ?_
  refine r_s rfl ?_
  refine s_call0 rfl Try.call118 rfl (idxRules_w s l f cp p _ _ hz hr hf) ?_
  rintro _ m2 _ hm2 ⟨rfl, rfl⟩
  replace hm := hm.trans hm2
  clear hm2
  refine r_y rfl rfl (y_iop rfl rfl rfl) ?_
  refine r_y rfl rfl (y_assign rfl) ?_
  refine r_nil ?_
  refine hK1 _ _ _ ?_
  clear hK1 K1
  refine c_ret ?_
  refine e_ret 0 hm (res_tmps rfl) ?_
  exact ⟨congrArg _ (idxF_nonneg p (l.map (·.1))), rfl⟩
end Go.Aw
namespace Go.Aw
open Go
def Head.merge (h g : Head) (i : Nat) : Head := fun k => if k.val < i then h k ||| g k else h k
theorem at_lt {h : Head} {i : Nat} (hi : i < 12) : h.at i = h ⟨i, hi⟩ := by
  unfold Head.at
  congr 1
  exact Fin.ext (by simp [Fin.ofNat, Nat.mod_eq_of_lt hi])
theorem merge_at {h g : Head} {i : Nat} (hi : i < 12) : (h.merge g i).at i = h.at i := by
  rw [at_lt hi, at_lt hi]
  unfold Head.merge
  rw [if_neg (by simp)]
theorem merge_set {h g : Head} {i : Nat} (hi : i < 12) : (h.merge g i).set i (h.at i ||| g.at i) = h.merge g (i + 1) := by
  funext k
  unfold Head.set Head.merge
  by_cases e : k = Fin.ofNat 12 i
  · subst e
    have hv : (Fin.ofNat 12 i).val = i := by simp [Fin.ofNat, Nat.mod_eq_of_lt hi]
    rw [if_pos rfl, if_pos (by omega)]
    rfl
  · have hne : k.val ≠ i := fun h => e (Fin.ext (by simp [Fin.ofNat, Nat.mod_eq_of_lt hi, h]))
    rw [if_neg e]
    by_cases hlt : k.val < i
    · rw [if_pos hlt, if_pos (by omega)]
    · rw [if_neg hlt, if_neg (by omega)]
theorem merge_zero (h g : Head) : h.merge g 0 = h := by funext k; unfold Head.merge; rw [if_neg (by omega)]
def cubeMerge (a b : Cube) (i : Nat) : Cube := ⟨a.value.merge b.value i, a.care.merge b.care i⟩
def cubeClash (a b : Cube) (i : Nat) : Bool := ((a.value.at i ^^^ b.value.at i) &&& a.care.at i &&& b.care.at i) == 0
def cubeMeetOk (a b : Cube) : Bool := (cubeSound a && cubeSound b) && (List.range 12).all (cubeClash a b)
def cubeMeet (a b : Cube) : Cube := cubeMerge a b 12
def cubeWithin (a b : Cube) : Bool := cubeMeetOk a b && decide (cubeMeet a b = a)
def ruleOverlap (a b : RuleD) : Bool := cubeMeetOk a.m b.m && (a.prio == b.prio)
theorem cput_care (c : Cube) (k : Nat) (x : W) (hk : k < 12) : cput (encCube c) (12 + k * 1) [wv x] = some (encCube { c with care := c.care.set k x }) := by
  match k, hk with
  | 0, _ | 1, _ | 2, _ | 3, _ | 4, _ | 5, _ | 6, _ | 7, _ | 8, _ | 9, _ | 10, _ | 11, _ => rfl
theorem cput_value (c : Cube) (k : Nat) (x : W) (hk : k < 12) : cput (encCube c) (0 + k * 1) [wv x] = some (encCube { c with value := c.value.set k x }) := by
  match k, hk with
  | 0, _ | 1, _ | 2, _ | 3, _ | 4, _ | 5, _ | 6, _ | 7, _ | 8, _ | 9, _ | 10, _ | 11, _ => rfl
def modRule (x : ModD) : RuleD := ⟨x.m, x.prio, x.acts, x.idle, x.hard, x.owner, 0, 0, 0⟩
def modTouches (x : ModD) (r : RuleD) : Bool :=
  if x.kind = 2 ∨ x.kind = 3 then (r.owner == x.owner) && cubeWithin r.m x.m
  else if x.kind = 4 ∨ x.kind = 5 then (r.owner == x.owner) && ruleKey r (modRule x)
  else false
theorem meet_no {a b : Cube} (h : (!(cubeSound a && cubeSound b)) = true) : cubeMeetOk a b = false := by
  unfold cubeMeetOk
  have : (cubeSound a && cubeSound b) = false := by cases hx : (cubeSound a && cubeSound b) with
    | false => rfl
    | true => rw [hx] at h; cases h
  rw [this]; rfl
theorem clash_at {a b : Cube} {i : Nat} (hi : i < 12) : ((cubeMerge a b i).value.at i ^^^ b.value.at i) &&& (cubeMerge a b i).care.at i &&& b.care.at i = (a.value.at i ^^^ b.value.at i) &&& a.care.at i &&& b.care.at i := by
  show ((a.value.merge b.value i).at i ^^^ b.value.at i) &&& (a.care.merge b.care i).at i &&& b.care.at i = _
  rw [merge_at hi, merge_at hi]
theorem meet_clash {a b : Cube} {i : Nat} (hi : i < 12) (h : ¬ (((cubeMerge a b i).value.at i ^^^ b.value.at i) &&& (cubeMerge a b i).care.at i &&& b.care.at i = 0)) : cubeMeetOk a b = false := by
  rw [clash_at hi] at h
  unfold cubeMeetOk
  rw [all_range_false (f := cubeClash a b) (i := i) (by simpa [cubeClash] using h) hi]
  simp
theorem meet_step {a b : Cube} {i : Nat} (hi : i < 12) (h0 : (List.range i).all (cubeClash a b) = true) (h : ((cubeMerge a b i).value.at i ^^^ b.value.at i) &&& (cubeMerge a b i).care.at i &&& b.care.at i = 0) : (List.range (i + 1)).all (cubeClash a b) = true := by
  rw [clash_at hi] at h
  rw [all_range_succ, h0]
  simpa [cubeClash] using h
end Go.Aw
namespace Go.Aw
open Go Go.Proofs
theorem bp29_ : bplaces Try.prog 29 [] = some [] := by kernel_rfl
theorem bp50_0_1_2_3_4_5 : bplaces Try.prog 50 [0, 1, 2, 3, 4, 5] = some [(0, 24), (24, 1), (25, 1), (26, 1), (27, 1), (28, 1)] := by kernel_rfl
set_option maxRecDepth 100000 in
theorem both_w (a b : Cube) (m : Snap) (H : Hp) : Fn Try.prog 159 [.agg (encCube a).toArray, .agg (encCube b).toArray] m H (fun v _ H' => v = .bool (cubeSound a && cubeSound b) ∧ H' = H) := by
  have hm : m.le m := Snap.le.refl m
  refine fn_end Try.func159 rfl rfl rfl ?_
  refine c_seq (fun K0 hK0 => ?_)
  refine c_region ?_
  refine r_s rfl ?_
  refine s_box_a rfl rfl (fun b0 => ?_)
  refine r_s rfl ?_
  refine s_box_a rfl rfl (fun b1 => ?_)
  refine r_y rfl rfl (y_assign rfl) ?_
  refine r_nil ?_
  refine hK0 _ _ _ ?_
  clear hK0 K0
  refine c_seq (fun K1 hK1 => ?_)
  refine c_region ?_
  refine r_y rfl rfl (y_load_a (cs := encCube a) rfl ts29 (RdA.blk (i := 1) rfl rfl)) ?_
  refine r_s rfl ?_
  refine s_call0 rfl Try.call90 rfl (cubeSound_ok a _ _) ?_
  rintro _ m2 _ hm2 ⟨rfl, rfl⟩
  replace hm := hm.trans hm2
  clear hm2
  refine r_y rfl rfl (y_move rfl) ?_
  refine r_split (j := 2) rfl (fun h0 => ?_) (fun h0 => ?_)
  ·
    refine r_yg rfl h0 rfl (y_load_a (cs := encCube b) rfl ts29 (RdA.blk (i := 0) rfl rfl)) ?_
    refine r_sg rfl h0 ?_
    refine s_call0 rfl Try.call90 rfl (cubeSound_ok b _ _) ?_
    rintro _ m2 _ hm2 ⟨rfl, rfl⟩
    replace hm := hm.trans hm2
    clear hm2
    refine r_y rfl rfl (y_pickt rfl h0 rfl) ?_
    refine r_y rfl rfl (y_assign rfl) ?_
    refine r_nil ?_
    refine hK1 _ _ _ ?_
    clear hK1 K1
    refine c_ret ?_
    refine e_ret 2 hm (res_tmps rfl) ?_
    refine ⟨congrArg Value.bool ?_, rfl⟩
    first | (simp_all; done) | rfl
  ·
    refine r_no' rfl rfl h0 ?_
    refine r_no' rfl rfl h0 ?_
    refine r_y rfl rfl (y_pickf rfl h0 rfl) ?_
    refine r_y rfl rfl (y_assign rfl) ?_
    refine r_nil ?_
    refine hK1 _ _ _ ?_
    clear hK1 K1
    refine c_ret ?_
    refine e_ret 2 hm (res_tmps rfl) ?_
    refine ⟨congrArg Value.bool ?_, rfl⟩
    first | (simp_all; done) | rfl
set_option maxRecDepth 100000 in
theorem meet_w (a b : Cube) (m : Snap) (H : Hp) : Fn Try.prog 145 [.agg (encCube a).toArray, .agg (encCube b).toArray] m H (fun v _ H' => v = .tuple [.agg (encCube (if cubeMeetOk a b then cubeMeet a b else zCube)).toArray, .bool (cubeMeetOk a b)].toArray ∧ H' = H) := by
  have hm : m.le m := Snap.le.refl m
  refine fn_end Try.func145 rfl rfl rfl ?_
  refine c_seq (fun K0 hK0 => ?_)
  refine c_region ?_
  refine r_s rfl ?_
  refine s_box_a rfl rfl (fun b0 => ?_)
  refine r_s rfl ?_
  refine s_box_a rfl rfl (fun b1 => ?_)
  refine r_s rfl ?_
  refine s_alloc rfl tz29 (fun b2 => ?_)
  refine r_y rfl rfl (y_assign rfl) ?_
  refine r_nil ?_
  refine hK0 _ _ _ ?_
  clear hK0 K0
  refine c_seq (fun K1 hK1 => ?_)
  refine c_seq (fun K2 hK2 => ?_)
  refine c_region ?_
  refine r_y rfl rfl (y_load_a (cs := encCube a) rfl ts29 (RdA.blk (i := 2) rfl rfl)) ?_
  refine r_y rfl rfl (y_load_a (cs := encCube b) rfl ts29 (RdA.blk (i := 1) rfl rfl)) ?_
  refine r_s rfl ?_
  refine s_call0 rfl Try.call159 rfl (both_w a b _ _) ?_
  rintro _ m2 _ hm2 ⟨rfl, rfl⟩
  replace hm := hm.trans hm2
  clear hm2
  refine r_y rfl rfl (y_not rfl) ?_
  refine r_nil ?_
  refine hK2 _ _ _ ?_
  clear hK2 K2
  refine c_cond rfl (fun h0 => ?_) (fun h0 => ?_)
  ·
    refine c_seq (fun K3 hK3 => ?_)
    refine c_region ?_
    refine r_y rfl rfl (y_bld rfl tz29 fk29 bp29_ rfl rfl) ?_
    refine r_s rfl ?_
    refine s_store rfl rfl rfl ts29 rfl rfl (by simp [Value.oneCell', wv, Sl.v]) (i := 0) rfl rfl ?_
    refine r_y rfl rfl (y_assign rfl) ?_
    refine r_nil ?_
    refine hK3 _ _ _ ?_
    clear hK3 K3
    refine c_ret ?_
    refine e_ret 3 hm (res2 (r1_cell_a rfl ts29 (RdA.blk (i := 0) rfl rfl)) (r1_tmp rfl)) ?_
    rw [meet_no h0]
    exact ⟨rfl, rfl⟩
  ·
    refine c_skip ?_
    refine hK1 _ _ _ ?_
    clear hK1 K1
    refine c_seq (fun K4 hK4 => ?_)
    refine c_seq (fun K5 hK5 => ?_)
    refine c_region ?_
    refine r_y rfl rfl (y_move rfl) ?_
    refine r_nil ?_
    refine hK5 _ _ _ ?_
    clear hK5 K5
    refine c_block ?_
    refine c_loopx (α := Nat) (fun i => [(2, .pointer (some ⟨b0, 0, none⟩)), (3, .pointer (some ⟨b1, 0, none⟩)), (4, .pointer (some ⟨b2, 0, none⟩)), (12, .int .i64 (i : Nat))]) (fun i => .blk b2 (.cells (encCube zCube).toArray 29) :: .blk b1 (.cells (encCube b).toArray 29) :: .blk b0 (.cells (encCube (cubeMerge a b i)).toArray 29) :: H) (fun k0 i m1 => (i + k0 = 12 ∧ (List.range i).all (cubeClash a b) = true) ∧ m.le m1) (12) 0 ⟨rfl, rfl, rfl, rfl, trivial⟩ (by simp only [cubeMerge, merge_zero] <;> rfl) ⟨⟨by omega, rfl⟩, hm⟩ ?_
    clear hm
    rintro k0 i m1 ⟨hi0, hm⟩
    obtain ⟨hi, hinv⟩ := hi0
    refine c_seq (fun K6 hK6 => ?_)
    refine c_region ?_
    refine r_y rfl rfl (y_iop rfl rfl rfl) ?_
    refine r_nil ?_
    refine hK6 _ _ _ ?_
    clear hK6 K6
    refine c_seq (fun K7 hK7 => ?_)
    refine c_cond rfl (fun h1 => ?_) (fun h1 => ?_)
    ·
      have hlt : i < 12 := by simp at h1; omega
      refine c_skip ?_
      refine hK7 _ _ _ ?_
      clear hK7 K7
      refine c_seq (fun K8 hK8 => ?_)
      refine c_block ?_
      refine c_seq (fun K9 hK9 => ?_)
      refine c_region ?_
      refine r_y rfl rfl (y_move rfl) ?_
      refine r_y rfl rfl (y_assign rfl) ?_
      refine r_nil ?_
      refine hK9 _ _ _ ?_
      clear hK9 K9
      refine c_seq (fun K10 hK10 => ?_)
      refine c_seq (fun K11 hK11 => ?_)
      refine c_draw ([.blk b0 (.cells (encCube (cubeMerge a b i)).toArray 29), .blk b1 (.cells (encCube b).toArray 29)]) (by kernel_rfl) (fun hg => ?_)
      refine g_y (i := 0) (listed' := #[true, false, false, false, false, false, false, false, false, false, false, false, false, false, false, false, false, false, false, false]) rfl (by kernel_rfl) (by kernel_rfl) (by kernel_rfl) (by kernel_rfl) rfl rfl hg (allc (List.Mem.tail _ (List.Mem.tail _ (List.Mem.head _))) (allc (List.Mem.tail _ (List.Mem.head _)) alln)) (fun m' H' hm' hX' => y_move rfl) ?_
      refine g_y (i := 1) (listed' := #[true, true, false, false, false, false, false, false, false, false, false, false, false, false, false, false, false, false, false, false]) rfl (by kernel_rfl) (by kernel_rfl) (by kernel_rfl) (by kernel_rfl) rfl rfl hg (allc (List.Mem.tail _ (List.Mem.tail _ (List.Mem.head _))) (allc (List.Mem.tail _ (List.Mem.head _)) alln)) (fun m' H' hm' hX' => y_fieldAddr rfl At.lit fo29_0 rfl) ?_
      refine g_y (i := 2) (listed' := #[true, true, true, false, false, false, false, false, false, false, false, false, false, false, false, false, false, false, false, false]) rfl (by kernel_rfl) (by kernel_rfl) (by kernel_rfl) (by kernel_rfl) rfl rfl hg (allc (List.Mem.tail _ (List.Mem.tail _ (List.Mem.head _))) (allc (List.Mem.tail _ (List.Mem.head _)) alln)) (fun m' H' hm' hX' => y_indexAddr_arr rfl rfl ta27 hlt At.lit) ?_
      refine g_y (i := 3) (listed' := #[true, true, true, true, false, false, false, false, false, false, false, false, false, false, false, false, false, false, false, false]) rfl (by kernel_rfl) (by kernel_rfl) (by kernel_rfl) (by kernel_rfl) rfl rfl hg (allc (List.Mem.tail _ (List.Mem.tail _ (List.Mem.head _))) (allc (List.Mem.tail _ (List.Mem.head _)) alln)) (fun m' H' hm' hX' => y_load_s rfl ts25 (RdS.mem (hX' _ (List.Mem.head _)) (cget_value _ _ hlt))) ?_
      refine g_y (i := 4) (listed' := #[true, true, true, true, true, false, false, false, false, false, false, false, false, false, false, false, false, false, false, false]) rfl (by kernel_rfl) (by kernel_rfl) (by kernel_rfl) (by kernel_rfl) rfl rfl hg (allc (List.Mem.tail _ (List.Mem.tail _ (List.Mem.head _))) (allc (List.Mem.tail _ (List.Mem.head _)) alln)) (fun m' H' hm' hX' => y_move rfl) ?_
      refine g_y (i := 5) (listed' := #[true, true, true, true, true, true, false, false, false, false, false, false, false, false, false, false, false, false, false, false]) rfl (by kernel_rfl) (by kernel_rfl) (by kernel_rfl) (by kernel_rfl) rfl rfl hg (allc (List.Mem.tail _ (List.Mem.tail _ (List.Mem.head _))) (allc (List.Mem.tail _ (List.Mem.head _)) alln)) (fun m' H' hm' hX' => y_fieldAddr rfl At.lit fo29_0 rfl) ?_
      refine g_y (i := 6) (listed' := #[true, true, true, true, true, true, true, false, false, false, false, false, false, false, false, false, false, false, false, false]) rfl (by kernel_rfl) (by kernel_rfl) (by kernel_rfl) (by kernel_rfl) rfl rfl hg (allc (List.Mem.tail _ (List.Mem.tail _ (List.Mem.head _))) (allc (List.Mem.tail _ (List.Mem.head _)) alln)) (fun m' H' hm' hX' => y_indexAddr_arr rfl rfl ta27 hlt At.lit) ?_
      refine g_y (i := 7) (listed' := #[true, true, true, true, true, true, true, true, false, false, false, false, false, false, false, false, false, false, false, false]) rfl (by kernel_rfl) (by kernel_rfl) (by kernel_rfl) (by kernel_rfl) rfl rfl hg (allc (List.Mem.tail _ (List.Mem.tail _ (List.Mem.head _))) (allc (List.Mem.tail _ (List.Mem.head _)) alln)) (fun m' H' hm' hX' => y_load_s rfl ts25 (RdS.mem (hX' _ (List.Mem.tail _ (List.Mem.head _))) (cget_value _ _ hlt))) ?_
      refine g_y (i := 8) (listed' := #[true, true, true, true, true, true, true, true, true, false, false, false, false, false, false, false, false, false, false, false]) rfl (by kernel_rfl) (by kernel_rfl) (by kernel_rfl) (by kernel_rfl) rfl rfl hg (allc (List.Mem.tail _ (List.Mem.tail _ (List.Mem.head _))) (allc (List.Mem.tail _ (List.Mem.head _)) alln)) (fun m' H' hm' hX' => y_wop rfl rfl rfl) ?_
      refine g_y (i := 9) (listed' := #[true, true, true, true, true, true, true, true, true, true, false, false, false, false, false, false, false, false, false, false]) rfl (by kernel_rfl) (by kernel_rfl) (by kernel_rfl) (by kernel_rfl) rfl rfl hg (allc (List.Mem.tail _ (List.Mem.tail _ (List.Mem.head _))) (allc (List.Mem.tail _ (List.Mem.head _)) alln)) (fun m' H' hm' hX' => y_move rfl) ?_
      refine g_y (i := 10) (listed' := #[true, true, true, true, true, true, true, true, true, true, true, false, false, false, false, false, false, false, false, false]) rfl (by kernel_rfl) (by kernel_rfl) (by kernel_rfl) (by kernel_rfl) rfl rfl hg (allc (List.Mem.tail _ (List.Mem.tail _ (List.Mem.head _))) (allc (List.Mem.tail _ (List.Mem.head _)) alln)) (fun m' H' hm' hX' => y_fieldAddr rfl At.lit fo29_1 rfl) ?_
      refine g_y (i := 11) (listed' := #[true, true, true, true, true, true, true, true, true, true, true, true, false, false, false, false, false, false, false, false]) rfl (by kernel_rfl) (by kernel_rfl) (by kernel_rfl) (by kernel_rfl) rfl rfl hg (allc (List.Mem.tail _ (List.Mem.tail _ (List.Mem.head _))) (allc (List.Mem.tail _ (List.Mem.head _)) alln)) (fun m' H' hm' hX' => y_indexAddr_arr rfl rfl ta27 hlt At.lit) ?_
      refine g_y (i := 12) (listed' := #[true, true, true, true, true, true, true, true, true, true, true, true, true, false, false, false, false, false, false, false]) rfl (by kernel_rfl) (by kernel_rfl) (by kernel_rfl) (by kernel_rfl) rfl rfl hg (allc (List.Mem.tail _ (List.Mem.tail _ (List.Mem.head _))) (allc (List.Mem.tail _ (List.Mem.head _)) alln)) (fun m' H' hm' hX' => y_load_s rfl ts25 (RdS.mem (hX' _ (List.Mem.head _)) (cget_care _ _ hlt))) ?_
      refine g_y (i := 13) (listed' := #[true, true, true, true, true, true, true, true, true, true, true, true, true, true, false, false, false, false, false, false]) rfl (by kernel_rfl) (by kernel_rfl) (by kernel_rfl) (by kernel_rfl) rfl rfl hg (allc (List.Mem.tail _ (List.Mem.tail _ (List.Mem.head _))) (allc (List.Mem.tail _ (List.Mem.head _)) alln)) (fun m' H' hm' hX' => y_wop rfl rfl rfl) ?_
      refine g_y (i := 14) (listed' := #[true, true, true, true, true, true, true, true, true, true, true, true, true, true, true, false, false, false, false, false]) rfl (by kernel_rfl) (by kernel_rfl) (by kernel_rfl) (by kernel_rfl) rfl rfl hg (allc (List.Mem.tail _ (List.Mem.tail _ (List.Mem.head _))) (allc (List.Mem.tail _ (List.Mem.head _)) alln)) (fun m' H' hm' hX' => y_move rfl) ?_
      refine g_y (i := 15) (listed' := #[true, true, true, true, true, true, true, true, true, true, true, true, true, true, true, true, false, false, false, false]) rfl (by kernel_rfl) (by kernel_rfl) (by kernel_rfl) (by kernel_rfl) rfl rfl hg (allc (List.Mem.tail _ (List.Mem.tail _ (List.Mem.head _))) (allc (List.Mem.tail _ (List.Mem.head _)) alln)) (fun m' H' hm' hX' => y_fieldAddr rfl At.lit fo29_1 rfl) ?_
      refine g_y (i := 16) (listed' := #[true, true, true, true, true, true, true, true, true, true, true, true, true, true, true, true, true, false, false, false]) rfl (by kernel_rfl) (by kernel_rfl) (by kernel_rfl) (by kernel_rfl) rfl rfl hg (allc (List.Mem.tail _ (List.Mem.tail _ (List.Mem.head _))) (allc (List.Mem.tail _ (List.Mem.head _)) alln)) (fun m' H' hm' hX' => y_indexAddr_arr rfl rfl ta27 hlt At.lit) ?_
      refine g_y (i := 17) (listed' := #[true, true, true, true, true, true, true, true, true, true, true, true, true, true, true, true, true, true, false, false]) rfl (by kernel_rfl) (by kernel_rfl) (by kernel_rfl) (by kernel_rfl) rfl rfl hg (allc (List.Mem.tail _ (List.Mem.tail _ (List.Mem.head _))) (allc (List.Mem.tail _ (List.Mem.head _)) alln)) (fun m' H' hm' hX' => y_load_s rfl ts25 (RdS.mem (hX' _ (List.Mem.tail _ (List.Mem.head _))) (cget_care _ _ hlt))) ?_
      refine g_y (i := 18) (listed' := #[true, true, true, true, true, true, true, true, true, true, true, true, true, true, true, true, true, true, true, false]) rfl (by kernel_rfl) (by kernel_rfl) (by kernel_rfl) (by kernel_rfl) rfl rfl hg (allc (List.Mem.tail _ (List.Mem.tail _ (List.Mem.head _))) (allc (List.Mem.tail _ (List.Mem.head _)) alln)) (fun m' H' hm' hX' => y_wop rfl rfl rfl) ?_
      refine g_y (i := 19) (listed' := #[true, true, true, true, true, true, true, true, true, true, true, true, true, true, true, true, true, true, true, true]) rfl (by kernel_rfl) (by kernel_rfl) (by kernel_rfl) (by kernel_rfl) rfl rfl hg (allc (List.Mem.tail _ (List.Mem.tail _ (List.Mem.head _))) (allc (List.Mem.tail _ (List.Mem.head _)) alln)) (fun m' H' hm' hX' => y_wop rfl (opv_wc 0#64) rfl) ?_
      refine g_done (by kernel_rfl) ?_
      clear hg
      refine hK11 _ _ _ ?_
      clear hK11 K11
      refine c_cond rfl (fun h2 => ?_) (fun h2 => ?_)
      ·
        refine c_seq (fun K12 hK12 => ?_)
        refine c_region ?_
        refine r_y rfl rfl (y_bld rfl tz29 fk29 bp29_ rfl rfl) ?_
        refine r_s rfl ?_
        refine s_store rfl rfl rfl ts29 rfl rfl (by simp [Value.oneCell', wv, Sl.v]) (i := 0) rfl rfl ?_
        refine r_y rfl rfl (y_assign rfl) ?_
        refine r_nil ?_
        refine hK12 _ _ _ ?_
        clear hK12 K12
        refine c_ret ?_
        refine e_ret 3 hm (res2 (r1_cell_a rfl ts29 (RdA.blk (i := 0) rfl rfl)) (r1_tmp rfl)) ?_
        rw [meet_clash hlt (by simpa using h2)]
        exact ⟨rfl, rfl⟩
      ·
        refine c_skip ?_
        refine hK10 _ _ _ ?_
        clear hK10 K10
        refine c_seq (fun K13 hK13 => ?_)
        refine c_draw ([.blk b1 (.cells (encCube b).toArray 29)]) (by kernel_rfl) (fun hg => ?_)
        refine g_y (i := 0) (listed' := #[true, false, false, false, false, false, false, false, false, false, false, false]) rfl (by kernel_rfl) (by kernel_rfl) (by kernel_rfl) (by kernel_rfl) rfl rfl hg (allc (List.Mem.tail _ (List.Mem.head _)) alln) (fun m' H' hm' hX' => y_move rfl) ?_
        refine g_y (i := 1) (listed' := #[true, true, false, false, false, false, false, false, false, false, false, false]) rfl (by kernel_rfl) (by kernel_rfl) (by kernel_rfl) (by kernel_rfl) rfl rfl hg (allc (List.Mem.tail _ (List.Mem.head _)) alln) (fun m' H' hm' hX' => y_fieldAddr rfl At.lit fo29_1 rfl) ?_
        refine g_y (i := 2) (listed' := #[true, true, true, false, false, false, false, false, false, false, false, false]) rfl (by kernel_rfl) (by kernel_rfl) (by kernel_rfl) (by kernel_rfl) rfl rfl hg (allc (List.Mem.tail _ (List.Mem.head _)) alln) (fun m' H' hm' hX' => y_indexAddr_arr rfl rfl ta27 hlt At.lit) ?_
        refine g_y (i := 4) (listed' := #[true, true, true, false, true, false, false, false, false, false, false, false]) rfl (by kernel_rfl) (by kernel_rfl) (by kernel_rfl) (by kernel_rfl) rfl rfl hg (allc (List.Mem.tail _ (List.Mem.head _)) alln) (fun m' H' hm' hX' => y_move rfl) ?_
        refine g_y (i := 5) (listed' := #[true, true, true, false, true, true, false, false, false, false, false, false]) rfl (by kernel_rfl) (by kernel_rfl) (by kernel_rfl) (by kernel_rfl) rfl rfl hg (allc (List.Mem.tail _ (List.Mem.head _)) alln) (fun m' H' hm' hX' => y_fieldAddr rfl At.lit fo29_1 rfl) ?_
        refine g_y (i := 6) (listed' := #[true, true, true, false, true, true, true, false, false, false, false, false]) rfl (by kernel_rfl) (by kernel_rfl) (by kernel_rfl) (by kernel_rfl) rfl rfl hg (allc (List.Mem.tail _ (List.Mem.head _)) alln) (fun m' H' hm' hX' => y_indexAddr_arr rfl rfl ta27 hlt At.lit) ?_
        refine g_y (i := 7) (listed' := #[true, true, true, false, true, true, true, true, false, false, false, false]) rfl (by kernel_rfl) (by kernel_rfl) (by kernel_rfl) (by kernel_rfl) rfl rfl hg (allc (List.Mem.tail _ (List.Mem.head _)) alln) (fun m' H' hm' hX' => y_load_s rfl ts25 (RdS.mem (hX' _ (List.Mem.head _)) (cget_care _ _ hlt))) ?_
        refine g_y (i := 9) (listed' := #[true, true, true, false, true, true, true, true, false, true, false, false]) rfl (by kernel_rfl) (by kernel_rfl) (by kernel_rfl) (by kernel_rfl) rfl rfl hg (allc (List.Mem.tail _ (List.Mem.head _)) alln) (fun m' H' hm' hX' => y_fieldAddr rfl At.lit fo29_1 rfl) ?_
        refine g_s (i := 3) (listed' := #[true, true, true, true, true, true, true, true, false, true, false, false]) rfl (by kernel_rfl) (by kernel_rfl) rfl ?_
        refine s_y rfl (y_load_s rfl ts25 (RdS.blk (i := 2) rfl (cget_care _ _ hlt))) ?_
        refine ⟨⟨hg, (allc (List.Mem.tail _ (List.Mem.head _)) alln)⟩, ?_⟩
        refine g_y (i := 8) (listed' := #[true, true, true, true, true, true, true, true, true, true, false, false]) rfl (by kernel_rfl) (by kernel_rfl) (by kernel_rfl) (by kernel_rfl) rfl rfl hg (allc (List.Mem.tail _ (List.Mem.head _)) alln) (fun m' H' hm' hX' => y_wop rfl rfl rfl) ?_
        refine g_y (i := 10) (listed' := #[true, true, true, true, true, true, true, true, true, true, true, false]) rfl (by kernel_rfl) (by kernel_rfl) (by kernel_rfl) (by kernel_rfl) rfl rfl hg (allc (List.Mem.tail _ (List.Mem.head _)) alln) (fun m' H' hm' hX' => y_indexAddr_arr rfl rfl ta27 hlt At.lit) ?_
        refine g_s (i := 11) (listed' := #[true, true, true, true, true, true, true, true, true, true, true, true]) rfl (by kernel_rfl) (by kernel_rfl) rfl ?_
        refine s_store rfl rfl rfl ts25 rfl rfl (by simp [Value.oneCell', wv]) (i := 2) rfl (cput_care _ _ _ hlt) ?_
        refine ⟨⟨hg, (allc (List.Mem.tail _ (List.Mem.head _)) alln)⟩, ?_⟩
        refine g_done (by kernel_rfl) ?_
        clear hg
        refine hK13 _ _ _ ?_
        clear hK13 K13
        refine c_draw ([.blk b1 (.cells (encCube b).toArray 29)]) (by kernel_rfl) (fun hg => ?_)
        refine g_y (i := 0) (listed' := #[true, false, false, false, false, false, false, false, false, false, false, false]) rfl (by kernel_rfl) (by kernel_rfl) (by kernel_rfl) (by kernel_rfl) rfl rfl hg (allc (List.Mem.tail _ (List.Mem.head _)) alln) (fun m' H' hm' hX' => y_move rfl) ?_
        refine g_y (i := 1) (listed' := #[true, true, false, false, false, false, false, false, false, false, false, false]) rfl (by kernel_rfl) (by kernel_rfl) (by kernel_rfl) (by kernel_rfl) rfl rfl hg (allc (List.Mem.tail _ (List.Mem.head _)) alln) (fun m' H' hm' hX' => y_fieldAddr rfl At.lit fo29_0 rfl) ?_
        refine g_y (i := 2) (listed' := #[true, true, true, false, false, false, false, false, false, false, false, false]) rfl (by kernel_rfl) (by kernel_rfl) (by kernel_rfl) (by kernel_rfl) rfl rfl hg (allc (List.Mem.tail _ (List.Mem.head _)) alln) (fun m' H' hm' hX' => y_indexAddr_arr rfl rfl ta27 hlt At.lit) ?_
        refine g_y (i := 4) (listed' := #[true, true, true, false, true, false, false, false, false, false, false, false]) rfl (by kernel_rfl) (by kernel_rfl) (by kernel_rfl) (by kernel_rfl) rfl rfl hg (allc (List.Mem.tail _ (List.Mem.head _)) alln) (fun m' H' hm' hX' => y_move rfl) ?_
        refine g_y (i := 5) (listed' := #[true, true, true, false, true, true, false, false, false, false, false, false]) rfl (by kernel_rfl) (by kernel_rfl) (by kernel_rfl) (by kernel_rfl) rfl rfl hg (allc (List.Mem.tail _ (List.Mem.head _)) alln) (fun m' H' hm' hX' => y_fieldAddr rfl At.lit fo29_0 rfl) ?_
        refine g_y (i := 6) (listed' := #[true, true, true, false, true, true, true, false, false, false, false, false]) rfl (by kernel_rfl) (by kernel_rfl) (by kernel_rfl) (by kernel_rfl) rfl rfl hg (allc (List.Mem.tail _ (List.Mem.head _)) alln) (fun m' H' hm' hX' => y_indexAddr_arr rfl rfl ta27 hlt At.lit) ?_
        refine g_y (i := 7) (listed' := #[true, true, true, false, true, true, true, true, false, false, false, false]) rfl (by kernel_rfl) (by kernel_rfl) (by kernel_rfl) (by kernel_rfl) rfl rfl hg (allc (List.Mem.tail _ (List.Mem.head _)) alln) (fun m' H' hm' hX' => y_load_s rfl ts25 (RdS.mem (hX' _ (List.Mem.head _)) (cget_value _ _ hlt))) ?_
        refine g_y (i := 9) (listed' := #[true, true, true, false, true, true, true, true, false, true, false, false]) rfl (by kernel_rfl) (by kernel_rfl) (by kernel_rfl) (by kernel_rfl) rfl rfl hg (allc (List.Mem.tail _ (List.Mem.head _)) alln) (fun m' H' hm' hX' => y_fieldAddr rfl At.lit fo29_0 rfl) ?_
        refine g_s (i := 3) (listed' := #[true, true, true, true, true, true, true, true, false, true, false, false]) rfl (by kernel_rfl) (by kernel_rfl) rfl ?_
        refine s_y rfl (y_load_s rfl ts25 (RdS.blk (i := 2) rfl (cget_value _ _ hlt))) ?_
        refine ⟨⟨hg, (allc (List.Mem.tail _ (List.Mem.head _)) alln)⟩, ?_⟩
        refine g_y (i := 8) (listed' := #[true, true, true, true, true, true, true, true, true, true, false, false]) rfl (by kernel_rfl) (by kernel_rfl) (by kernel_rfl) (by kernel_rfl) rfl rfl hg (allc (List.Mem.tail _ (List.Mem.head _)) alln) (fun m' H' hm' hX' => y_wop rfl rfl rfl) ?_
        refine g_y (i := 10) (listed' := #[true, true, true, true, true, true, true, true, true, true, true, false]) rfl (by kernel_rfl) (by kernel_rfl) (by kernel_rfl) (by kernel_rfl) rfl rfl hg (allc (List.Mem.tail _ (List.Mem.head _)) alln) (fun m' H' hm' hX' => y_indexAddr_arr rfl rfl ta27 hlt At.lit) ?_
        refine g_s (i := 11) (listed' := #[true, true, true, true, true, true, true, true, true, true, true, true]) rfl (by kernel_rfl) (by kernel_rfl) rfl ?_
        refine s_store rfl rfl rfl ts25 rfl rfl (by simp [Value.oneCell', wv]) (i := 2) rfl (cput_value _ _ _ hlt) ?_
        refine ⟨⟨hg, (allc (List.Mem.tail _ (List.Mem.head _)) alln)⟩, ?_⟩
        refine g_done (by kernel_rfl) ?_
        clear hg
        refine hK8 _ _ _ ?_
        clear hK8 K8
        refine c_region ?_
        first | refine r_y rfl rfl (y_inc rfl (by omega)) ?_ | refine r_y rfl rfl (y_iop rfl rfl rfl) ?_
        refine r_y rfl rfl (y_move rfl) ?_
        refine r_nil ?_
        exact ⟨k0 - 1, (i + 1), by omega, ⟨rfl, rfl, rfl, rfl, trivial⟩, (by simp only [cubeMerge, ← merge_set hlt, merge_at hlt] <;> rfl), ⟨by omega, meet_step hlt hinv (by simpa using h2)⟩, hm⟩
    ·
      obtain rfl : i = 12 := by simp at h1; omega
      refine c_exit ?_
      refine hK4 _ _ _ ?_
      clear hK7 K7 hK4 K4
      refine c_seq (fun K14 hK14 => ?_)
      refine c_region ?_
      refine r_y rfl rfl (y_load_a rfl ts29 (RdA.blk (i := 2) rfl rfl)) ?_
      refine r_s rfl ?_
      refine s_store rfl rfl rfl ts29 rfl rfl (by simp [Value.oneCell', wv, Sl.v]) (i := 0) rfl rfl ?_
      refine r_y rfl rfl (y_assign rfl) ?_
      refine r_nil ?_
      refine hK14 _ _ _ ?_
      clear hK14 K14
      refine c_ret ?_
      refine e_ret 3 hm (res2 (r1_cell_a rfl ts29 (RdA.blk (i := 0) rfl rfl)) (r1_tmp rfl)) ?_
      have e : cubeMeetOk a b = true := by unfold cubeMeetOk; rw [hinv]; simpa using h0
      rw [e]
      exact ⟨rfl, rfl⟩
set_option maxRecDepth 100000 in
theorem within_w (a b : Cube) (m : Snap) (H : Hp) : Fn Try.prog 134 [.agg (encCube a).toArray, .agg (encCube b).toArray] m H (fun v _ H' => v = .bool (cubeWithin a b) ∧ H' = H) := by
  have hm : m.le m := Snap.le.refl m
  refine fn_end Try.func134 rfl rfl rfl ?_
  refine c_seq (fun K0 hK0 => ?_)
  refine c_region ?_
  refine r_s rfl ?_
  refine s_box_a rfl rfl (fun b0 => ?_)
  refine r_s rfl ?_
  refine s_box_a rfl rfl (fun b1 => ?_)
  refine r_y rfl rfl (y_assign rfl) ?_
  refine r_nil ?_
  refine hK0 _ _ _ ?_
  clear hK0 K0
  refine c_seq (fun K1 hK1 => ?_)
  refine c_region ?_
  refine r_y rfl rfl (y_load_a (cs := encCube a) rfl ts29 (RdA.blk (i := 1) rfl rfl)) ?_
  refine r_y rfl rfl (y_load_a (cs := encCube b) rfl ts29 (RdA.blk (i := 0) rfl rfl)) ?_
  refine r_s rfl ?_
  refine s_call0 rfl Try.call145 rfl (meet_w a b _ _) ?_
  rintro _ m2 _ hm2 ⟨rfl, rfl⟩
  replace hm := hm.trans hm2
  clear hm2
  refine r_y rfl rfl (y_move rfl) ?_
  refine r_y rfl rfl (y_extract rfl rfl) ?_
  refine r_y rfl rfl (y_extract rfl rfl) ?_
  refine r_s rfl ?_
  refine s_alloc rfl tz29 (fun b2 => ?_)
  refine r_s rfl ?_
  refine s_store (us := encCube (if cubeMeetOk a b then cubeMeet a b else zCube)) rfl rfl rfl ts29 rfl rfl (one_cube _) (i := 0) rfl rfl ?_
  refine r_y rfl rfl (y_assign rfl) ?_
  refine r_nil ?_
  refine hK1 _ _ _ ?_
  clear hK1 K1
  refine c_seq (fun K2 hK2 => ?_)
  refine c_region ?_
  refine r_y rfl rfl (y_move rfl) ?_
  refine r_y rfl rfl (y_move rfl) ?_
  refine r_split (j := 1) rfl (fun h0 => ?_) (fun h0 => ?_)
  ·
    refine r_yg rfl h0 rfl (y_load_a (cs := encCube (if cubeMeetOk a b then cubeMeet a b else zCube)) rfl ts29 (RdA.blk (i := 0) rfl rfl)) ?_
    refine r_yg rfl h0 rfl (y_load_a (cs := encCube a) rfl ts29 (RdA.blk (i := 2) rfl rfl)) ?_
    refine r_yg rfl h0 rfl (y_eqagg (dd := 6) (xs := encCube (if cubeMeetOk a b then cubeMeet a b else zCube)) (ys := encCube a) rfl rfl en29 ia29 rfl Try.eqGuardType29 rfl (alike_cube (if cubeMeetOk a b then cubeMeet a b else zCube) a)) ?_
    refine r_y rfl rfl (y_pickt rfl h0 rfl) ?_
    refine r_y rfl rfl (y_assign rfl) ?_
    refine r_nil ?_
    refine hK2 _ _ _ ?_
    clear hK2 K2
    refine c_ret ?_
    refine e_ret 3 hm (res_tmps rfl) ?_
    refine ⟨congrArg Value.bool ?_, rfl⟩
    unfold cubeWithin
    simp_all [ceq_cube]
  ·
    refine r_no' rfl rfl h0 ?_
    refine r_no' rfl rfl h0 ?_
    refine r_no' rfl rfl h0 ?_
    refine r_y rfl rfl (y_pickf rfl h0 rfl) ?_
    refine r_y rfl rfl (y_assign rfl) ?_
    refine r_nil ?_
    refine hK2 _ _ _ ?_
    clear hK2 K2
    refine c_ret ?_
    refine e_ret 3 hm (res_tmps rfl) ?_
    refine ⟨congrArg Value.bool ?_, rfl⟩
    unfold cubeWithin
    simp_all [ceq_cube]
set_option maxRecDepth 100000 in
theorem overlap_w (a b : RuleD) (s1 s2 : Sl) (m : Snap) (H : Hp) : Fn Try.prog 132 [.agg (encRule a s1).toArray, .agg (encRule b s2).toArray] m H (fun v _ H' => v = .bool (ruleOverlap a b) ∧ H' = H) := by
  have hm : m.le m := Snap.le.refl m
  refine fn_end Try.func132 rfl rfl rfl ?_
  refine c_seq (fun K0 hK0 => ?_)
  refine c_region ?_
  refine r_s rfl ?_
  refine s_box_a rfl rfl (fun b0 => ?_)
  refine r_s rfl ?_
  refine s_box_a rfl rfl (fun b1 => ?_)
  refine r_y rfl rfl (y_assign rfl) ?_
  refine r_nil ?_
  refine hK0 _ _ _ ?_
  clear hK0 K0
  refine c_seq (fun K1 hK1 => ?_)
  refine c_region ?_
  refine r_y rfl rfl (y_fieldAddr rfl At.lit fo50_0 rfl) ?_
  refine r_y rfl rfl (y_load_a (cs := encCube a.m) rfl ts29 (RdA.blk (i := 1) rfl rfl)) ?_
  refine r_y rfl rfl (y_fieldAddr rfl At.lit fo50_0 rfl) ?_
  refine r_y rfl rfl (y_load_a (cs := encCube b.m) rfl ts29 (RdA.blk (i := 0) rfl rfl)) ?_
  refine r_s rfl ?_
  refine s_call0 rfl Try.call145 rfl (meet_w a.m b.m _ _) ?_
  rintro _ m2 _ hm2 ⟨rfl, rfl⟩
  replace hm := hm.trans hm2
  clear hm2
  refine r_y rfl rfl (y_move rfl) ?_
  refine r_y rfl rfl (y_extract rfl rfl) ?_
  refine r_y rfl rfl (y_extract rfl rfl) ?_
  refine r_s rfl ?_
  refine s_alloc rfl tz29 (fun b2 => ?_)
  refine r_s rfl ?_
  refine s_store (us := encCube (if cubeMeetOk a.m b.m then cubeMeet a.m b.m else zCube)) rfl rfl rfl ts29 rfl rfl (one_cube _) (i := 0) rfl rfl ?_
  refine r_y rfl rfl (y_assign rfl) ?_
  refine r_nil ?_
  refine hK1 _ _ _ ?_
  clear hK1 K1
  refine c_seq (fun K2 hK2 => ?_)
  refine c_region ?_
  refine r_y rfl rfl (y_move rfl) ?_
  refine r_y rfl rfl (y_move rfl) ?_
  refine r_split (j := 1) rfl (fun h0 => ?_) (fun h0 => ?_)
  ·
    refine r_yg rfl h0 rfl (y_fieldAddr rfl At.lit fo50_1 rfl) ?_
    refine r_yg rfl h0 rfl (y_load_s rfl ts3 (RdS.blk (i := 2) rfl rfl)) ?_
    refine r_yg rfl h0 rfl (y_fieldAddr rfl At.lit fo50_1 rfl) ?_
    refine r_yg rfl h0 rfl (y_load_s rfl ts3 (RdS.blk (i := 1) rfl rfl)) ?_
    refine r_yg rfl h0 rfl (y_iop rfl rfl rfl) ?_
    refine r_y rfl rfl (y_pickt rfl h0 rfl) ?_
    refine r_y rfl rfl (y_assign rfl) ?_
    refine r_nil ?_
    refine hK2 _ _ _ ?_
    clear hK2 K2
    refine c_ret ?_
    refine e_ret 3 hm (res_tmps rfl) ?_
    refine ⟨congrArg Value.bool ?_, rfl⟩
    unfold ruleOverlap
    simp_all
  ·
    refine r_no' rfl rfl h0 ?_
    refine r_no' rfl rfl h0 ?_
    refine r_no' rfl rfl h0 ?_
    refine r_no' rfl rfl h0 ?_
    refine r_no' rfl rfl h0 ?_
    refine r_y rfl rfl (y_pickf rfl h0 rfl) ?_
    refine r_y rfl rfl (y_assign rfl) ?_
    refine r_nil ?_
    refine hK2 _ _ _ ?_
    clear hK2 K2
    refine c_ret ?_
    refine e_ret 3 hm (res_tmps rfl) ?_
    refine ⟨congrArg Value.bool ?_, rfl⟩
    unfold ruleOverlap
    simp_all
theorem cloneA2_w (s : Sl) (l : List ActD) (m : Snap) (H : Hp) (hz : FzA m s l) (hok : s.ok) (hfit : l.length ≤ 4398046511103) : Fn Try.prog 84 [s.v] m H (fun v m' H' => ∃ s' : Sl, v = s'.v ∧ s'.n = l.length ∧ s'.n ≤ s'.cap ∧ H' = .vec s'.a s'.n s'.cap 53 4 (l.map encAct) :: H) :=
  (cloneA_w s l m H hz hok hfit).post fun v m' H' w hm hs ⟨s', h1, h2, h3⟩ => by
    subst h3
    refine ⟨m', _, Snap.le.refl _, hs, s', h1, h2, ?_, rfl⟩
    have hh : Item.holds w (.vec s'.a s'.n s'.cap 53 4 (l.map encAct)) := hs.hold _ List.mem_cons_self
    rcases hh.1.2 with ⟨hv, h0⟩ | ⟨g, cap', cur, hv, _, _, hle, _⟩
    · rw [h0]; exact Nat.zero_le _
    · have := (Value.slice.inj hv).2.2; omega
set_option maxRecDepth 100000 in
theorem modRule_w (x : ModD) (s : Sl) (m : Snap) (H : Hp) (hz : FzA m s x.acts) (hok : s.ok) (hfit : x.acts.length ≤ 4398046511103) : Fn Try.prog 129 [.agg (encMod x s).toArray] m H (fun v m' H' => ∃ o : OwnR, v = .agg o.enc.toArray ∧ o.r = modRule x ∧ o.ok ∧ H' = o.it :: H) := by
  have hm : m.le m := Snap.le.refl m
  refine fn_end Try.func129 rfl rfl rfl ?_
  refine c_seq (fun K0 hK0 => ?_)
  refine c_region ?_
  refine r_s rfl ?_
  refine s_box_a rfl rfl (fun b0 => ?_)
  refine r_s rfl ?_
  refine s_alloc rfl tz50 (fun b1 => ?_)
  refine r_nil ?_
  refine hK0 _ _ _ ?_
  clear hK0 K0
  refine c_seq (fun K1 hK1 => ?_)
  refine c_draw ([.blk b0 (.cells (encMod x s).toArray 32)]) (by kernel_rfl) (fun hg => ?_)
  have hz_g := hz
  refine g_y (i := 0) (listed' := #[true, false, false, false, false, false, false, false, false, false, false, false, false, false, false, false]) rfl (by kernel_rfl) (by kernel_rfl) (by kernel_rfl) (by kernel_rfl) rfl rfl hg (allc (List.Mem.tail _ (List.Mem.head _)) alln) (fun m' H' hm' hX' => y_fieldAddr rfl At.lit fo32_1 rfl) ?_
  refine g_y (i := 1) (listed' := #[true, true, false, false, false, false, false, false, false, false, false, false, false, false, false, false]) rfl (by kernel_rfl) (by kernel_rfl) (by kernel_rfl) (by kernel_rfl) rfl rfl hg (allc (List.Mem.tail _ (List.Mem.head _)) alln) (fun m' H' hm' hX' => y_load_a (cs := encCube x.m) rfl ts29 (RdA.mem (hX' _ (List.Mem.head _)) rfl)) ?_
  refine g_y (i := 2) (listed' := #[true, true, true, false, false, false, false, false, false, false, false, false, false, false, false, false]) rfl (by kernel_rfl) (by kernel_rfl) (by kernel_rfl) (by kernel_rfl) rfl rfl hg (allc (List.Mem.tail _ (List.Mem.head _)) alln) (fun m' H' hm' hX' => y_fieldAddr rfl At.lit fo32_2 rfl) ?_
  refine g_y (i := 3) (listed' := #[true, true, true, true, false, false, false, false, false, false, false, false, false, false, false, false]) rfl (by kernel_rfl) (by kernel_rfl) (by kernel_rfl) (by kernel_rfl) rfl rfl hg (allc (List.Mem.tail _ (List.Mem.head _)) alln) (fun m' H' hm' hX' => y_load_s rfl ts3 (RdS.mem (hX' _ (List.Mem.head _)) rfl)) ?_
  refine g_y (i := 4) (listed' := #[true, true, true, true, true, false, false, false, false, false, false, false, false, false, false, false]) rfl (by kernel_rfl) (by kernel_rfl) (by kernel_rfl) (by kernel_rfl) rfl rfl hg (allc (List.Mem.tail _ (List.Mem.head _)) alln) (fun m' H' hm' hX' => y_fieldAddr rfl At.lit fo32_3 rfl) ?_
  refine g_y (i := 5) (listed' := #[true, true, true, true, true, true, false, false, false, false, false, false, false, false, false, false]) rfl (by kernel_rfl) (by kernel_rfl) (by kernel_rfl) (by kernel_rfl) rfl rfl hg (allc (List.Mem.tail _ (List.Mem.head _)) alln) (fun m' H' hm' hX' => y_load_s rfl ts30 (RdS.mem (hX' _ (List.Mem.head _)) rfl)) ?_
  refine g_y (i := 8) (listed' := #[true, true, true, true, true, true, false, false, true, false, false, false, false, false, false, false]) rfl (by kernel_rfl) (by kernel_rfl) (by kernel_rfl) (by kernel_rfl) rfl rfl hg (allc (List.Mem.tail _ (List.Mem.head _)) alln) (fun m' H' hm' hX' => y_fieldAddr rfl At.lit fo32_4 rfl) ?_
  refine g_y (i := 9) (listed' := #[true, true, true, true, true, true, false, false, true, true, false, false, false, false, false, false]) rfl (by kernel_rfl) (by kernel_rfl) (by kernel_rfl) (by kernel_rfl) rfl rfl hg (allc (List.Mem.tail _ (List.Mem.head _)) alln) (fun m' H' hm' hX' => y_load_s rfl ts3 (RdS.mem (hX' _ (List.Mem.head _)) rfl)) ?_
  refine g_y (i := 10) (listed' := #[true, true, true, true, true, true, false, false, true, true, true, false, false, false, false, false]) rfl (by kernel_rfl) (by kernel_rfl) (by kernel_rfl) (by kernel_rfl) rfl rfl hg (allc (List.Mem.tail _ (List.Mem.head _)) alln) (fun m' H' hm' hX' => y_fieldAddr rfl At.lit fo32_5 rfl) ?_
  refine g_y (i := 11) (listed' := #[true, true, true, true, true, true, false, false, true, true, true, true, false, false, false, false]) rfl (by kernel_rfl) (by kernel_rfl) (by kernel_rfl) (by kernel_rfl) rfl rfl hg (allc (List.Mem.tail _ (List.Mem.head _)) alln) (fun m' H' hm' hX' => y_load_s rfl ts3 (RdS.mem (hX' _ (List.Mem.head _)) rfl)) ?_
  refine g_y (i := 12) (listed' := #[true, true, true, true, true, true, false, false, true, true, true, true, true, false, false, false]) rfl (by kernel_rfl) (by kernel_rfl) (by kernel_rfl) (by kernel_rfl) rfl rfl hg (allc (List.Mem.tail _ (List.Mem.head _)) alln) (fun m' H' hm' hX' => y_fieldAddr rfl At.lit fo32_6 rfl) ?_
  refine g_y (i := 13) (listed' := #[true, true, true, true, true, true, false, false, true, true, true, true, true, true, false, false]) rfl (by kernel_rfl) (by kernel_rfl) (by kernel_rfl) (by kernel_rfl) rfl rfl hg (allc (List.Mem.tail _ (List.Mem.head _)) alln) (fun m' H' hm' hX' => y_load_s rfl ts3 (RdS.mem (hX' _ (List.Mem.head _)) rfl)) ?_
  refine g_s (i := 6) (listed' := #[true, true, true, true, true, true, true, false, true, true, true, true, true, true, false, false]) rfl (by kernel_rfl) (by kernel_rfl) rfl ?_
  refine s_call0 rfl Try.call84 rfl (cloneA2_w s x.acts _ _ hz hok hfit) ?_
  rintro _ m2 _ hm2 ⟨sc, rfl, hsc, hle, rfl⟩
  replace hm := hm.trans hm2
  refine ⟨⟨hg.trans hm2, (allc (List.Mem.tail _ (List.Mem.tail _ (List.Mem.head _))) alln)⟩, ?_⟩
  replace hg := hg.trans hm2
  replace hz := hz.mono hm2
  clear hm2
  refine g_s (i := 7) (listed' := #[true, true, true, true, true, true, true, true, true, true, true, true, true, true, false, false]) rfl (by kernel_rfl) (by kernel_rfl) rfl ?_
  refine s_call0 rfl Try.call83 rfl (clipA_w sc.a sc.n sc.cap _ _ hle) ?_
  rintro _ m2 _ hm2 ⟨rfl, rfl⟩
  replace hm := hm.trans hm2
  refine ⟨⟨hg.trans hm2, (allc (List.Mem.tail _ (List.Mem.tail _ (List.Mem.head _))) alln)⟩, ?_⟩
  replace hg := hg.trans hm2
  replace hz := hz.mono hm2
  clear hm2
  refine g_y (i := 14) (listed' := #[true, true, true, true, true, true, true, true, true, true, true, true, true, true, true, false]) rfl (by kernel_rfl) (by kernel_rfl) (by kernel_rfl) (by kernel_rfl) rfl rfl hg (allc (List.Mem.tail _ (List.Mem.tail _ (List.Mem.head _))) alln) (fun m' H' hm' hX' => y_bld rfl tz50 fk50 bp50_0_1_2_3_4_5 rfl rfl) ?_
  refine g_s (i := 15) (listed' := #[true, true, true, true, true, true, true, true, true, true, true, true, true, true, true, true]) rfl (by kernel_rfl) (by kernel_rfl) rfl ?_
  refine s_store rfl rfl rfl ts50 rfl rfl (by simp [Value.oneCell', wv, Sl.v]) (i := 1) rfl rfl ?_
  refine ⟨⟨hg, (allc (List.Mem.tail _ (List.Mem.tail _ (List.Mem.head _))) alln)⟩, ?_⟩
  refine g_done (by kernel_rfl) ?_
  clear hg hz_g
  refine hK1 _ _ _ ?_
  clear hK1 K1
  refine c_ret ?_
  refine e_retf [0, 1, 2] 2 hm (res_cell_a rfl ts50 (RdA.blk (i := 1) rfl rfl)) ?_
  exact ⟨⟨modRule x, ⟨sc.a, sc.n, sc.n⟩, sc.cap⟩, rfl, rfl, rfl, rfl⟩
set_option maxRecDepth 100000 in
theorem add1_w (r q : RuleD) (s1 s2 : Sl) (b : Nat) (m : Snap) (H : Hp) : Fn Try.prog 130 [.agg (encRule r s1).toArray, .pointer (some ⟨b, 0, none⟩)] m (.blk b (.cells (encRule q s2).toArray 50) :: H) (fun v _ H' => v = .bool (ruleKey r q) ∧ H' = .blk b (.cells (encRule q s2).toArray 50) :: H) := by
  have hm : m.le m := Snap.le.refl m
  refine fn_end Try.func130 rfl rfl rfl ?_
  refine c_seq (fun K0 hK0 => ?_)
  refine c_region ?_
  refine r_s rfl ?_
  refine s_box_a rfl rfl (fun b0 => ?_)
  refine r_y rfl rfl (y_assign rfl) ?_
  refine r_nil ?_
  refine hK0 _ _ _ ?_
  clear hK0 K0
  refine c_seq (fun K1 hK1 => ?_)
  refine c_region ?_
  refine r_y rfl rfl (y_load_a (cs := encRule r s1) rfl ts50 (RdA.blk (i := 0) rfl rfl)) ?_
  refine r_y rfl rfl (y_load_a (cs := encRule q s2) rfl ts50 (RdA.blk (i := 1) rfl rfl)) ?_
  refine r_s rfl ?_
  refine s_call0 rfl Try.call125 rfl (ruleKey_w r q s1 s2 _ _) ?_
  rintro _ m2 _ hm2 ⟨rfl, rfl⟩
  replace hm := hm.trans hm2
  clear hm2
  refine r_y rfl rfl (y_assign rfl) ?_
  refine r_nil ?_
  refine hK1 _ _ _ ?_
  clear hK1 K1
  refine c_ret ?_
  refine e_ret 1 hm (res_tmps rfl) ?_
  exact ⟨rfl, rfl⟩
set_option maxRecDepth 100000 in
theorem add2_w (r q : RuleD) (s1 s2 : Sl) (b : Nat) (m : Snap) (H : Hp) : Fn Try.prog 131 [.agg (encRule r s1).toArray, .pointer (some ⟨b, 0, none⟩)] m (.blk b (.cells (encRule q s2).toArray 50) :: H) (fun v _ H' => v = .bool (!ruleKey r q && ruleOverlap r q) ∧ H' = .blk b (.cells (encRule q s2).toArray 50) :: H) := by
  have hm : m.le m := Snap.le.refl m
  refine fn_end Try.func131 rfl rfl rfl ?_
  refine c_seq (fun K0 hK0 => ?_)
  refine c_region ?_
  refine r_s rfl ?_
  refine s_box_a rfl rfl (fun b0 => ?_)
  refine r_y rfl rfl (y_assign rfl) ?_
  refine r_nil ?_
  refine hK0 _ _ _ ?_
  clear hK0 K0
  refine c_seq (fun K1 hK1 => ?_)
  refine c_region ?_
  refine r_y rfl rfl (y_load_a (cs := encRule r s1) rfl ts50 (RdA.blk (i := 0) rfl rfl)) ?_
  refine r_y rfl rfl (y_load_a (cs := encRule q s2) rfl ts50 (RdA.blk (i := 1) rfl rfl)) ?_
  refine r_s rfl ?_
  refine s_call0 rfl Try.call125 rfl (ruleKey_w r q s1 s2 _ _) ?_
  rintro _ m2 _ hm2 ⟨rfl, rfl⟩
  replace hm := hm.trans hm2
  clear hm2
  refine r_y rfl rfl (y_not rfl) ?_
  refine r_y rfl rfl (y_move rfl) ?_
  refine r_split (j := 4) rfl (fun h0 => ?_) (fun h0 => ?_)
  ·
    refine r_yg rfl h0 rfl (y_load_a (cs := encRule r s1) rfl ts50 (RdA.blk (i := 0) rfl rfl)) ?_
    refine r_yg rfl h0 rfl (y_load_a (cs := encRule q s2) rfl ts50 (RdA.blk (i := 1) rfl rfl)) ?_
    refine r_sg rfl h0 ?_
    refine s_call0 rfl Try.call132 rfl (overlap_w r q s1 s2 _ _) ?_
    rintro _ m2 _ hm2 ⟨rfl, rfl⟩
    replace hm := hm.trans hm2
    clear hm2
    refine r_y rfl rfl (y_pickt rfl h0 rfl) ?_
    refine r_y rfl rfl (y_assign rfl) ?_
    refine r_nil ?_
    refine hK1 _ _ _ ?_
    clear hK1 K1
    refine c_ret ?_
    refine e_ret 1 hm (res_tmps rfl) ?_
    refine ⟨congrArg Value.bool ?_, rfl⟩
    unfold ruleKey at *
    simp_all
  ·
    refine r_no' rfl rfl h0 ?_
    refine r_no' rfl rfl h0 ?_
    refine r_no' rfl rfl h0 ?_
    refine r_y rfl rfl (y_pickf rfl h0 rfl) ?_
    refine r_y rfl rfl (y_assign rfl) ?_
    refine r_nil ?_
    refine hK1 _ _ _ ?_
    clear hK1 K1
    refine c_ret ?_
    refine e_ret 1 hm (res_tmps rfl) ?_
    refine ⟨congrArg Value.bool ?_, rfl⟩
    unfold ruleKey at *
    simp_all
set_option maxRecDepth 100000 in
theorem touches_w (x : ModD) (s : Sl) (r : RuleD) (s2 : Sl) (m : Snap) (H : Hp) (hz : FzA m s x.acts) (hok : s.ok) (hfit : x.acts.length ≤ 4398046511103) : Fn Try.prog 82 [.agg (encMod x s).toArray, .agg (encRule r s2).toArray] m H (fun v _ H' => v = .bool (modTouches x r) ∧ H' = H) := by
  have hm : m.le m := Snap.le.refl m
  refine fn_end Try.func82 rfl rfl rfl ?_
  refine c_seq (fun K0 hK0 => ?_)
  refine c_region ?_
  refine r_s rfl ?_
  refine s_box_a rfl rfl (fun b0 => ?_)
  refine r_s rfl ?_
  refine s_box_a rfl rfl (fun b1 => ?_)
  refine r_y rfl rfl (y_assign rfl) ?_
  refine r_nil ?_
  refine hK0 _ _ _ ?_
  clear hK0 K0
  refine c_seq (fun K1 hK1 => ?_)
  refine c_seq (fun K2 hK2 => ?_)
  refine c_region ?_
  refine r_y rfl rfl (y_fieldAddr rfl At.lit fo32_0 rfl) ?_
  refine r_y rfl rfl (y_load_s rfl ts3 (RdS.blk (i := 1) rfl rfl)) ?_
  refine r_nil ?_
  refine hK2 _ _ _ ?_
  clear hK2 K2
  refine c_block ?_
  refine c_seq (fun K3 hK3 => ?_)
  refine c_seq (fun K4 hK4 => ?_)
  refine c_region ?_
  refine r_y rfl rfl (y_iop rfl rfl rfl) ?_
  refine r_y rfl rfl (y_assign rfl) ?_
  refine r_nil ?_
  refine hK4 _ _ _ ?_
  clear hK4 K4
  refine c_cond rfl (fun h0 => ?_) (fun h0 => ?_)
  ·
    refine c_skip ?_
    refine hK3 _ _ _ ?_
    clear hK3 K3
    refine c_ift rfl h0 ?_
    refine c_seq (fun K5 hK5 => ?_)
    refine c_region ?_
    refine r_y rfl rfl (y_fieldAddr rfl At.lit fo50_5 rfl) ?_
    refine r_y rfl rfl (y_load_s rfl ts3 (RdS.blk (i := 0) rfl rfl)) ?_
    refine r_y rfl rfl (y_fieldAddr rfl At.lit fo32_6 rfl) ?_
    refine r_y rfl rfl (y_load_s rfl ts3 (RdS.blk (i := 1) rfl rfl)) ?_
    refine r_y rfl rfl (y_iop rfl rfl rfl) ?_
    refine r_y rfl rfl (y_move rfl) ?_
    refine r_split (j := 5) rfl (fun h1 => ?_) (fun h1 => ?_)
    ·
      refine r_yg rfl h1 rfl (y_fieldAddr rfl At.lit fo50_0 rfl) ?_
      refine r_yg rfl h1 rfl (y_load_a (cs := encCube r.m) rfl ts29 (RdA.blk (i := 0) rfl rfl)) ?_
      refine r_yg rfl h1 rfl (y_fieldAddr rfl At.lit fo32_1 rfl) ?_
      refine r_yg rfl h1 rfl (y_load_a (cs := encCube x.m) rfl ts29 (RdA.blk (i := 1) rfl rfl)) ?_
      refine r_sg rfl h1 ?_
      refine s_call0 rfl Try.call134 rfl (within_w r.m x.m _ _) ?_
      rintro _ m2 _ hm2 ⟨rfl, rfl⟩
      replace hm := hm.trans hm2
      replace hz := hz.mono hm2
      clear hm2
      refine r_y rfl rfl (y_pickt rfl h1 rfl) ?_
      refine r_y rfl rfl (y_assign rfl) ?_
      refine r_nil ?_
      refine hK5 _ _ _ ?_
      clear hK5 K5
      refine c_ret ?_
      refine e_ret 2 hm (res_tmps rfl) ?_
      refine ⟨congrArg Value.bool ?_, rfl⟩
      unfold modTouches ruleKey
      simp_all
    ·
      refine r_no' rfl rfl h1 ?_
      refine r_no' rfl rfl h1 ?_
      refine r_no' rfl rfl h1 ?_
      refine r_no' rfl rfl h1 ?_
      refine r_no' rfl rfl h1 ?_
      refine r_y rfl rfl (y_pickf rfl h1 rfl) ?_
      refine r_y rfl rfl (y_assign rfl) ?_
      refine r_nil ?_
      refine hK5 _ _ _ ?_
      clear hK5 K5
      refine c_ret ?_
      refine e_ret 2 hm (res_tmps rfl) ?_
      refine ⟨congrArg Value.bool ?_, rfl⟩
      unfold modTouches ruleKey
      simp_all
  ·
    refine c_region ?_
    refine r_y rfl rfl (y_iop rfl rfl rfl) ?_
    refine r_y rfl rfl (y_assign rfl) ?_
    refine r_nil ?_
    refine hK3 _ _ _ ?_
    clear hK3 K3
    refine c_cond rfl (fun h2 => ?_) (fun h2 => ?_)
    ·
      refine c_seq (fun K6 hK6 => ?_)
      refine c_region ?_
      refine r_y rfl rfl (y_fieldAddr rfl At.lit fo50_5 rfl) ?_
      refine r_y rfl rfl (y_load_s rfl ts3 (RdS.blk (i := 0) rfl rfl)) ?_
      refine r_y rfl rfl (y_fieldAddr rfl At.lit fo32_6 rfl) ?_
      refine r_y rfl rfl (y_load_s rfl ts3 (RdS.blk (i := 1) rfl rfl)) ?_
      refine r_y rfl rfl (y_iop rfl rfl rfl) ?_
      refine r_y rfl rfl (y_move rfl) ?_
      refine r_split (j := 5) rfl (fun h3 => ?_) (fun h3 => ?_)
      ·
        refine r_yg rfl h3 rfl (y_fieldAddr rfl At.lit fo50_0 rfl) ?_
        refine r_yg rfl h3 rfl (y_load_a (cs := encCube r.m) rfl ts29 (RdA.blk (i := 0) rfl rfl)) ?_
        refine r_yg rfl h3 rfl (y_fieldAddr rfl At.lit fo32_1 rfl) ?_
        refine r_yg rfl h3 rfl (y_load_a (cs := encCube x.m) rfl ts29 (RdA.blk (i := 1) rfl rfl)) ?_
        refine r_sg rfl h3 ?_
        refine s_call0 rfl Try.call134 rfl (within_w r.m x.m _ _) ?_
        rintro _ m2 _ hm2 ⟨rfl, rfl⟩
        replace hm := hm.trans hm2
        replace hz := hz.mono hm2
        clear hm2
        refine r_y rfl rfl (y_pickt rfl h3 rfl) ?_
        refine r_y rfl rfl (y_assign rfl) ?_
        refine r_nil ?_
        refine hK6 _ _ _ ?_
        clear hK6 K6
        refine c_ret ?_
        refine e_ret 2 hm (res_tmps rfl) ?_
        refine ⟨congrArg Value.bool ?_, rfl⟩
        unfold modTouches ruleKey
        simp_all
      ·
        refine r_no' rfl rfl h3 ?_
        refine r_no' rfl rfl h3 ?_
        refine r_no' rfl rfl h3 ?_
        refine r_no' rfl rfl h3 ?_
        refine r_no' rfl rfl h3 ?_
        refine r_y rfl rfl (y_pickf rfl h3 rfl) ?_
        refine r_y rfl rfl (y_assign rfl) ?_
        refine r_nil ?_
        refine hK6 _ _ _ ?_
        clear hK6 K6
        refine c_ret ?_
        refine e_ret 2 hm (res_tmps rfl) ?_
        refine ⟨congrArg Value.bool ?_, rfl⟩
        unfold modTouches ruleKey
        simp_all
    ·
      refine c_seq (fun K7 hK7 => ?_)
      refine c_seq (fun K8 hK8 => ?_)
      refine c_region ?_
      refine r_y rfl rfl (y_iop rfl rfl rfl) ?_
      refine r_y rfl rfl (y_assign rfl) ?_
      refine r_nil ?_
      refine hK8 _ _ _ ?_
      clear hK8 K8
      refine c_cond rfl (fun h4 => ?_) (fun h4 => ?_)
      ·
        refine c_skip ?_
        refine hK7 _ _ _ ?_
        clear hK7 K7
        refine c_ift rfl h4 ?_
        refine c_seq (fun K9 hK9 => ?_)
        refine c_draw ([.blk b0 (.cells (encMod x s).toArray 32), .blk b1 (.cells (encRule r s2).toArray 50)]) (by kernel_rfl) (fun hg => ?_)
        have hz_g := hz
        refine g_y (i := 0) (listed' := #[true, false, false, false, false, false, false, false, false, false, false, false]) rfl (by kernel_rfl) (by kernel_rfl) (by kernel_rfl) (by kernel_rfl) rfl rfl hg (allc (List.Mem.tail _ (List.Mem.head _)) (allc (List.Mem.head _) alln)) (fun m' H' hm' hX' => y_fieldAddr rfl At.lit fo50_5 rfl) ?_
        refine g_y (i := 1) (listed' := #[true, true, false, false, false, false, false, false, false, false, false, false]) rfl (by kernel_rfl) (by kernel_rfl) (by kernel_rfl) (by kernel_rfl) rfl rfl hg (allc (List.Mem.tail _ (List.Mem.head _)) (allc (List.Mem.head _) alln)) (fun m' H' hm' hX' => y_load_s rfl ts3 (RdS.mem (hX' _ (List.Mem.tail _ (List.Mem.head _))) rfl)) ?_
        refine g_y (i := 2) (listed' := #[true, true, true, false, false, false, false, false, false, false, false, false]) rfl (by kernel_rfl) (by kernel_rfl) (by kernel_rfl) (by kernel_rfl) rfl rfl hg (allc (List.Mem.tail _ (List.Mem.head _)) (allc (List.Mem.head _) alln)) (fun m' H' hm' hX' => y_fieldAddr rfl At.lit fo32_6 rfl) ?_
        refine g_y (i := 3) (listed' := #[true, true, true, true, false, false, false, false, false, false, false, false]) rfl (by kernel_rfl) (by kernel_rfl) (by kernel_rfl) (by kernel_rfl) rfl rfl hg (allc (List.Mem.tail _ (List.Mem.head _)) (allc (List.Mem.head _) alln)) (fun m' H' hm' hX' => y_load_s rfl ts3 (RdS.mem (hX' _ (List.Mem.head _)) rfl)) ?_
        refine g_y (i := 4) (listed' := #[true, true, true, true, true, false, false, false, false, false, false, false]) rfl (by kernel_rfl) (by kernel_rfl) (by kernel_rfl) (by kernel_rfl) rfl rfl hg (allc (List.Mem.tail _ (List.Mem.head _)) (allc (List.Mem.head _) alln)) (fun m' H' hm' hX' => y_iop rfl rfl rfl) ?_
        refine g_y (i := 5) (listed' := #[true, true, true, true, true, true, false, false, false, false, false, false]) rfl (by kernel_rfl) (by kernel_rfl) (by kernel_rfl) (by kernel_rfl) rfl rfl hg (allc (List.Mem.tail _ (List.Mem.head _)) (allc (List.Mem.head _) alln)) (fun m' H' hm' hX' => y_move rfl) ?_
        refine g_split (j := 5) rfl (fun h5 => ?_) (fun h5 => ?_)
        ·
          refine g_yg (i := 6) (listed' := #[true, true, true, true, true, true, true, false, false, false, false, false]) rfl (by kernel_rfl) (by kernel_rfl) (by kernel_rfl) (by kernel_rfl) rfl rfl h5 rfl hg (allc (List.Mem.tail _ (List.Mem.head _)) (allc (List.Mem.head _) alln)) (fun m' H' hm' hX' => y_load_a (cs := encRule r s2) rfl ts50 (RdA.mem (hX' _ (List.Mem.tail _ (List.Mem.head _))) rfl)) ?_
          refine g_yg (i := 7) (listed' := #[true, true, true, true, true, true, true, true, false, false, false, false]) rfl (by kernel_rfl) (by kernel_rfl) (by kernel_rfl) (by kernel_rfl) rfl rfl h5 rfl hg (allc (List.Mem.tail _ (List.Mem.head _)) (allc (List.Mem.head _) alln)) (fun m' H' hm' hX' => y_load_a (cs := encMod x s) rfl ts32 (RdA.mem (hX' _ (List.Mem.head _)) rfl)) ?_
          refine g_sg (i := 8) (listed' := #[true, true, true, true, true, true, true, true, true, false, false, false]) rfl (by kernel_rfl) (by kernel_rfl) rfl rfl h5 ?_
          refine s_call0 rfl Try.call129 rfl (modRule_w x s _ _ hz hok hfit) ?_
          rintro _ m2 _ hm2 ⟨o, rfl, hor, hoo, rfl⟩
          replace hm := hm.trans hm2
          refine ⟨⟨hg.trans hm2, (allc (List.Mem.tail _ (List.Mem.tail _ (List.Mem.head _))) (allc (List.Mem.tail _ (List.Mem.head _)) alln))⟩, ?_⟩
          replace hg := hg.trans hm2
          replace hz := hz.mono hm2
          clear hm2
          refine g_sg (i := 9) (listed' := #[true, true, true, true, true, true, true, true, true, true, false, false]) rfl (by kernel_rfl) (by kernel_rfl) rfl rfl h5 ?_
          refine s_call0 rfl Try.call125 rfl (ruleKey_w r o.r s2 o.s _ _) ?_
          rintro _ m2 _ hm2 ⟨rfl, rfl⟩
          replace hm := hm.trans hm2
          refine ⟨⟨hg.trans hm2, (allc (List.Mem.tail _ (List.Mem.tail _ (List.Mem.head _))) (allc (List.Mem.tail _ (List.Mem.head _)) alln))⟩, ?_⟩
          replace hg := hg.trans hm2
          replace hz := hz.mono hm2
          clear hm2
          refine g_y (i := 10) (listed' := #[true, true, true, true, true, true, true, true, true, true, true, false]) rfl (by kernel_rfl) (by kernel_rfl) (by kernel_rfl) (by kernel_rfl) rfl rfl hg (allc (List.Mem.tail _ (List.Mem.tail _ (List.Mem.head _))) (allc (List.Mem.tail _ (List.Mem.head _)) alln)) (fun m' H' hm' hX' => y_pickt rfl h5 rfl) ?_
          refine g_y (i := 11) (listed' := #[true, true, true, true, true, true, true, true, true, true, true, true]) rfl (by kernel_rfl) (by kernel_rfl) (by kernel_rfl) (by kernel_rfl) rfl rfl hg (allc (List.Mem.tail _ (List.Mem.tail _ (List.Mem.head _))) (allc (List.Mem.tail _ (List.Mem.head _)) alln)) (fun m' H' hm' hX' => y_assign rfl) ?_
          refine g_done (by kernel_rfl) ?_
          clear hg hz_g
          refine hK9 _ _ _ ?_
          clear hK9 K9
          refine c_ret ?_
          refine e_ret 3 hm (res_tmps rfl) ?_
          refine ⟨congrArg Value.bool ?_, rfl⟩
          unfold modTouches ruleKey
          simp_all
        ·
          refine g_no (i := 6) (listed' := #[true, true, true, true, true, true, true, false, false, false, false, false]) rfl (by kernel_rfl) (by kernel_rfl) (by kernel_rfl) (by kernel_rfl) rfl rfl h5 rfl hg (allc (List.Mem.tail _ (List.Mem.head _)) (allc (List.Mem.head _) alln)) ?_
          refine g_no (i := 7) (listed' := #[true, true, true, true, true, true, true, true, false, false, false, false]) rfl (by kernel_rfl) (by kernel_rfl) (by kernel_rfl) (by kernel_rfl) rfl rfl h5 rfl hg (allc (List.Mem.tail _ (List.Mem.head _)) (allc (List.Mem.head _) alln)) ?_
          refine g_no (i := 8) (listed' := #[true, true, true, true, true, true, true, true, true, false, false, false]) rfl (by kernel_rfl) (by kernel_rfl) (by kernel_rfl) (by kernel_rfl) rfl rfl h5 rfl hg (allc (List.Mem.tail _ (List.Mem.head _)) (allc (List.Mem.head _) alln)) ?_
          refine g_no (i := 9) (listed' := #[true, true, true, true, true, true, true, true, true, true, false, false]) rfl (by kernel_rfl) (by kernel_rfl) (by kernel_rfl) (by kernel_rfl) rfl rfl h5 rfl hg (allc (List.Mem.tail _ (List.Mem.head _)) (allc (List.Mem.head _) alln)) ?_
          refine g_y (i := 10) (listed' := #[true, true, true, true, true, true, true, true, true, true, true, false]) rfl (by kernel_rfl) (by kernel_rfl) (by kernel_rfl) (by kernel_rfl) rfl rfl hg (allc (List.Mem.tail _ (List.Mem.head _)) (allc (List.Mem.head _) alln)) (fun m' H' hm' hX' => y_pickf rfl h5 rfl) ?_
          refine g_y (i := 11) (listed' := #[true, true, true, true, true, true, true, true, true, true, true, true]) rfl (by kernel_rfl) (by kernel_rfl) (by kernel_rfl) (by kernel_rfl) rfl rfl hg (allc (List.Mem.tail _ (List.Mem.head _)) (allc (List.Mem.head _) alln)) (fun m' H' hm' hX' => y_assign rfl) ?_
          refine g_done (by kernel_rfl) ?_
          clear hg hz_g
          refine hK9 _ _ _ ?_
          clear hK9 K9
          refine c_ret ?_
          refine e_ret 2 hm (res_tmps rfl) ?_
          refine ⟨congrArg Value.bool ?_, rfl⟩
          unfold modTouches ruleKey
          simp_all
      ·
        refine c_region ?_
        refine r_y rfl rfl (y_iop rfl rfl rfl) ?_
        refine r_y rfl rfl (y_assign rfl) ?_
        refine r_nil ?_
        refine hK7 _ _ _ ?_
        clear hK7 K7
        refine c_cond rfl (fun h6 => ?_) (fun h6 => ?_)
        ·
          refine c_seq (fun K10 hK10 => ?_)
          refine c_draw ([.blk b0 (.cells (encMod x s).toArray 32), .blk b1 (.cells (encRule r s2).toArray 50)]) (by kernel_rfl) (fun hg => ?_)
          have hz_g := hz
          refine g_y (i := 0) (listed' := #[true, false, false, false, false, false, false, false, false, false, false, false]) rfl (by kernel_rfl) (by kernel_rfl) (by kernel_rfl) (by kernel_rfl) rfl rfl hg (allc (List.Mem.tail _ (List.Mem.head _)) (allc (List.Mem.head _) alln)) (fun m' H' hm' hX' => y_fieldAddr rfl At.lit fo50_5 rfl) ?_
          refine g_y (i := 1) (listed' := #[true, true, false, false, false, false, false, false, false, false, false, false]) rfl (by kernel_rfl) (by kernel_rfl) (by kernel_rfl) (by kernel_rfl) rfl rfl hg (allc (List.Mem.tail _ (List.Mem.head _)) (allc (List.Mem.head _) alln)) (fun m' H' hm' hX' => y_load_s rfl ts3 (RdS.mem (hX' _ (List.Mem.tail _ (List.Mem.head _))) rfl)) ?_
          refine g_y (i := 2) (listed' := #[true, true, true, false, false, false, false, false, false, false, false, false]) rfl (by kernel_rfl) (by kernel_rfl) (by kernel_rfl) (by kernel_rfl) rfl rfl hg (allc (List.Mem.tail _ (List.Mem.head _)) (allc (List.Mem.head _) alln)) (fun m' H' hm' hX' => y_fieldAddr rfl At.lit fo32_6 rfl) ?_
          refine g_y (i := 3) (listed' := #[true, true, true, true, false, false, false, false, false, false, false, false]) rfl (by kernel_rfl) (by kernel_rfl) (by kernel_rfl) (by kernel_rfl) rfl rfl hg (allc (List.Mem.tail _ (List.Mem.head _)) (allc (List.Mem.head _) alln)) (fun m' H' hm' hX' => y_load_s rfl ts3 (RdS.mem (hX' _ (List.Mem.head _)) rfl)) ?_
          refine g_y (i := 4) (listed' := #[true, true, true, true, true, false, false, false, false, false, false, false]) rfl (by kernel_rfl) (by kernel_rfl) (by kernel_rfl) (by kernel_rfl) rfl rfl hg (allc (List.Mem.tail _ (List.Mem.head _)) (allc (List.Mem.head _) alln)) (fun m' H' hm' hX' => y_iop rfl rfl rfl) ?_
          refine g_y (i := 5) (listed' := #[true, true, true, true, true, true, false, false, false, false, false, false]) rfl (by kernel_rfl) (by kernel_rfl) (by kernel_rfl) (by kernel_rfl) rfl rfl hg (allc (List.Mem.tail _ (List.Mem.head _)) (allc (List.Mem.head _) alln)) (fun m' H' hm' hX' => y_move rfl) ?_
          refine g_split (j := 5) rfl (fun h7 => ?_) (fun h7 => ?_)
          ·
            refine g_yg (i := 6) (listed' := #[true, true, true, true, true, true, true, false, false, false, false, false]) rfl (by kernel_rfl) (by kernel_rfl) (by kernel_rfl) (by kernel_rfl) rfl rfl h7 rfl hg (allc (List.Mem.tail _ (List.Mem.head _)) (allc (List.Mem.head _) alln)) (fun m' H' hm' hX' => y_load_a (cs := encRule r s2) rfl ts50 (RdA.mem (hX' _ (List.Mem.tail _ (List.Mem.head _))) rfl)) ?_
            refine g_yg (i := 7) (listed' := #[true, true, true, true, true, true, true, true, false, false, false, false]) rfl (by kernel_rfl) (by kernel_rfl) (by kernel_rfl) (by kernel_rfl) rfl rfl h7 rfl hg (allc (List.Mem.tail _ (List.Mem.head _)) (allc (List.Mem.head _) alln)) (fun m' H' hm' hX' => y_load_a (cs := encMod x s) rfl ts32 (RdA.mem (hX' _ (List.Mem.head _)) rfl)) ?_
            refine g_sg (i := 8) (listed' := #[true, true, true, true, true, true, true, true, true, false, false, false]) rfl (by kernel_rfl) (by kernel_rfl) rfl rfl h7 ?_
            refine s_call0 rfl Try.call129 rfl (modRule_w x s _ _ hz hok hfit) ?_
            rintro _ m2 _ hm2 ⟨o, rfl, hor, hoo, rfl⟩
            replace hm := hm.trans hm2
            refine ⟨⟨hg.trans hm2, (allc (List.Mem.tail _ (List.Mem.tail _ (List.Mem.head _))) (allc (List.Mem.tail _ (List.Mem.head _)) alln))⟩, ?_⟩
            replace hg := hg.trans hm2
            replace hz := hz.mono hm2
            clear hm2
            refine g_sg (i := 9) (listed' := #[true, true, true, true, true, true, true, true, true, true, false, false]) rfl (by kernel_rfl) (by kernel_rfl) rfl rfl h7 ?_
            refine s_call0 rfl Try.call125 rfl (ruleKey_w r o.r s2 o.s _ _) ?_
            rintro _ m2 _ hm2 ⟨rfl, rfl⟩
            replace hm := hm.trans hm2
            refine ⟨⟨hg.trans hm2, (allc (List.Mem.tail _ (List.Mem.tail _ (List.Mem.head _))) (allc (List.Mem.tail _ (List.Mem.head _)) alln))⟩, ?_⟩
            replace hg := hg.trans hm2
            replace hz := hz.mono hm2
            clear hm2
            refine g_y (i := 10) (listed' := #[true, true, true, true, true, true, true, true, true, true, true, false]) rfl (by kernel_rfl) (by kernel_rfl) (by kernel_rfl) (by kernel_rfl) rfl rfl hg (allc (List.Mem.tail _ (List.Mem.tail _ (List.Mem.head _))) (allc (List.Mem.tail _ (List.Mem.head _)) alln)) (fun m' H' hm' hX' => y_pickt rfl h7 rfl) ?_
            refine g_y (i := 11) (listed' := #[true, true, true, true, true, true, true, true, true, true, true, true]) rfl (by kernel_rfl) (by kernel_rfl) (by kernel_rfl) (by kernel_rfl) rfl rfl hg (allc (List.Mem.tail _ (List.Mem.tail _ (List.Mem.head _))) (allc (List.Mem.tail _ (List.Mem.head _)) alln)) (fun m' H' hm' hX' => y_assign rfl) ?_
            refine g_done (by kernel_rfl) ?_
            clear hg hz_g
            refine hK10 _ _ _ ?_
            clear hK10 K10
            refine c_ret ?_
            refine e_ret 3 hm (res_tmps rfl) ?_
            refine ⟨congrArg Value.bool ?_, rfl⟩
            unfold modTouches ruleKey
            simp_all
          ·
            refine g_no (i := 6) (listed' := #[true, true, true, true, true, true, true, false, false, false, false, false]) rfl (by kernel_rfl) (by kernel_rfl) (by kernel_rfl) (by kernel_rfl) rfl rfl h7 rfl hg (allc (List.Mem.tail _ (List.Mem.head _)) (allc (List.Mem.head _) alln)) ?_
            refine g_no (i := 7) (listed' := #[true, true, true, true, true, true, true, true, false, false, false, false]) rfl (by kernel_rfl) (by kernel_rfl) (by kernel_rfl) (by kernel_rfl) rfl rfl h7 rfl hg (allc (List.Mem.tail _ (List.Mem.head _)) (allc (List.Mem.head _) alln)) ?_
            refine g_no (i := 8) (listed' := #[true, true, true, true, true, true, true, true, true, false, false, false]) rfl (by kernel_rfl) (by kernel_rfl) (by kernel_rfl) (by kernel_rfl) rfl rfl h7 rfl hg (allc (List.Mem.tail _ (List.Mem.head _)) (allc (List.Mem.head _) alln)) ?_
            refine g_no (i := 9) (listed' := #[true, true, true, true, true, true, true, true, true, true, false, false]) rfl (by kernel_rfl) (by kernel_rfl) (by kernel_rfl) (by kernel_rfl) rfl rfl h7 rfl hg (allc (List.Mem.tail _ (List.Mem.head _)) (allc (List.Mem.head _) alln)) ?_
            refine g_y (i := 10) (listed' := #[true, true, true, true, true, true, true, true, true, true, true, false]) rfl (by kernel_rfl) (by kernel_rfl) (by kernel_rfl) (by kernel_rfl) rfl rfl hg (allc (List.Mem.tail _ (List.Mem.head _)) (allc (List.Mem.head _) alln)) (fun m' H' hm' hX' => y_pickf rfl h7 rfl) ?_
            refine g_y (i := 11) (listed' := #[true, true, true, true, true, true, true, true, true, true, true, true]) rfl (by kernel_rfl) (by kernel_rfl) (by kernel_rfl) (by kernel_rfl) rfl rfl hg (allc (List.Mem.tail _ (List.Mem.head _)) (allc (List.Mem.head _) alln)) (fun m' H' hm' hX' => y_assign rfl) ?_
            refine g_done (by kernel_rfl) ?_
            clear hg hz_g
            refine hK10 _ _ _ ?_
            clear hK10 K10
            refine c_ret ?_
            refine e_ret 2 hm (res_tmps rfl) ?_
            refine ⟨congrArg Value.bool ?_, rfl⟩
            unfold modTouches ruleKey
            simp_all
        ·
          refine c_skip ?_
          refine hK1 _ _ _ ?_
          clear hK1 K1
          refine c_seq (fun K11 hK11 => ?_)
          refine c_region ?_
          refine r_y rfl rfl (y_assign rfl) ?_
          refine r_nil ?_
          refine hK11 _ _ _ ?_
          clear hK11 K11
          refine c_ret ?_
          refine e_ret 2 hm (res_tmps rfl) ?_
          refine ⟨congrArg Value.bool ?_, rfl⟩
          unfold modTouches ruleKey
          simp_all
end Go.Aw
namespace Go.Aw
open Go
theorem fz_first {P : Program} {m : Snap} {H : Hp} {w : World} {a : Option Addr} {n cap s : Nat} {cs : List (List Value)} (h : Fz m a n cap s cs) (hn : a = none → n = 0) (hst : St m H w) (cap' : Nat) : (Builtin.firstCells s n (.slice a n cap')).run P w.drew = .ok cs.flatten.toArray w.drew := by
  cases a with
  | none =>
    have : cs = [] := List.eq_nil_of_length_eq_zero (by rw [h.len]; exact hn rfl)
    subst this
    have := hn rfl
    subst this
    exact run_firstCells_none _ _ _ _ _
  | some a =>
    refine run_firstCells_some _ _ _ _ _ _ _ (by rw [length_flatten h.each, h.len]) fun j u hj => ?_
    obtain ⟨k, i, c, hk, hi, rfl⟩ := flatten_index h.each hj
    obtain ⟨g, o, ha, hv⟩ := h.get k c hk
    cases ha
    rw [addr_add]
    exact (hst.drawn _).cell (hv i u hi)
section
variable {P : Program} {n : Nat} {Q : Post} {L : Slots} {m : Snap} {H : Hp} {ops : Array Oper} {rest : List Oper} {d : Option Tmp} {ty : TypeId} {ps : String} {af : Array Edge} {gd : Option (Nat × Bool)} {fuel : Nat} {listed : Array Bool}
/-- append to a frozen slice whose capacity is its length: a new row. -/
theorem s_appendf {K : Slots → Snap → Hp → Prop} {t e : TypeId} {x y : Operand} {len cap k s B : Nat} {a : Option Addr} {cs news : List (List Value)} {v : Value} (hd : dstOk n d = true)
    (hx : opv L x = some (.slice a len len)) (hy : opv L y = some v) (ht : tslice P t = some (e, s)) (hz : zeroOk P e = true) (hB : tbytes P e = some B)
    (hfz : Fz m a len cap s cs) (hnil : a = none → len = 0) (hs : Src m H v k s news) (hk : 0 < k) (hfit : (len + k) * B ≤ 140737488355328) (hlen : len + k ≤ maxLen)
    (h : ∀ a' cap', K (lput L d (.slice a' (len + k) cap')) m (.vec a' (len + k) cap' e s (cs ++ news) :: H)) :
    SP P n L m H ⟨d, .call ⟨.builtin .append, [x, y].toArray, [t, t].toArray⟩, ty, ps, af, gd⟩ K := by
  refine s_value hd fun ac w hf hst => ?_
  have hcl := hfz.len
  have hce := hfz.each
  unfold tslice at ht
  cases hu : P.underlying t with
  | none => simp [hu] at ht
  | some D =>
    cases D <;> simp only [hu, reduceCtorEq] at ht
    rename_i e'
    cases hinf : P.info? e' with
    | none => simp [hinf] at ht
    | some inf =>
      simp only [hinf, Option.some.injEq, Prod.mk.injEq] at ht
      obtain ⟨rfl, rfl⟩ := ht
      unfold zeroOk at hz
      simp only [hinf] at hz
      cases hzv : inf.zero with
      | none => simp [hzv] at hz
      | some z =>
        simp only [hzv, Bool.and_eq_true, beq_iff_eq, Nat.blt_eq] at hz
        have hBy : inf.bytes = B := by simpa [tbytes, hinf] using hB
        have hexec : ∀ v' w', (Builtin.append_ #[t, t] ty #[.slice a len len, v]).run P w = .ok v' w' →
            (execOp ac.eval ⟨d, .call ⟨.builtin .append, [x, y].toArray, [t, t].toArray⟩, ty, ps, af, gd⟩).run P w = .ok (.value v') w' := by
          intro v' w' hr
          simp [execOp, resolve, invoke, builtin, hf.eval hx, hf.eval hy, hr]
        rcases hs.get with ⟨rfl, rfl⟩ | ⟨sa, c, rfl, hcell⟩
        · omega
        · have hfl : news.flatten.length = k * inf.size := by rw [length_flatten hs.each, hs.len]
          have hone : ∀ u ∈ news.flatten, u.oneCell' = true := fun u hu => by obtain ⟨l, hl, hul⟩ := List.mem_flatten.1 hu; exact hs.one l hl u hul
          have hlast : (cs ++ news).length = len + k ∧ ∀ l ∈ cs ++ news, l.length = inf.size := ⟨by rw [List.length_append, hcl, hs.len], fun l hl => by
            rcases List.mem_append.1 hl with h1 | h1
            · exact hce l h1
            · exact hs.each l h1⟩
          have hsrc : Go.Src P inf.size t (.slice (some sa) k c) k news.flatten w := Src.ofSlice w hu sa k c news.flatten hfl (hcell w hst) hone
          have hfit' : Builtin.nextslicecap (len + k) len * inf.bytes ≤ 281474976710656 := growslice_fits (by omega) (by rw [hBy]; exact hfit)
          have hml : maxLen = 9223372036854775807 := rfl
          have hr := run_append_grow_src (P := P) w t t ty e' inf z hu hinf hzv a len len cs.flatten (fz_first hfz hnil hst len) _ k news.flatten hsrc (by omega) (by omega) hfit'
          have hge := grownCap_ge w (len + k) len e'
          have hcm := grownCap_le_maxLen w (len + k) len e' hlen
          refine ⟨_, m, _, _, hexec _ _ hr, (St.blkVec (cs := cs ++ news) (cap := grownCap w (len + k) len e') ((hst.drawn _).alloc _) hge hcm ?_ hlast.1 hlast.2 ?_), h _ _⟩
          · rw [Array.size_append, size_zeroCells, hz.1, List.size_toArray, ← List.flatten_append, length_flatten hlast.2, hlast.1, ← Nat.add_mul]
            congr 1
            omega
          · rw [Array.toList_append, List.toList_toArray, ← List.flatten_append, List.take_append_of_le_length (by rw [length_flatten hlast.2, hlast.1]; exact Nat.le_refl _)]
            exact List.take_of_length_le (by rw [length_flatten hlast.2, hlast.1]; exact Nat.le_refl _)
theorem g_freezeVec {S : World → Prop} {i len cap s : Nat} {a : Option Addr} {e : TypeId} {cs : List (List Value)} (hi : hget H i = some (.vec a len cap e s cs)) (hs0 : Nat.blt 0 s = true)
    (h : ∀ m', m.le m' → Fz m' a len cap s cs → (a = none → cap = 0) → AG P n ops Q S fuel listed L m' (hdel H i)) : AG P n ops Q S fuel listed L m H := fun ac w hf hs => by
  obtain ⟨m', h1, h2, h3, h4⟩ := hs.freezeVec hi (by simpa [Nat.blt_eq] using hs0)
  exact h m' h1 h3 h4 ac w hf h2
end
theorem idxF_pos {α : Type} {p : α → Bool} {l : List α} (h : idxF p l ≥ 0) : ∃ (k : Nat) (x : α), idxF p l = (k : Int) ∧ l[k]? = some x ∧ p x = true := by
  unfold idxF at h ⊢
  cases hf : l.findIdx? p with
  | none => rw [hf] at h; simp at h
  | some k =>
    obtain ⟨hlt, hp, _⟩ := List.findIdx?_eq_some_iff_getElem.1 hf
    exact ⟨k, l[k], rfl, by simp [hlt], hp⟩
theorem FzR.snoc {m : Snap} {a : Option Addr} {n c c' : Nat} {sl : Sl} {lr : List (RuleD × Sl)} {r : RuleD} {s : Sl} (h0 : FzR m sl lr) (h : Fz m a n c 32 ((lr.map fun p => encRule p.1 p.2) ++ [encRule r s])) (ha : Fz m s.a s.n c' 4 (r.acts.map encAct)) (hc : s.cap = s.n) (hn : s.a = none → c' = 0) : FzR m ⟨a, n, c⟩ (lr ++ [(r, s)]) :=
  ⟨by simpa using h, fun p hp => by
    rcases List.mem_append.1 hp with hp | hp
    · exact h0.acts p hp
    · simp at hp; subst hp
      refine ⟨?_, fun h => ?_⟩
      · show Fz m s.a s.n s.cap 4 _
        rw [hc]; exact ha.clip
      · have := hn h; have := ha.le; show s.cap = 0; omega⟩
/-- What an add makes of a table, or why not. -/
def addR (l : List RuleD) (x : ModD) (room : Int) : List RuleD × Int :=
  if l.any (fun y => ruleKey y (modRule x) && (y.owner != x.owner)) then ([], 7)
  else if x.check && l.any (fun y => !ruleKey y (modRule x) && ruleOverlap y (modRule x)) then ([], 6)
  else if !(l.any fun y => ruleKey y (modRule x)) && decide ((l.length : Int) ≥ room) then ([], 3)
  else (sortR (l ++ [modRule x]), 0)
def modR1 (x : ModD) (r : RuleD) : Option RuleD := if modTouches x r then (if x.kind = 3 ∨ x.kind = 5 then none else some { r with acts := x.acts }) else some r
def applyR (l : List RuleD) (x : ModD) (room : Int) : List RuleD × Int :=
  if !(ruleTable l && modSound x) then ([], 2) else if x.kind = 1 then addR l x room else (l.filterMap (modR1 x), 0)
end Go.Aw
namespace Go.Aw
open Go
theorem srt_of_adj : ∀ {l : List RuleD}, (∀ (i : Nat) (a b : RuleD), l[i]? = some a → l[i + 1]? = some b → ruleCmp a b < 0) → Srt l
  | [], _ => List.Pairwise.nil
  | [x], _ => List.pairwise_singleton _ _
  | x :: y :: l, h => by
    have ih : Srt (y :: l) := srt_of_adj fun i a b ha hb => h (i + 1) a b (by simpa using ha) (by simpa using hb)
    have hxy := h 0 x y rfl rfl
    refine List.pairwise_cons.2 ⟨fun z hz => ?_, ih⟩
    rcases List.mem_cons.1 hz with rfl | hz
    · exact hxy
    · exact ruleCmp_trans hxy ((List.pairwise_cons.1 ih).1 z hz)
theorem table_iff {l : List RuleD} : ruleTable l = true ↔ ((∀ r ∈ l, ruleSound r = true) ∧ Srt l) := by
  constructor
  · intro h
    refine ⟨ruleTable_sound h, srt_of_adj fun i a b ha hb => ?_⟩
    unfold ruleTable at h
    rw [List.all_eq_true] at h
    have hlt := (List.getElem?_eq_some_iff.1 hb).1
    have := h (i + 1) (by simpa using hlt)
    unfold okAt at this
    rw [hb] at this
    simp only [Nat.add_sub_cancel, ha, Bool.and_eq_true, Bool.or_eq_true, decide_eq_true_eq] at this
    rcases this.2 with h0 | h0
    · omega
    · simpa [ruleBefore] using h0
  · rintro ⟨hs, hp⟩
    unfold ruleTable
    rw [List.all_eq_true]
    intro i hi
    have hlt : i < l.length := by simpa using hi
    unfold okAt
    rw [List.getElem?_eq_getElem hlt]
    simp only [Bool.and_eq_true, Bool.or_eq_true, decide_eq_true_eq]
    refine ⟨hs _ (by simp), ?_⟩
    rcases Nat.eq_zero_or_pos i with h0 | h0
    · exact .inl h0
    · right
      rw [List.getElem?_eq_getElem (by omega)]
      have := List.pairwise_iff_getElem.1 hp (i - 1) i (by omega) hlt (by omega)
      simpa [ruleBefore] using this
theorem key_once {l : List RuleD} {x y r : RuleD} (h : Srt l) (hx : x ∈ l) (hy : y ∈ l) (kx : ruleKey x r = true) (ky : ruleKey y r = true) : x = y := by
  obtain ⟨i, hi, rfl⟩ := List.mem_iff_getElem.1 hx
  obtain ⟨j, hj, rfl⟩ := List.mem_iff_getElem.1 hy
  have hk : ∀ a b : RuleD, ruleKey a r = true → ruleKey b r = true → ¬ ruleCmp a b < 0 := by
    intro a b ha hb
    have : ruleKey a b = true := by simp [ruleKey] at ha hb ⊢; exact ⟨ha.1.trans hb.1.symm, ha.2.trans hb.2.symm⟩
    rw [ruleCmp_zero.2 this]; decide
  rcases Nat.lt_trichotomy i j with hlt | rfl | hlt
  · exact absurd (List.pairwise_iff_getElem.1 h i j hi hj hlt) (hk _ _ kx ky)
  · rfl
  · exact absurd (List.pairwise_iff_getElem.1 h j i hj hi hlt) (hk _ _ ky kx)
theorem any_owner {l : List RuleD} {r z : RuleD} {o : Int} (h : Srt l) (hz : z ∈ l) (kz : ruleKey z r = true) : l.any (fun y => ruleKey y r && (y.owner != o)) = (z.owner != o) := by
  rw [Bool.eq_iff_iff, List.any_eq_true]
  constructor
  · rintro ⟨y, hy, hk⟩
    simp only [Bool.and_eq_true] at hk
    rw [key_once h hz hy kz hk.1]; exact hk.2
  · intro hn
    exact ⟨z, hz, by simp only [kz, hn, Bool.and_self]⟩
theorem any_owner_no {l : List RuleD} {r : RuleD} {o : Int} (h : l.any (fun y => ruleKey y r) = false) : l.any (fun y => ruleKey y r && (y.owner != o)) = false := by
  rw [List.any_eq_false] at h ⊢
  intro y hy
  have := h y hy
  simp only [Bool.not_eq_true] at this ⊢
  rw [this]; rfl
theorem modRule_sound {x : ModD} (h : modSound x = true) (k : x.kind = 1) : ruleSound (modRule x) = true := by
  unfold modSound at h
  split at h
  · cases h
  · rename_i h0
    simp only [Bool.or_eq_true, Bool.not_eq_true', not_or, Bool.not_eq_false] at h0
    simp only [Bool.and_eq_true] at h
    obtain ⟨⟨⟨a1, a2⟩, a3⟩, a4⟩ := h0
    unfold ruleSound modRule
    simp [a1, a2, a3, a4, h.1, h.2]
theorem sortR_sound {l : List RuleD} : ∀ r ∈ sortR l, ruleSound r = true := by
  have key : ∀ (l acc : List RuleD), (∀ r ∈ acc, ruleSound r = true) → (∀ r ∈ l, ruleSound r = true) → ∀ r ∈ l.foldl insR acc, ruleSound r = true := by
    intro l
    induction l with
    | nil => intro acc h _; exact h
    | cons x l ih =>
      intro acc h hl
      refine ih (insR acc x) (fun r hr => ?_) (fun r hr => hl r (List.mem_cons_of_mem _ hr))
      rcases insR_mem hr with rfl | hr
      · exact hl _ List.mem_cons_self
      · exact h r hr
  exact key _ [] (fun r h => by cases h) (fun r hr => by simpa using (List.mem_filter.1 hr).2)
theorem sortR_table (l : List RuleD) : ruleTable (sortR l) = true := table_iff.2 ⟨sortR_sound, sortR_srt l⟩
theorem addR_7 {l : List RuleD} {x : ModD} {room : Int} (h : l.any (fun y => ruleKey y (modRule x) && (y.owner != x.owner)) = true) : addR l x room = ([], 7) := by
  unfold addR; rw [if_pos h]
theorem addR_6 {l : List RuleD} {x : ModD} {room : Int} (h : l.any (fun y => ruleKey y (modRule x) && (y.owner != x.owner)) = false) (h2 : (x.check && l.any (fun y => !ruleKey y (modRule x) && ruleOverlap y (modRule x))) = true) : addR l x room = ([], 6) := by
  unfold addR; rw [h, if_neg (by decide), if_pos h2]
theorem addR_3 {l : List RuleD} {x : ModD} {room : Int} (h : l.any (fun y => ruleKey y (modRule x) && (y.owner != x.owner)) = false) (h2 : (x.check && l.any (fun y => !ruleKey y (modRule x) && ruleOverlap y (modRule x))) = false) (h3 : (!(l.any fun y => ruleKey y (modRule x)) && decide ((l.length : Int) ≥ room)) = true) : addR l x room = ([], 3) := by
  unfold addR; rw [h, if_neg (by decide), h2, if_neg (by decide), if_pos h3]
theorem addR_0 {l : List RuleD} {x : ModD} {room : Int} (h : l.any (fun y => ruleKey y (modRule x) && (y.owner != x.owner)) = false) (h2 : (x.check && l.any (fun y => !ruleKey y (modRule x) && ruleOverlap y (modRule x))) = false) (h3 : (!(l.any fun y => ruleKey y (modRule x)) && decide ((l.length : Int) ≥ room)) = false) : addR l x room = (sortR (l ++ [modRule x]), 0) := by
  unfold addR; rw [h, if_neg (by decide), h2, if_neg (by decide), h3, if_neg (by decide)]
end Go.Aw
