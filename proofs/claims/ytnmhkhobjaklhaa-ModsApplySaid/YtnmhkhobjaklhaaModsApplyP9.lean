/- Part 9 of the words and walks that the proof behind it uses. -/
import Derived.Test.YtnmhkhobjaklhaaModsApplyP8
set_option linter.unusedVariables false
set_option linter.unusedSimpArgs false
set_option maxHeartbeats 1000000
namespace Go.Aw
open Go Go.Proofs
set_option maxRecDepth 100000 in
theorem rWithin_w (a b : Cube) (m : Snap) (H : Hp) : Fn Try.prog 135 [.agg (encCube a).toArray, .agg (encCube b).toArray] m H (fun v _ H' => v = .bool (cubeWithin a b) ∧ H' = H) := by
  have hm : m.le m := Snap.le.refl m
  refine fn_end Try.func135 rfl rfl rfl ?_
  refine c_seq (fun K0 hK0 => ?_)
  refine c_region ?_
  refine r_s rfl ?_
  refine s_box_a rfl rfl (fun b0 => ?_)
  refine r_s rfl ?_
  refine s_box_a rfl rfl (fun b1 => ?_)
  refine r_y rfl rfl (y_assign rfl) ?_
  refine r_nil ?_
  refine hK0 _ _ _ ?_
  clear hK0 K0
  refine c_seq (fun K1 hK1 => ?_)
  refine c_region ?_
  refine r_y rfl rfl (y_load_a (cs := encCube a) rfl ts29 (RdA.blk (i := 1) rfl rfl)) ?_
  refine r_s rfl ?_
  refine s_call0 rfl Try.call98 rfl (rText_w a _ _) ?_
  rintro _ m2 _ hm2 ⟨rfl, rfl⟩
  replace hm := hm.trans hm2
  clear hm2
  refine r_y rfl rfl (y_move rfl) ?_
  refine r_y rfl rfl (y_extract rfl rfl) ?_
  refine r_y rfl rfl (y_extract rfl rfl) ?_
  refine r_y rfl rfl (y_assign rfl) ?_
  refine r_y rfl rfl (y_assign rfl) ?_
  refine r_nil ?_
  refine hK1 _ _ _ ?_
  clear hK1 K1
  refine c_seq (fun K2 hK2 => ?_)
  refine c_region ?_
  refine r_y rfl rfl (y_load_a (cs := encCube b) rfl ts29 (RdA.blk (i := 0) rfl rfl)) ?_
  refine r_s rfl ?_
  refine s_call0 rfl Try.call98 rfl (rText_w b _ _) ?_
  rintro _ m2 _ hm2 ⟨rfl, rfl⟩
  replace hm := hm.trans hm2
  clear hm2
  refine r_y rfl rfl (y_move rfl) ?_
  refine r_y rfl rfl (y_extract rfl rfl) ?_
  refine r_y rfl rfl (y_extract rfl rfl) ?_
  refine r_y rfl rfl (y_assign rfl) ?_
  refine r_y rfl rfl (y_assign rfl) ?_
  refine r_nil ?_
  refine hK2 _ _ _ ?_
  clear hK2 K2
  refine c_seq (fun K3 hK3 => ?_)
  refine c_seq (fun K4 hK4 => ?_)
  refine c_region ?_
  refine r_y rfl rfl (y_assign rfl) ?_
  refine r_nil ?_
  refine hK4 _ _ _ ?_
  clear hK4 K4
  refine c_block ?_
  have htl := textN_len a 12
  refine c_loopx (α := Nat) (fun i => [(5, .string (strB (textN a 12))), (6, .bool (cubeSound a && zipAll withinF ((textN a 12).take i) ((textN b 12).take i))), (7, .string (strB (textN b 12))), (8, .bool (cubeSound b)), (9, .int .i64 (i : Nat))]) (fun i => .blk b1 (.cells (encCube b).toArray 29) :: .blk b0 (.cells (encCube a).toArray 29) :: H) (fun k0 i m1 => (i + k0 = (textN a 12).length) ∧ m.le m1) ((textN a 12).length) 0 ⟨rfl, (congrArg (fun z => some (Value.bool z)) (by simp [zipAll])), rfl, rfl, rfl, trivial⟩ rfl ⟨(by omega), hm⟩ ?_
  clear hm
  rintro k0 i m1 ⟨hi0, hm⟩
  refine c_seq (fun K5 hK5 => ?_)
  refine c_seq (fun K6 hK6 => ?_)
  refine c_region ?_
  refine r_y rfl rfl (y_move rfl) ?_
  refine r_y rfl rfl (y_move rfl) ?_
  refine r_y rfl rfl (y_lenstr Try.underlying9 rfl) ?_
  refine r_y rfl rfl (y_iop rfl rfl rfl) ?_
  refine r_nil ?_
  refine hK6 _ _ _ ?_
  clear hK6 K6
  refine c_cond rfl (fun hL => ?_) (fun hL => ?_)
  ·
    have hlt : i < (textN a 12).length := by simp at hL; omega
    obtain ⟨x, hx⟩ := get_of_lt (l := (textN a 12)) (k := i) hlt
    obtain ⟨y, hy⟩ := get_of_lt (l := (textN b 12)) (k := i) (by rw [← textN_len2 a b]; exact hlt)
    have hst := zipAll_step (F := withinF) hx hy
    refine c_skip ?_
    refine hK5 _ _ _ ?_
    clear hK5 K5
    refine c_seq (fun K7 hK7 => ?_)
    refine c_block ?_
    refine c_draw ([]) (by kernel_rfl) (fun hg => ?_)
    refine g_y (i := 0) (listed' := #[true, false, false, false, false, false, false, false, false, false, false, false, false, false, false, false, false]) rfl (by kernel_rfl) (by kernel_rfl) (by kernel_rfl) (by kernel_rfl) rfl rfl hg alln (fun m' H' hm' hX' => y_move rfl) ?_
    refine g_y (i := 1) (listed' := #[true, true, false, false, false, false, false, false, false, false, false, false, false, false, false, false, false]) rfl (by kernel_rfl) (by kernel_rfl) (by kernel_rfl) (by kernel_rfl) rfl rfl hg alln (fun m' H' hm' hX' => y_move rfl) ?_
    refine g_split (j := 1) rfl (fun hA => ?_) (fun hA => ?_)
    ·
      refine g_yg (i := 2) (listed' := #[true, true, true, false, false, false, false, false, false, false, false, false, false, false, false, false, false]) rfl (by kernel_rfl) (by kernel_rfl) (by kernel_rfl) (by kernel_rfl) rfl rfl hA rfl hg alln (fun m' H' hm' hX' => y_move rfl) ?_
      refine g_yg (i := 3) (listed' := #[true, true, true, true, false, false, false, false, false, false, false, false, false, false, false, false, false]) rfl (by kernel_rfl) (by kernel_rfl) (by kernel_rfl) (by kernel_rfl) rfl rfl hA rfl hg alln (fun m' H' hm' hX' => y_move rfl) ?_
      refine g_yg (i := 4) (listed' := #[true, true, true, true, true, false, false, false, false, false, false, false, false, false, false, false, false]) rfl (by kernel_rfl) (by kernel_rfl) (by kernel_rfl) (by kernel_rfl) rfl rfl hA rfl hg alln (fun m' H' hm' hX' => y_index_strB rfl rfl Try.underlying9 hy) ?_
      refine g_yg (i := 5) (listed' := #[true, true, true, true, true, true, false, false, false, false, false, false, false, false, false, false, false]) rfl (by kernel_rfl) (by kernel_rfl) (by kernel_rfl) (by kernel_rfl) rfl rfl hA rfl hg alln (fun m' H' hm' hX' => y_iop rfl rfl rfl) ?_
      refine g_yg (i := 6) (listed' := #[true, true, true, true, true, true, true, false, false, false, false, false, false, false, false, false, false]) rfl (by kernel_rfl) (by kernel_rfl) (by kernel_rfl) (by kernel_rfl) rfl rfl hA rfl hg alln (fun m' H' hm' hX' => y_move rfl) ?_
      refine g_split (j := 6) rfl (fun hX => ?_) (fun hX => ?_)
      ·
        refine g_no (i := 7) (listed' := #[true, true, true, true, true, true, true, true, false, false, false, false, false, false, false, false, false]) rfl (by kernel_rfl) (by kernel_rfl) (by kernel_rfl) (by kernel_rfl) rfl rfl hX rfl hg alln ?_
        refine g_no (i := 8) (listed' := #[true, true, true, true, true, true, true, true, true, false, false, false, false, false, false, false, false]) rfl (by kernel_rfl) (by kernel_rfl) (by kernel_rfl) (by kernel_rfl) rfl rfl hX rfl hg alln ?_
        refine g_no (i := 9) (listed' := #[true, true, true, true, true, true, true, true, true, true, false, false, false, false, false, false, false]) rfl (by kernel_rfl) (by kernel_rfl) (by kernel_rfl) (by kernel_rfl) rfl rfl hX rfl hg alln ?_
        refine g_no (i := 10) (listed' := #[true, true, true, true, true, true, true, true, true, true, true, false, false, false, false, false, false]) rfl (by kernel_rfl) (by kernel_rfl) (by kernel_rfl) (by kernel_rfl) rfl rfl hX rfl hg alln ?_
        refine g_no (i := 11) (listed' := #[true, true, true, true, true, true, true, true, true, true, true, true, false, false, false, false, false]) rfl (by kernel_rfl) (by kernel_rfl) (by kernel_rfl) (by kernel_rfl) rfl rfl hX rfl hg alln ?_
        refine g_no (i := 12) (listed' := #[true, true, true, true, true, true, true, true, true, true, true, true, true, false, false, false, false]) rfl (by kernel_rfl) (by kernel_rfl) (by kernel_rfl) (by kernel_rfl) rfl rfl hX rfl hg alln ?_
        refine g_no (i := 13) (listed' := #[true, true, true, true, true, true, true, true, true, true, true, true, true, true, false, false, false]) rfl (by kernel_rfl) (by kernel_rfl) (by kernel_rfl) (by kernel_rfl) rfl rfl hX rfl hg alln ?_
        refine g_yg (i := 14) (listed' := #[true, true, true, true, true, true, true, true, true, true, true, true, true, true, true, false, false]) rfl (by kernel_rfl) (by kernel_rfl) (by kernel_rfl) (by kernel_rfl) rfl rfl hA rfl hg alln (fun m' H' hm' hX' => y_pickt rfl hX rfl) ?_
        refine g_y (i := 15) (listed' := #[true, true, true, true, true, true, true, true, true, true, true, true, true, true, true, true, false]) rfl (by kernel_rfl) (by kernel_rfl) (by kernel_rfl) (by kernel_rfl) rfl rfl hg alln (fun m' H' hm' hX' => y_pickt rfl hA rfl) ?_
        refine g_y (i := 16) (listed' := #[true, true, true, true, true, true, true, true, true, true, true, true, true, true, true, true, true]) rfl (by kernel_rfl) (by kernel_rfl) (by kernel_rfl) (by kernel_rfl) rfl rfl hg alln (fun m' H' hm' hX' => y_assign rfl) ?_
        refine g_done (by kernel_rfl) ?_
        clear hg
        refine hK7 _ _ _ ?_
        clear hK7 K7
        refine c_region ?_
        refine r_y rfl rfl (y_move rfl) ?_
        first | refine r_y rfl rfl (y_inc rfl (by omega)) ?_ | refine r_y rfl rfl (y_iop rfl rfl rfl) ?_
        refine r_y rfl rfl (y_assign rfl) ?_
        refine r_nil ?_
        exact ⟨k0 - 1, (i + 1), by omega, ⟨rfl, (congrArg (fun z => some (Value.bool z)) (by first | (rw [hst, ← Bool.and_assoc, hA, withinF_i, hX]; rfl) | (rw [hst, ← Bool.and_assoc, hA]; rfl))), rfl, rfl, rfl, trivial⟩, rfl, (by omega), hm⟩
      ·
        refine g_yg (i := 7) (listed' := #[true, true, true, true, true, true, true, true, false, false, false, false, false, false, false, false, false]) rfl (by kernel_rfl) (by kernel_rfl) (by kernel_rfl) (by kernel_rfl) rfl rfl hX rfl hg alln (fun m' H' hm' hX' => y_move rfl) ?_
        refine g_yg (i := 8) (listed' := #[true, true, true, true, true, true, true, true, true, false, false, false, false, false, false, false, false]) rfl (by kernel_rfl) (by kernel_rfl) (by kernel_rfl) (by kernel_rfl) rfl rfl hX rfl hg alln (fun m' H' hm' hX' => y_move rfl) ?_
        refine g_yg (i := 9) (listed' := #[true, true, true, true, true, true, true, true, true, true, false, false, false, false, false, false, false]) rfl (by kernel_rfl) (by kernel_rfl) (by kernel_rfl) (by kernel_rfl) rfl rfl hX rfl hg alln (fun m' H' hm' hX' => y_index_strB rfl rfl Try.underlying9 hx) ?_
        refine g_yg (i := 10) (listed' := #[true, true, true, true, true, true, true, true, true, true, true, false, false, false, false, false, false]) rfl (by kernel_rfl) (by kernel_rfl) (by kernel_rfl) (by kernel_rfl) rfl rfl hX rfl hg alln (fun m' H' hm' hX' => y_move rfl) ?_
        refine g_yg (i := 11) (listed' := #[true, true, true, true, true, true, true, true, true, true, true, true, false, false, false, false, false]) rfl (by kernel_rfl) (by kernel_rfl) (by kernel_rfl) (by kernel_rfl) rfl rfl hX rfl hg alln (fun m' H' hm' hX' => y_move rfl) ?_
        refine g_yg (i := 12) (listed' := #[true, true, true, true, true, true, true, true, true, true, true, true, true, false, false, false, false]) rfl (by kernel_rfl) (by kernel_rfl) (by kernel_rfl) (by kernel_rfl) rfl rfl hX rfl hg alln (fun m' H' hm' hX' => y_index_strB rfl rfl Try.underlying9 hy) ?_
        refine g_yg (i := 13) (listed' := #[true, true, true, true, true, true, true, true, true, true, true, true, true, true, false, false, false]) rfl (by kernel_rfl) (by kernel_rfl) (by kernel_rfl) (by kernel_rfl) rfl rfl hX rfl hg alln (fun m' H' hm' hX' => y_iop rfl rfl rfl) ?_
        refine g_yg (i := 14) (listed' := #[true, true, true, true, true, true, true, true, true, true, true, true, true, true, true, false, false]) rfl (by kernel_rfl) (by kernel_rfl) (by kernel_rfl) (by kernel_rfl) rfl rfl hA rfl hg alln (fun m' H' hm' hX' => y_pickf rfl hX rfl) ?_
        refine g_y (i := 15) (listed' := #[true, true, true, true, true, true, true, true, true, true, true, true, true, true, true, true, false]) rfl (by kernel_rfl) (by kernel_rfl) (by kernel_rfl) (by kernel_rfl) rfl rfl hg alln (fun m' H' hm' hX' => y_pickt rfl hA rfl) ?_
        refine g_y (i := 16) (listed' := #[true, true, true, true, true, true, true, true, true, true, true, true, true, true, true, true, true]) rfl (by kernel_rfl) (by kernel_rfl) (by kernel_rfl) (by kernel_rfl) rfl rfl hg alln (fun m' H' hm' hX' => y_assign rfl) ?_
        refine g_done (by kernel_rfl) ?_
        clear hg
        refine hK7 _ _ _ ?_
        clear hK7 K7
        refine c_region ?_
        refine r_y rfl rfl (y_move rfl) ?_
        first | refine r_y rfl rfl (y_inc rfl (by omega)) ?_ | refine r_y rfl rfl (y_iop rfl rfl rfl) ?_
        refine r_y rfl rfl (y_assign rfl) ?_
        refine r_nil ?_
        exact ⟨k0 - 1, (i + 1), by omega, ⟨rfl, (congrArg (fun z => some (Value.bool z)) (by first | (rw [hst, ← Bool.and_assoc, hA, withinF_i, hX]; rfl) | (rw [hst, ← Bool.and_assoc, hA]; rfl))), rfl, rfl, rfl, trivial⟩, rfl, (by omega), hm⟩
    ·
      refine g_no (i := 2) (listed' := #[true, true, true, false, false, false, false, false, false, false, false, false, false, false, false, false, false]) rfl (by kernel_rfl) (by kernel_rfl) (by kernel_rfl) (by kernel_rfl) rfl rfl hA rfl hg alln ?_
      refine g_no (i := 3) (listed' := #[true, true, true, true, false, false, false, false, false, false, false, false, false, false, false, false, false]) rfl (by kernel_rfl) (by kernel_rfl) (by kernel_rfl) (by kernel_rfl) rfl rfl hA rfl hg alln ?_
      refine g_no (i := 4) (listed' := #[true, true, true, true, true, false, false, false, false, false, false, false, false, false, false, false, false]) rfl (by kernel_rfl) (by kernel_rfl) (by kernel_rfl) (by kernel_rfl) rfl rfl hA rfl hg alln ?_
      refine g_no (i := 5) (listed' := #[true, true, true, true, true, true, false, false, false, false, false, false, false, false, false, false, false]) rfl (by kernel_rfl) (by kernel_rfl) (by kernel_rfl) (by kernel_rfl) rfl rfl hA rfl hg alln ?_
      refine g_no (i := 6) (listed' := #[true, true, true, true, true, true, true, false, false, false, false, false, false, false, false, false, false]) rfl (by kernel_rfl) (by kernel_rfl) (by kernel_rfl) (by kernel_rfl) rfl rfl hA rfl hg alln ?_
      refine g_nou (i := 7) (listed' := #[true, true, true, true, true, true, true, true, false, false, false, false, false, false, false, false, false]) rfl (by kernel_rfl) (by kernel_rfl) (by kernel_rfl) (by kernel_rfl) rfl rfl rfl hg alln ?_
      refine g_nou (i := 8) (listed' := #[true, true, true, true, true, true, true, true, true, false, false, false, false, false, false, false, false]) rfl (by kernel_rfl) (by kernel_rfl) (by kernel_rfl) (by kernel_rfl) rfl rfl rfl hg alln ?_
      refine g_nou (i := 9) (listed' := #[true, true, true, true, true, true, true, true, true, true, false, false, false, false, false, false, false]) rfl (by kernel_rfl) (by kernel_rfl) (by kernel_rfl) (by kernel_rfl) rfl rfl rfl hg alln ?_
      refine g_nou (i := 10) (listed' := #[true, true, true, true, true, true, true, true, true, true, true, false, false, false, false, false, false]) rfl (by kernel_rfl) (by kernel_rfl) (by kernel_rfl) (by kernel_rfl) rfl rfl rfl hg alln ?_
      refine g_nou (i := 11) (listed' := #[true, true, true, true, true, true, true, true, true, true, true, true, false, false, false, false, false]) rfl (by kernel_rfl) (by kernel_rfl) (by kernel_rfl) (by kernel_rfl) rfl rfl rfl hg alln ?_
      refine g_nou (i := 12) (listed' := #[true, true, true, true, true, true, true, true, true, true, true, true, true, false, false, false, false]) rfl (by kernel_rfl) (by kernel_rfl) (by kernel_rfl) (by kernel_rfl) rfl rfl rfl hg alln ?_
      refine g_nou (i := 13) (listed' := #[true, true, true, true, true, true, true, true, true, true, true, true, true, true, false, false, false]) rfl (by kernel_rfl) (by kernel_rfl) (by kernel_rfl) (by kernel_rfl) rfl rfl rfl hg alln ?_
      refine g_no (i := 14) (listed' := #[true, true, true, true, true, true, true, true, true, true, true, true, true, true, true, false, false]) rfl (by kernel_rfl) (by kernel_rfl) (by kernel_rfl) (by kernel_rfl) rfl rfl hA rfl hg alln ?_
      refine g_y (i := 15) (listed' := #[true, true, true, true, true, true, true, true, true, true, true, true, true, true, true, true, false]) rfl (by kernel_rfl) (by kernel_rfl) (by kernel_rfl) (by kernel_rfl) rfl rfl hg alln (fun m' H' hm' hX' => y_pickf rfl hA rfl) ?_
      refine g_y (i := 16) (listed' := #[true, true, true, true, true, true, true, true, true, true, true, true, true, true, true, true, true]) rfl (by kernel_rfl) (by kernel_rfl) (by kernel_rfl) (by kernel_rfl) rfl rfl hg alln (fun m' H' hm' hX' => y_assign rfl) ?_
      refine g_done (by kernel_rfl) ?_
      clear hg
      refine hK7 _ _ _ ?_
      clear hK7 K7
      refine c_region ?_
      refine r_y rfl rfl (y_move rfl) ?_
      first | refine r_y rfl rfl (y_inc rfl (by omega)) ?_ | refine r_y rfl rfl (y_iop rfl rfl rfl) ?_
      refine r_y rfl rfl (y_assign rfl) ?_
      refine r_nil ?_
      exact ⟨k0 - 1, (i + 1), by omega, ⟨rfl, (congrArg (fun z => some (Value.bool z)) (by first | (rw [hst, ← Bool.and_assoc, hA, withinF_i, hX]; rfl) | (rw [hst, ← Bool.and_assoc, hA]; rfl))), rfl, rfl, rfl, trivial⟩, rfl, (by omega), hm⟩
  ·
    refine c_exit ?_
    refine hK3 _ _ _ ?_
    clear hK5 K5 hK3 K3
    refine c_seq (fun K8 hK8 => ?_)
    refine c_region ?_
    refine r_y rfl rfl (y_move rfl) ?_
    refine r_y rfl rfl (y_move rfl) ?_
    refine r_split (j := 1) rfl (fun hE => ?_) (fun hE => ?_)
    ·
      refine r_yg rfl hE rfl (y_move rfl) ?_
      refine r_y rfl rfl (y_pickt rfl hE rfl) ?_
      refine r_y rfl rfl (y_assign rfl) ?_
      refine r_nil ?_
      refine hK8 _ _ _ ?_
      clear hK8 K8
      refine c_ret ?_
      refine e_ret 2 hm (res_tmps rfl) ?_
      have hil : i = (textN a 12).length := by simp at hL; omega
      rw [within_text]
      rw [hil, List.take_of_length_le (Nat.le_refl _), List.take_of_length_le (by rw [textN_len2 b a]; exact Nat.le_refl _)] at hE
      refine ⟨congrArg Value.bool ?_, rfl⟩
      first | (rw [hE]; rfl) | (rw [hE]; cases cubeSound b <;> rfl)
    ·
      refine r_no' rfl rfl hE ?_
      refine r_y rfl rfl (y_pickf rfl hE rfl) ?_
      refine r_y rfl rfl (y_assign rfl) ?_
      refine r_nil ?_
      refine hK8 _ _ _ ?_
      clear hK8 K8
      refine c_ret ?_
      refine e_ret 2 hm (res_tmps rfl) ?_
      have hil : i = (textN a 12).length := by simp at hL; omega
      rw [within_text]
      rw [hil, List.take_of_length_le (Nat.le_refl _), List.take_of_length_le (by rw [textN_len2 b a]; exact Nat.le_refl _)] at hE
      refine ⟨congrArg Value.bool ?_, rfl⟩
      first | (rw [hE]; rfl) | (rw [hE]; cases cubeSound b <;> rfl)
set_option maxRecDepth 100000 in
theorem rFrom_w (l : List UInt8) (m : Snap) (H : Hp) (hl : l.length = tlen 12) : Fn Try.prog 99 [.string (strB l)] m H (fun v _ H' => ∃ c : Cube, v = .agg (encCube c).toArray ∧ H' = H) := by
  have hm : m.le m := Snap.le.refl m
  refine fn_end Try.func99 rfl rfl rfl ?_
  refine c_seq (fun K0 hK0 => ?_)
  refine c_region ?_
  refine r_s rfl ?_
  refine s_alloc rfl tz29 (fun b0 => ?_)
  refine r_nil ?_
  refine hK0 _ _ _ ?_
  clear hK0 K0
  refine c_seq (fun K1 hK1 => ?_)
  refine c_region ?_
  refine r_s rfl ?_
  refine s_alloc rfl tz29 (fun b1 => ?_)
  refine r_nil ?_
  refine hK1 _ _ _ ?_
  clear hK1 K1
  refine c_seq (fun K2 hK2 => ?_)
  refine c_region ?_
  refine r_y rfl rfl (y_assign rfl) ?_
  refine r_nil ?_
  refine hK2 _ _ _ ?_
  clear hK2 K2
  refine c_seq (fun K3 hK3 => ?_)
  refine c_seq (fun K4 hK4 => ?_)
  refine c_region ?_
  refine r_y rfl rfl (y_assign rfl) ?_
  refine r_nil ?_
  refine hK4 _ _ _ ?_
  clear hK4 K4
  refine c_block ?_
  refine c_loopx (α := Nat × Cube) (fun vv => match vv with | (i, c) => [(0, .string (strB l)), (2, .pointer (some ⟨b0, 0, none⟩)), (3, .pointer (some ⟨b1, 0, none⟩)), (4, .int .i64 (tlen i : Nat)), (5, .int .i64 (i : Nat))]) (fun vv => match vv with | (i, c) => .blk b1 (.cells (encCube c).toArray 29) :: .blk b0 (.cells (encCube zCube).toArray 29) :: H) (fun k0 vv m1 => match vv with | (i, c) => (i + k0 = 12) ∧ m.le m1) (12) (0, zCube) ⟨rfl, rfl, rfl, rfl, rfl, trivial⟩ rfl ⟨(by omega), hm⟩ ?_
  clear hm
  rintro k0 ⟨i, c⟩ m1 ⟨hi0, hm⟩
  refine c_seq (fun K5 hK5 => ?_)
  refine c_seq (fun K6 hK6 => ?_)
  refine c_region ?_
  refine r_y rfl rfl (y_move rfl) ?_
  refine r_y rfl rfl (y_iop rfl rfl rfl) ?_
  refine r_nil ?_
  refine hK6 _ _ _ ?_
  clear hK6 K6
  refine c_cond rfl (fun hL => ?_) (fun hL => ?_)
  ·
    have hlt : i < 12 := by simp at hL; omega
    refine c_skip ?_
    refine hK5 _ _ _ ?_
    clear hK5 K5
    refine c_seq (fun K7 hK7 => ?_)
    refine c_block ?_
    refine c_seq (fun K8 hK8 => ?_)
    refine c_region ?_
    refine r_y rfl rfl (y_assign rfl) ?_
    refine r_nil ?_
    refine hK8 _ _ _ ?_
    clear hK8 K8
    refine c_block ?_
    have hsz48 := hsz_le (i : Int)
    have htl2 := tlen_le
    have htl3 : tlen i ≤ 576 := by have := textN_len zCube i; rw [textN_tlen] at this; omega
    refine c_loopx (α := Nat × Cube) (fun vv => match vv with | (j, c2) => [(0, .string (strB l)), (2, .pointer (some ⟨b0, 0, none⟩)), (3, .pointer (some ⟨b1, 0, none⟩)), (4, .int .i64 (tlen i + j : Nat)), (5, .int .i64 (i : Nat)), (6, .int .i64 (j : Nat))]) (fun vv => match vv with | (j, c2) => .blk b1 (.cells (encCube c2).toArray 29) :: .blk b0 (.cells (encCube zCube).toArray 29) :: H) (fun k1 vv m1 => match vv with | (j, c2) => (j + k1 = hsz (i : Int)) ∧ m.le m1) (hsz (i : Int)) (0, c) ⟨rfl, rfl, rfl, rfl, rfl, rfl, trivial⟩ rfl ⟨(by omega), hm⟩ ?_
    clear hm
    rintro k1 ⟨j, c2⟩ m1 ⟨hi1, hm⟩
    refine c_seq (fun K9 hK9 => ?_)
    refine c_seq (fun K10 hK10 => ?_)
    refine c_region ?_
    refine r_y rfl rfl (y_move rfl) ?_
    refine r_y rfl rfl (y_move rfl) ?_
    refine r_s rfl ?_
    refine s_call0 rfl Try.call117 rfl (rSize_w _ _ _) ?_
    rintro _ m2 _ hm2 ⟨rfl, rfl⟩
    replace hm := hm.trans hm2
    clear hm2
    refine r_y rfl rfl (y_iop rfl rfl rfl) ?_
    refine r_nil ?_
    refine hK10 _ _ _ ?_
    clear hK10 K10
    refine c_cond rfl (fun hJ => ?_) (fun hJ => ?_)
    ·
      have hjl : j < hsz (i : Int) := by simp at hJ; omega
      obtain ⟨y, hy⟩ := get_of_lt (l := l) (k := tlen i + j) (by rw [hl]; exact tlen_lt hlt hjl)
      refine c_skip ?_
      refine hK9 _ _ _ ?_
      clear hK9 K9
      refine c_seq (fun K11 hK11 => ?_)
      refine c_block ?_
      refine c_seq (fun K12 hK12 => ?_)
      refine c_region ?_
      refine r_y rfl rfl (y_move rfl) ?_
      refine r_y rfl rfl (y_move rfl) ?_
      refine r_y rfl rfl (y_fieldAddr rfl At.lit fo29_0 rfl) ?_
      refine r_y rfl rfl (y_indexAddr_arr rfl rfl ta27 hlt At.lit) ?_
      refine r_y rfl rfl (y_load_s rfl ts25 (RdS.blk (i := 0) rfl (cget_value _ _ hlt))) ?_
      refine r_y rfl rfl (y_wany rfl (opv_wc 2#64) rfl) ?_
      refine r_y rfl rfl (y_fieldAddr rfl At.lit fo29_0 rfl) ?_
      refine r_y rfl rfl (y_indexAddr_arr rfl rfl ta27 hlt At.lit) ?_
      refine r_s rfl ?_
      refine s_store rfl rfl rfl ts25 rfl rfl (by simp [Value.oneCell', wv]) (i := 0) rfl (cput_value _ _ _ hlt) ?_
      refine r_nil ?_
      refine hK12 _ _ _ ?_
      clear hK12 K12
      refine c_seq (fun K13 hK13 => ?_)
      refine c_region ?_
      refine r_y rfl rfl (y_move rfl) ?_
      refine r_y rfl rfl (y_move rfl) ?_
      refine r_y rfl rfl (y_fieldAddr rfl At.lit fo29_1 rfl) ?_
      refine r_y rfl rfl (y_indexAddr_arr rfl rfl ta27 hlt At.lit) ?_
      refine r_y rfl rfl (y_load_s rfl ts25 (RdS.blk (i := 0) rfl (cget_care _ _ hlt))) ?_
      refine r_y rfl rfl (y_wany rfl (opv_wc 2#64) rfl) ?_
      refine r_y rfl rfl (y_fieldAddr rfl At.lit fo29_1 rfl) ?_
      refine r_y rfl rfl (y_indexAddr_arr rfl rfl ta27 hlt At.lit) ?_
      refine r_s rfl ?_
      refine s_store rfl rfl rfl ts25 rfl rfl (by simp [Value.oneCell', wv]) (i := 0) rfl (cput_care _ _ _ hlt) ?_
      refine r_nil ?_
      refine hK13 _ _ _ ?_
      clear hK13 K13
      refine c_seq (fun K14 hK14 => ?_)
      refine c_seq (fun K15 hK15 => ?_)
      refine c_region ?_
      refine r_y rfl rfl (y_move rfl) ?_
      refine r_y rfl rfl (y_move rfl) ?_
      refine r_y rfl rfl (y_index_strB rfl rfl Try.underlying9 hy) ?_
      refine r_y rfl rfl (y_iop rfl rfl rfl) ?_
      refine r_nil ?_
      refine hK15 _ _ _ ?_
      clear hK15 K15
      refine c_cond rfl (fun h2 => ?_) (fun h2 => ?_)
      ·
        refine c_region ?_
        refine r_y rfl rfl (y_move rfl) ?_
        refine r_y rfl rfl (y_fieldAddr rfl At.lit fo29_1 rfl) ?_
        refine r_y rfl rfl (y_indexAddr_arr rfl rfl ta27 hlt At.lit) ?_
        refine r_y rfl rfl (y_load_s rfl ts25 (RdS.blk (i := 0) rfl (cget_care _ _ hlt))) ?_
        refine r_y rfl rfl (y_wany rfl (opv_wc 1#64) rfl) ?_
        refine r_y rfl rfl (y_fieldAddr rfl At.lit fo29_1 rfl) ?_
        refine r_y rfl rfl (y_indexAddr_arr rfl rfl ta27 hlt At.lit) ?_
        refine r_s rfl ?_
        refine s_store rfl rfl rfl ts25 rfl rfl (by simp [Value.oneCell', wv]) (i := 0) rfl (cput_care _ _ _ hlt) ?_
        refine r_nil ?_
        refine hK14 _ _ _ ?_
        clear hK14 K14
        refine c_seq (fun K16 hK16 => ?_)
        refine c_seq (fun K17 hK17 => ?_)
        refine c_region ?_
        refine r_y rfl rfl (y_move rfl) ?_
        refine r_y rfl rfl (y_move rfl) ?_
        refine r_y rfl rfl (y_index_strB rfl rfl Try.underlying9 hy) ?_
        refine r_y rfl rfl (y_iop rfl rfl rfl) ?_
        refine r_nil ?_
        refine hK17 _ _ _ ?_
        clear hK17 K17
        refine c_cond rfl (fun h3 => ?_) (fun h3 => ?_)
        ·
          refine c_region ?_
          refine r_y rfl rfl (y_move rfl) ?_
          refine r_y rfl rfl (y_fieldAddr rfl At.lit fo29_0 rfl) ?_
          refine r_y rfl rfl (y_indexAddr_arr rfl rfl ta27 hlt At.lit) ?_
          refine r_y rfl rfl (y_load_s rfl ts25 (RdS.blk (i := 0) rfl (cget_value _ _ hlt))) ?_
          refine r_y rfl rfl (y_wany rfl (opv_wc 1#64) rfl) ?_
          refine r_y rfl rfl (y_fieldAddr rfl At.lit fo29_0 rfl) ?_
          refine r_y rfl rfl (y_indexAddr_arr rfl rfl ta27 hlt At.lit) ?_
          refine r_s rfl ?_
          refine s_store rfl rfl rfl ts25 rfl rfl (by simp [Value.oneCell', wv]) (i := 0) rfl (cput_value _ _ _ hlt) ?_
          refine r_nil ?_
          refine hK16 _ _ _ ?_
          clear hK16 K16
          refine c_region ?_
          refine r_y rfl rfl (y_move rfl) ?_
          first | refine r_y rfl rfl (y_inc rfl (by omega)) ?_ | refine r_y rfl rfl (y_iop rfl rfl rfl) ?_
          refine r_y rfl rfl (y_assign rfl) ?_
          refine r_nil ?_
          refine hK11 _ _ _ ?_
          clear hK11 K11
          refine c_region ?_
          refine r_y rfl rfl (y_move rfl) ?_
          first | refine r_y rfl rfl (y_inc rfl (by omega)) ?_ | refine r_y rfl rfl (y_iop rfl rfl rfl) ?_
          refine r_y rfl rfl (y_assign rfl) ?_
          refine r_nil ?_
          exact ⟨k1 - 1, (j + 1, _), by omega, ⟨rfl, rfl, rfl, rfl, rfl, rfl, trivial⟩, rfl, (by omega), hm⟩
        ·
          refine c_skip ?_
          refine hK16 _ _ _ ?_
          clear hK16 K16
          refine c_region ?_
          refine r_y rfl rfl (y_move rfl) ?_
          first | refine r_y rfl rfl (y_inc rfl (by omega)) ?_ | refine r_y rfl rfl (y_iop rfl rfl rfl) ?_
          refine r_y rfl rfl (y_assign rfl) ?_
          refine r_nil ?_
          refine hK11 _ _ _ ?_
          clear hK11 K11
          refine c_region ?_
          refine r_y rfl rfl (y_move rfl) ?_
          first | refine r_y rfl rfl (y_inc rfl (by omega)) ?_ | refine r_y rfl rfl (y_iop rfl rfl rfl) ?_
          refine r_y rfl rfl (y_assign rfl) ?_
          refine r_nil ?_
          exact ⟨k1 - 1, (j + 1, _), by omega, ⟨rfl, rfl, rfl, rfl, rfl, rfl, trivial⟩, rfl, (by omega), hm⟩
      ·
        refine c_skip ?_
        refine hK14 _ _ _ ?_
        clear hK14 K14
        refine c_seq (fun K18 hK18 => ?_)
        refine c_seq (fun K19 hK19 => ?_)
        refine c_region ?_
        refine r_y rfl rfl (y_move rfl) ?_
        refine r_y rfl rfl (y_move rfl) ?_
        refine r_y rfl rfl (y_index_strB rfl rfl Try.underlying9 hy) ?_
        refine r_y rfl rfl (y_iop rfl rfl rfl) ?_
        refine r_nil ?_
        refine hK19 _ _ _ ?_
        clear hK19 K19
        refine c_cond rfl (fun h4 => ?_) (fun h4 => ?_)
        ·
          refine c_region ?_
          refine r_y rfl rfl (y_move rfl) ?_
          refine r_y rfl rfl (y_fieldAddr rfl At.lit fo29_0 rfl) ?_
          refine r_y rfl rfl (y_indexAddr_arr rfl rfl ta27 hlt At.lit) ?_
          refine r_y rfl rfl (y_load_s rfl ts25 (RdS.blk (i := 0) rfl (cget_value _ _ hlt))) ?_
          refine r_y rfl rfl (y_wany rfl (opv_wc 1#64) rfl) ?_
          refine r_y rfl rfl (y_fieldAddr rfl At.lit fo29_0 rfl) ?_
          refine r_y rfl rfl (y_indexAddr_arr rfl rfl ta27 hlt At.lit) ?_
          refine r_s rfl ?_
          refine s_store rfl rfl rfl ts25 rfl rfl (by simp [Value.oneCell', wv]) (i := 0) rfl (cput_value _ _ _ hlt) ?_
          refine r_nil ?_
          refine hK18 _ _ _ ?_
          clear hK18 K18
          refine c_region ?_
          refine r_y rfl rfl (y_move rfl) ?_
          first | refine r_y rfl rfl (y_inc rfl (by omega)) ?_ | refine r_y rfl rfl (y_iop rfl rfl rfl) ?_
          refine r_y rfl rfl (y_assign rfl) ?_
          refine r_nil ?_
          refine hK11 _ _ _ ?_
          clear hK11 K11
          refine c_region ?_
          refine r_y rfl rfl (y_move rfl) ?_
          first | refine r_y rfl rfl (y_inc rfl (by omega)) ?_ | refine r_y rfl rfl (y_iop rfl rfl rfl) ?_
          refine r_y rfl rfl (y_assign rfl) ?_
          refine r_nil ?_
          exact ⟨k1 - 1, (j + 1, _), by omega, ⟨rfl, rfl, rfl, rfl, rfl, rfl, trivial⟩, rfl, (by omega), hm⟩
        ·
          refine c_skip ?_
          refine hK18 _ _ _ ?_
          clear hK18 K18
          refine c_region ?_
          refine r_y rfl rfl (y_move rfl) ?_
          first | refine r_y rfl rfl (y_inc rfl (by omega)) ?_ | refine r_y rfl rfl (y_iop rfl rfl rfl) ?_
          refine r_y rfl rfl (y_assign rfl) ?_
          refine r_nil ?_
          refine hK11 _ _ _ ?_
          clear hK11 K11
          refine c_region ?_
          refine r_y rfl rfl (y_move rfl) ?_
          first | refine r_y rfl rfl (y_inc rfl (by omega)) ?_ | refine r_y rfl rfl (y_iop rfl rfl rfl) ?_
          refine r_y rfl rfl (y_assign rfl) ?_
          refine r_nil ?_
          exact ⟨k1 - 1, (j + 1, _), by omega, ⟨rfl, rfl, rfl, rfl, rfl, rfl, trivial⟩, rfl, (by omega), hm⟩
    ·
      obtain rfl : j = hsz (i : Int) := by simp at hJ; omega
      refine c_exit ?_
      refine hK7 _ _ _ ?_
      clear hK9 K9 hK7 K7
      refine c_region ?_
      refine r_y rfl rfl (y_move rfl) ?_
      first | refine r_y rfl rfl (y_inc rfl (by omega)) ?_ | refine r_y rfl rfl (y_iop rfl rfl rfl) ?_
      refine r_y rfl rfl (y_assign rfl) ?_
      refine r_nil ?_
      exact ⟨k0 - 1, (i + 1, c2), by omega, ⟨rfl, rfl, rfl, rfl, rfl, trivial⟩, rfl, (by omega), hm⟩
  ·
    obtain rfl : i = 12 := by simp at hL; omega
    refine c_exit ?_
    refine hK3 _ _ _ ?_
    clear hK5 K5 hK3 K3
    refine c_seq (fun K20 hK20 => ?_)
    refine c_region ?_
    refine r_y rfl rfl (y_load_a rfl ts29 (RdA.blk (i := 0) rfl rfl)) ?_
    refine r_s rfl ?_
    refine s_store rfl rfl rfl ts29 rfl rfl (by simp [Value.oneCell', wv, Sl.v]) (i := 1) rfl rfl ?_
    refine r_nil ?_
    refine hK20 _ _ _ ?_
    clear hK20 K20
    refine c_ret ?_
    refine e_ret 2 hm (res_cell_a rfl ts29 (RdA.blk (i := 1) rfl rfl)) ?_
    exact ⟨c, rfl, rfl⟩
set_option maxRecDepth 100000 in
theorem rMeet_w (a b : Cube) (m : Snap) (H : Hp) : Fn Try.prog 39 [.agg (encCube a).toArray, .agg (encCube b).toArray] m H (fun v _ H' => ∃ c : Cube, v = .tuple [.agg (encCube c).toArray, .bool (cubeMeetOk a b)].toArray ∧ H' = H) := by
  have hm : m.le m := Snap.le.refl m
  refine fn_end Try.func39 rfl rfl rfl ?_
  refine c_seq (fun K0 hK0 => ?_)
  refine c_region ?_
  refine r_s rfl ?_
  refine s_box_a rfl rfl (fun b0 => ?_)
  refine r_s rfl ?_
  refine s_box_a rfl rfl (fun b1 => ?_)
  refine r_s rfl ?_
  refine s_alloc rfl tz29 (fun b2 => ?_)
  refine r_y rfl rfl (y_assign rfl) ?_
  refine r_nil ?_
  refine hK0 _ _ _ ?_
  clear hK0 K0
  refine c_seq (fun K1 hK1 => ?_)
  refine c_region ?_
  refine r_y rfl rfl (y_load_a (cs := encCube a) rfl ts29 (RdA.blk (i := 2) rfl rfl)) ?_
  refine r_s rfl ?_
  refine s_call0 rfl Try.call98 rfl (rText_w a _ _) ?_
  rintro _ m2 _ hm2 ⟨rfl, rfl⟩
  replace hm := hm.trans hm2
  clear hm2
  refine r_y rfl rfl (y_move rfl) ?_
  refine r_y rfl rfl (y_extract rfl rfl) ?_
  refine r_y rfl rfl (y_extract rfl rfl) ?_
  refine r_y rfl rfl (y_assign rfl) ?_
  refine r_y rfl rfl (y_assign rfl) ?_
  refine r_nil ?_
  refine hK1 _ _ _ ?_
  clear hK1 K1
  refine c_seq (fun K2 hK2 => ?_)
  refine c_region ?_
  refine r_y rfl rfl (y_load_a (cs := encCube b) rfl ts29 (RdA.blk (i := 1) rfl rfl)) ?_
  refine r_s rfl ?_
  refine s_call0 rfl Try.call98 rfl (rText_w b _ _) ?_
  rintro _ m2 _ hm2 ⟨rfl, rfl⟩
  replace hm := hm.trans hm2
  clear hm2
  refine r_y rfl rfl (y_move rfl) ?_
  refine r_y rfl rfl (y_extract rfl rfl) ?_
  refine r_y rfl rfl (y_extract rfl rfl) ?_
  refine r_y rfl rfl (y_assign rfl) ?_
  refine r_y rfl rfl (y_assign rfl) ?_
  refine r_nil ?_
  refine hK2 _ _ _ ?_
  clear hK2 K2
  refine c_seq (fun K3 hK3 => ?_)
  refine c_seq (fun K4 hK4 => ?_)
  refine c_region ?_
  refine r_y rfl rfl (y_move rfl) ?_
  refine r_y rfl rfl (y_not rfl) ?_
  refine r_y rfl rfl (y_move rfl) ?_
  refine r_split (j := 2) rfl (fun hA => ?_) (fun hA => ?_)
  ·
    refine r_no' rfl rfl hA ?_
    refine r_no' rfl rfl hA ?_
    refine r_y rfl rfl (y_pickt rfl hA rfl) ?_
    refine r_nil ?_
    refine hK4 _ _ _ ?_
    clear hK4 K4
    refine c_ift rfl rfl ?_
    refine c_seq (fun K5 hK5 => ?_)
    refine c_region ?_
    refine r_y rfl rfl (y_bld rfl tz29 fk29 bp29_ rfl rfl) ?_
    refine r_s rfl ?_
    refine s_store rfl rfl rfl ts29 rfl rfl (by simp [Value.oneCell', wv, Sl.v]) (i := 0) rfl rfl ?_
    refine r_y rfl rfl (y_assign rfl) ?_
    refine r_nil ?_
    refine hK5 _ _ _ ?_
    clear hK5 K5
    refine c_ret ?_
    refine e_ret 3 hm (res2 (r1_cell_a rfl ts29 (RdA.blk (i := 0) rfl rfl)) (r1_tmp rfl)) ?_
    have e : cubeMeetOk a b = false := by rw [meet_text]; first | (simp at hA; rw [hA]; rfl) | (simp at hA hB; rw [hA, hB]; rfl)
    rw [e]
    exact ⟨zCube, rfl, rfl⟩
  ·
    refine r_yg rfl hA rfl (y_move rfl) ?_
    refine r_yg rfl hA rfl (y_not rfl) ?_
    refine r_y rfl rfl (y_pickf rfl hA rfl) ?_
    refine r_nil ?_
    refine hK4 _ _ _ ?_
    clear hK4 K4
    refine c_cond rfl (fun hB => ?_) (fun hB => ?_)
    ·
      refine c_seq (fun K6 hK6 => ?_)
      refine c_region ?_
      refine r_y rfl rfl (y_bld rfl tz29 fk29 bp29_ rfl rfl) ?_
      refine r_s rfl ?_
      refine s_store rfl rfl rfl ts29 rfl rfl (by simp [Value.oneCell', wv, Sl.v]) (i := 0) rfl rfl ?_
      refine r_y rfl rfl (y_assign rfl) ?_
      refine r_nil ?_
      refine hK6 _ _ _ ?_
      clear hK6 K6
      refine c_ret ?_
      refine e_ret 3 hm (res2 (r1_cell_a rfl ts29 (RdA.blk (i := 0) rfl rfl)) (r1_tmp rfl)) ?_
      have e : cubeMeetOk a b = false := by rw [meet_text]; first | (simp at hA; rw [hA]; rfl) | (simp at hA hB; rw [hA, hB]; rfl)
      rw [e]
      exact ⟨zCube, rfl, rfl⟩
    ·
      have hab : (cubeSound a && cubeSound b) = true := by simp at hA hB; rw [hA, hB]; rfl
      refine c_skip ?_
      refine hK3 _ _ _ ?_
      clear hK3 K3
      refine c_seq (fun K7 hK7 => ?_)
      refine c_region ?_
      refine r_y rfl rfl (y_move rfl) ?_
      refine r_s rfl ?_
      refine s_strbytes rfl rfl Try.underlying9 Try.underlying22 Try.underlying5 (by rw [textN_tlen]; have := tlen_le; unfold maxLen; omega) (fun bs cap N hcap hmx hN => ?_)
      refine r_y rfl rfl (y_assign rfl) ?_
      refine r_nil ?_
      refine hK7 _ _ _ ?_
      clear hK7 K7
      refine c_seq (fun K8 hK8 => ?_)
      refine c_seq (fun K9 hK9 => ?_)
      refine c_region ?_
      refine r_y rfl rfl (y_assign rfl) ?_
      refine r_nil ?_
      refine hK9 _ _ _ ?_
      clear hK9 K9
      refine c_block ?_
      have htl := textN_len a 12
      refine c_loopx (α := Nat × List UInt8) (fun vv => match vv with | (i, l2) => [(4, .pointer (some ⟨b2, 0, none⟩)), (6, .string (strB (textN a 12))), (8, .string (strB (textN b 12))), (10, .slice (some ⟨bs, 0, none⟩) (textN a 12).length cap), (11, .int .i64 (i : Nat))]) (fun vv => match vv with | (i, l2) => sbIt bs l2 cap N :: .blk b2 (.cells (encCube zCube).toArray 29) :: .blk b1 (.cells (encCube b).toArray 29) :: .blk b0 (.cells (encCube a).toArray 29) :: H) (fun k0 vv m1 => match vv with | (i, l2) => (i + k0 = (textN a 12).length ∧ l2.length = (textN a 12).length ∧ zipAll meetF ((textN a 12).take i) ((textN b 12).take i) = true) ∧ m.le m1) ((textN a 12).length) (0, (textN a 12)) ⟨rfl, rfl, rfl, rfl, rfl, trivial⟩ rfl ⟨⟨by omega, rfl, rfl⟩, hm⟩ ?_
      clear hm
      rintro k0 ⟨i, l2⟩ m1 ⟨hi0, hm⟩
      obtain ⟨hi, hl2, hz0⟩ := hi0
      refine c_seq (fun K10 hK10 => ?_)
      refine c_seq (fun K11 hK11 => ?_)
      refine c_region ?_
      refine r_y rfl rfl (y_move rfl) ?_
      refine r_y rfl rfl (y_move rfl) ?_
      refine r_y rfl rfl (y_lenstr Try.underlying9 rfl) ?_
      refine r_y rfl rfl (y_iop rfl rfl rfl) ?_
      refine r_nil ?_
      refine hK11 _ _ _ ?_
      clear hK11 K11
      refine c_cond rfl (fun hL => ?_) (fun hL => ?_)
      ·
        have hlt : i < (textN a 12).length := by simp at hL; omega
        obtain ⟨x, hx⟩ := get_of_lt (l := (textN a 12)) (k := i) hlt
        obtain ⟨y, hy⟩ := get_of_lt (l := (textN b 12)) (k := i) (by rw [← textN_len2 a b]; exact hlt)
        have hst := zipAll_step (F := meetF) hx hy
        refine c_skip ?_
        refine hK10 _ _ _ ?_
        clear hK10 K10
        refine c_seq (fun K12 hK12 => ?_)
        refine c_block ?_
        refine c_seq (fun K13 hK13 => ?_)
        refine c_region ?_
        refine r_y rfl rfl (y_move rfl) ?_
        refine r_y rfl rfl (y_move rfl) ?_
        refine r_y rfl rfl (y_index_strB rfl rfl Try.underlying9 hx) ?_
        refine r_y rfl rfl (y_iop rfl rfl rfl) ?_
        refine r_nil ?_
        refine hK13 _ _ _ ?_
        clear hK13 K13
        refine c_cond rfl (fun hX => ?_) (fun hX => ?_)
        ·
          refine c_region ?_
          refine r_y rfl rfl (y_move rfl) ?_
          refine r_y rfl rfl (y_move rfl) ?_
          refine r_y rfl rfl (y_move rfl) ?_
          refine r_y rfl rfl (y_move rfl) ?_
          refine r_y rfl rfl (y_index_strB rfl rfl Try.underlying9 hy) ?_
          refine r_y rfl rfl (y_indexAddr_slice (k := i) rfl rfl tl22 hlt At.lit) ?_
          refine r_s rfl ?_
          refine s_storesb (k := i) rfl rfl ((Nat.zero_add _).trans (Nat.mul_one _)) rfl ts5 (i := 0) rfl (by omega) (by omega) ?_
          refine r_nil ?_
          refine hK12 _ _ _ ?_
          clear hK12 K12
          refine c_region ?_
          refine r_y rfl rfl (y_move rfl) ?_
          first | refine r_y rfl rfl (y_inc rfl (by omega)) ?_ | refine r_y rfl rfl (y_iop rfl rfl rfl) ?_
          refine r_y rfl rfl (y_assign rfl) ?_
          refine r_nil ?_
          exact ⟨k0 - 1, (i + 1, l2.set i y), by omega, ⟨rfl, rfl, rfl, rfl, rfl, trivial⟩, rfl, ⟨by omega, by first | exact hl2 | simpa using hl2, (by first | (rw [hst, hz0, meetF_i, hX]; rfl) | (rw [hst, hz0, meetF_i, hX, hY, hD]; rfl) | (rw [hst, hz0, meetF_i, hX, hY]; rfl))⟩, hm⟩
        ·
          refine c_seq (fun K14 hK14 => ?_)
          refine c_draw ([]) (by kernel_rfl) (fun hg => ?_)
          refine g_y (i := 0) (listed' := #[true, false, false, false, false, false, false, false, false, false, false, false, false]) rfl (by kernel_rfl) (by kernel_rfl) (by kernel_rfl) (by kernel_rfl) rfl rfl hg alln (fun m' H' hm' hX' => y_move rfl) ?_
          refine g_y (i := 1) (listed' := #[true, true, false, false, false, false, false, false, false, false, false, false, false]) rfl (by kernel_rfl) (by kernel_rfl) (by kernel_rfl) (by kernel_rfl) rfl rfl hg alln (fun m' H' hm' hX' => y_move rfl) ?_
          refine g_y (i := 2) (listed' := #[true, true, true, false, false, false, false, false, false, false, false, false, false]) rfl (by kernel_rfl) (by kernel_rfl) (by kernel_rfl) (by kernel_rfl) rfl rfl hg alln (fun m' H' hm' hX' => y_index_strB rfl rfl Try.underlying9 hy) ?_
          refine g_y (i := 3) (listed' := #[true, true, true, true, false, false, false, false, false, false, false, false, false]) rfl (by kernel_rfl) (by kernel_rfl) (by kernel_rfl) (by kernel_rfl) rfl rfl hg alln (fun m' H' hm' hX' => y_iop rfl rfl rfl) ?_
          refine g_y (i := 4) (listed' := #[true, true, true, true, true, false, false, false, false, false, false, false, false]) rfl (by kernel_rfl) (by kernel_rfl) (by kernel_rfl) (by kernel_rfl) rfl rfl hg alln (fun m' H' hm' hX' => y_move rfl) ?_
          refine g_split (j := 4) rfl (fun hY => ?_) (fun hY => ?_)
          ·
            refine g_yg (i := 5) (listed' := #[true, true, true, true, true, true, false, false, false, false, false, false, false]) rfl (by kernel_rfl) (by kernel_rfl) (by kernel_rfl) (by kernel_rfl) rfl rfl hY rfl hg alln (fun m' H' hm' hX' => y_move rfl) ?_
            refine g_yg (i := 6) (listed' := #[true, true, true, true, true, true, true, false, false, false, false, false, false]) rfl (by kernel_rfl) (by kernel_rfl) (by kernel_rfl) (by kernel_rfl) rfl rfl hY rfl hg alln (fun m' H' hm' hX' => y_move rfl) ?_
            refine g_yg (i := 7) (listed' := #[true, true, true, true, true, true, true, true, false, false, false, false, false]) rfl (by kernel_rfl) (by kernel_rfl) (by kernel_rfl) (by kernel_rfl) rfl rfl hY rfl hg alln (fun m' H' hm' hX' => y_index_strB rfl rfl Try.underlying9 hx) ?_
            refine g_yg (i := 8) (listed' := #[true, true, true, true, true, true, true, true, true, false, false, false, false]) rfl (by kernel_rfl) (by kernel_rfl) (by kernel_rfl) (by kernel_rfl) rfl rfl hY rfl hg alln (fun m' H' hm' hX' => y_move rfl) ?_
            refine g_yg (i := 9) (listed' := #[true, true, true, true, true, true, true, true, true, true, false, false, false]) rfl (by kernel_rfl) (by kernel_rfl) (by kernel_rfl) (by kernel_rfl) rfl rfl hY rfl hg alln (fun m' H' hm' hX' => y_move rfl) ?_
            refine g_yg (i := 10) (listed' := #[true, true, true, true, true, true, true, true, true, true, true, false, false]) rfl (by kernel_rfl) (by kernel_rfl) (by kernel_rfl) (by kernel_rfl) rfl rfl hY rfl hg alln (fun m' H' hm' hX' => y_index_strB rfl rfl Try.underlying9 hy) ?_
            refine g_yg (i := 11) (listed' := #[true, true, true, true, true, true, true, true, true, true, true, true, false]) rfl (by kernel_rfl) (by kernel_rfl) (by kernel_rfl) (by kernel_rfl) rfl rfl hY rfl hg alln (fun m' H' hm' hX' => y_iop rfl rfl rfl) ?_
            refine g_y (i := 12) (listed' := #[true, true, true, true, true, true, true, true, true, true, true, true, true]) rfl (by kernel_rfl) (by kernel_rfl) (by kernel_rfl) (by kernel_rfl) rfl rfl hg alln (fun m' H' hm' hX' => y_pickt rfl hY rfl) ?_
            refine g_done (by kernel_rfl) ?_
            clear hg
            refine hK14 _ _ _ ?_
            clear hK14 K14
            refine c_cond rfl (fun hD => ?_) (fun hD => ?_)
            ·
              refine c_seq (fun K15 hK15 => ?_)
              refine c_region ?_
              refine r_y rfl rfl (y_bld rfl tz29 fk29 bp29_ rfl rfl) ?_
              refine r_s rfl ?_
              refine s_store rfl rfl rfl ts29 rfl rfl (by simp [Value.oneCell', wv, Sl.v]) (i := 1) rfl rfl ?_
              refine r_y rfl rfl (y_assign rfl) ?_
              refine r_nil ?_
              refine hK15 _ _ _ ?_
              clear hK15 K15
              refine c_ret ?_
              refine e_ret 4 hm (res2 (r1_cell_a rfl ts29 (RdA.blk (i := 1) rfl rfl)) (r1_tmp rfl)) ?_
              have e : cubeMeetOk a b = false := by rw [meet_text, zipAll_false hx hy (by rw [meetF_i, hX, hY, hD]; rfl), Bool.and_false]
              rw [e]
              exact ⟨zCube, rfl, rfl⟩
            ·
              refine c_skip ?_
              refine hK12 _ _ _ ?_
              clear hK12 K12
              refine c_region ?_
              refine r_y rfl rfl (y_move rfl) ?_
              first | refine r_y rfl rfl (y_inc rfl (by omega)) ?_ | refine r_y rfl rfl (y_iop rfl rfl rfl) ?_
              refine r_y rfl rfl (y_assign rfl) ?_
              refine r_nil ?_
              exact ⟨k0 - 1, (i + 1, l2), by omega, ⟨rfl, rfl, rfl, rfl, rfl, trivial⟩, rfl, ⟨by omega, by first | exact hl2 | simpa using hl2, (by first | (rw [hst, hz0, meetF_i, hX]; rfl) | (rw [hst, hz0, meetF_i, hX, hY, hD]; rfl) | (rw [hst, hz0, meetF_i, hX, hY]; rfl))⟩, hm⟩
          ·
            refine g_no (i := 5) (listed' := #[true, true, true, true, true, true, false, false, false, false, false, false, false]) rfl (by kernel_rfl) (by kernel_rfl) (by kernel_rfl) (by kernel_rfl) rfl rfl hY rfl hg alln ?_
            refine g_no (i := 6) (listed' := #[true, true, true, true, true, true, true, false, false, false, false, false, false]) rfl (by kernel_rfl) (by kernel_rfl) (by kernel_rfl) (by kernel_rfl) rfl rfl hY rfl hg alln ?_
            refine g_no (i := 7) (listed' := #[true, true, true, true, true, true, true, true, false, false, false, false, false]) rfl (by kernel_rfl) (by kernel_rfl) (by kernel_rfl) (by kernel_rfl) rfl rfl hY rfl hg alln ?_
            refine g_no (i := 8) (listed' := #[true, true, true, true, true, true, true, true, true, false, false, false, false]) rfl (by kernel_rfl) (by kernel_rfl) (by kernel_rfl) (by kernel_rfl) rfl rfl hY rfl hg alln ?_
            refine g_no (i := 9) (listed' := #[true, true, true, true, true, true, true, true, true, true, false, false, false]) rfl (by kernel_rfl) (by kernel_rfl) (by kernel_rfl) (by kernel_rfl) rfl rfl hY rfl hg alln ?_
            refine g_no (i := 10) (listed' := #[true, true, true, true, true, true, true, true, true, true, true, false, false]) rfl (by kernel_rfl) (by kernel_rfl) (by kernel_rfl) (by kernel_rfl) rfl rfl hY rfl hg alln ?_
            refine g_no (i := 11) (listed' := #[true, true, true, true, true, true, true, true, true, true, true, true, false]) rfl (by kernel_rfl) (by kernel_rfl) (by kernel_rfl) (by kernel_rfl) rfl rfl hY rfl hg alln ?_
            refine g_y (i := 12) (listed' := #[true, true, true, true, true, true, true, true, true, true, true, true, true]) rfl (by kernel_rfl) (by kernel_rfl) (by kernel_rfl) (by kernel_rfl) rfl rfl hg alln (fun m' H' hm' hX' => y_pickf rfl hY rfl) ?_
            refine g_done (by kernel_rfl) ?_
            clear hg
            refine hK14 _ _ _ ?_
            clear hK14 K14
            refine c_iff rfl rfl ?_
            refine c_skip ?_
            refine hK12 _ _ _ ?_
            clear hK12 K12
            refine c_region ?_
            refine r_y rfl rfl (y_move rfl) ?_
            first | refine r_y rfl rfl (y_inc rfl (by omega)) ?_ | refine r_y rfl rfl (y_iop rfl rfl rfl) ?_
            refine r_y rfl rfl (y_assign rfl) ?_
            refine r_nil ?_
            exact ⟨k0 - 1, (i + 1, l2), by omega, ⟨rfl, rfl, rfl, rfl, rfl, trivial⟩, rfl, ⟨by omega, by first | exact hl2 | simpa using hl2, (by first | (rw [hst, hz0, meetF_i, hX]; rfl) | (rw [hst, hz0, meetF_i, hX, hY, hD]; rfl) | (rw [hst, hz0, meetF_i, hX, hY]; rfl))⟩, hm⟩
      ·
        refine c_exit ?_
        refine hK8 _ _ _ ?_
        clear hK10 K10 hK8 K8
        refine c_seq (fun K16 hK16 => ?_)
        refine c_region ?_
        refine r_y rfl rfl (y_move rfl) ?_
        refine r_freeze (i := 0) rfl (fun m3 hm3 hcb => ?_)
        replace hm := hm.trans hm3
        clear hm3
        have hfz : FzB m3 ⟨some ⟨bs, 0, none⟩, (textN a 12).length, cap⟩ l2 := by have h3 := fzb_of_sb hcb (by omega) hmx; rw [hl2] at h3; exact h3
        refine r_y rfl rfl (y_conv_str rfl hfz Try.underlying22 Try.underlying5 Try.underlying9) ?_
        refine r_s rfl ?_
        refine s_call0 rfl Try.call99 rfl (rFrom_w l2 _ _ (by rw [hl2, textN_tlen])) ?_
        rintro _ m2 _ hm2 ⟨c, rfl, rfl⟩
        replace hm := hm.trans hm2
        clear hm2
        refine r_s rfl ?_
        refine s_store (us := encCube c) rfl rfl rfl ts29 rfl rfl (one_cube _) (i := 0) rfl rfl ?_
        refine r_y rfl rfl (y_assign rfl) ?_
        refine r_nil ?_
        refine hK16 _ _ _ ?_
        clear hK16 K16
        refine c_ret ?_
        refine e_ret 3 hm (res2 (r1_cell_a rfl ts29 (RdA.blk (i := 0) rfl rfl)) (r1_tmp rfl)) ?_
        have e : cubeMeetOk a b = true := by
          have hil : i = (textN a 12).length := by simp at hL; omega
          rw [hil, List.take_of_length_le (Nat.le_refl _), List.take_of_length_le (by rw [textN_len2 b a]; exact Nat.le_refl _)] at hz0
          rw [meet_text, hz0, hab]; rfl
        rw [e]
        exact ⟨c, rfl, rfl⟩
set_option maxRecDepth 100000 in
theorem rOverlap_w (a b : RuleD) (s1 s2 : Sl) (m : Snap) (H : Hp) : Fn Try.prog 86 [.agg (encRule a s1).toArray, .agg (encRule b s2).toArray] m H (fun v _ H' => v = .bool (ruleOverlap a b) ∧ H' = H) := by
  have hm : m.le m := Snap.le.refl m
  refine fn_end Try.func86 rfl rfl rfl ?_
  refine c_seq (fun K0 hK0 => ?_)
  refine c_region ?_
  refine r_s rfl ?_
  refine s_box_a rfl rfl (fun b0 => ?_)
  refine r_s rfl ?_
  refine s_box_a rfl rfl (fun b1 => ?_)
  refine r_y rfl rfl (y_assign rfl) ?_
  refine r_nil ?_
  refine hK0 _ _ _ ?_
  clear hK0 K0
  refine c_seq (fun K1 hK1 => ?_)
  refine c_region ?_
  refine r_y rfl rfl (y_fieldAddr rfl At.lit fo50_0 rfl) ?_
  refine r_y rfl rfl (y_load_a (cs := encCube a.m) rfl ts29 (RdA.blk (i := 1) rfl rfl)) ?_
  refine r_y rfl rfl (y_fieldAddr rfl At.lit fo50_0 rfl) ?_
  refine r_y rfl rfl (y_load_a (cs := encCube b.m) rfl ts29 (RdA.blk (i := 0) rfl rfl)) ?_
  refine r_s rfl ?_
  refine s_call0 rfl Try.call39 rfl (rMeet_w a.m b.m _ _) ?_
  rintro _ m2 _ hm2 ⟨c, rfl, rfl⟩
  replace hm := hm.trans hm2
  clear hm2
  refine r_y rfl rfl (y_move rfl) ?_
  refine r_y rfl rfl (y_extract rfl rfl) ?_
  refine r_y rfl rfl (y_extract rfl rfl) ?_
  refine r_s rfl ?_
  refine s_alloc rfl tz29 (fun b2 => ?_)
  refine r_s rfl ?_
  refine s_store (us := encCube c) rfl rfl rfl ts29 rfl rfl (one_cube _) (i := 0) rfl rfl ?_
  refine r_y rfl rfl (y_assign rfl) ?_
  refine r_nil ?_
  refine hK1 _ _ _ ?_
  clear hK1 K1
  refine c_seq (fun K2 hK2 => ?_)
  refine c_region ?_
  refine r_y rfl rfl (y_fieldAddr rfl At.lit fo50_1 rfl) ?_
  refine r_y rfl rfl (y_load_s rfl ts3 (RdS.blk (i := 2) rfl rfl)) ?_
  refine r_y rfl rfl (y_fieldAddr rfl At.lit fo50_1 rfl) ?_
  refine r_y rfl rfl (y_load_s rfl ts3 (RdS.blk (i := 1) rfl rfl)) ?_
  refine r_y rfl rfl (y_iop rfl rfl rfl) ?_
  refine r_y rfl rfl (y_move rfl) ?_
  refine r_split (j := 5) rfl (fun h0 => ?_) (fun h0 => ?_)
  ·
    refine r_yg rfl h0 rfl (y_move rfl) ?_
    refine r_y rfl rfl (y_pickt rfl h0 rfl) ?_
    refine r_y rfl rfl (y_assign rfl) ?_
    refine r_nil ?_
    refine hK2 _ _ _ ?_
    clear hK2 K2
    refine c_ret ?_
    refine e_ret 3 hm (res_tmps rfl) ?_
    refine ⟨congrArg Value.bool ?_, rfl⟩
    unfold ruleOverlap
    first | (simp_all; done) | (rw [Bool.and_comm]; simp_all; done)
  ·
    refine r_no' rfl rfl h0 ?_
    refine r_y rfl rfl (y_pickf rfl h0 rfl) ?_
    refine r_y rfl rfl (y_assign rfl) ?_
    refine r_nil ?_
    refine hK2 _ _ _ ?_
    clear hK2 K2
    refine c_ret ?_
    refine e_ret 3 hm (res_tmps rfl) ?_
    refine ⟨congrArg Value.bool ?_, rfl⟩
    unfold ruleOverlap
    first | (simp_all; done) | (rw [Bool.and_comm]; simp_all; done)
end Go.Aw
namespace Go.Aw
open Go
theorem FzR.cut {m : Snap} {s : Sl} {lr : List (RuleD × Sl)} (h : FzR m s lr) {lo hi : Nat} (h1 : lo ≤ hi) (h2 : hi ≤ s.n) : FzR m (s.cut lo hi 32) ((lr.drop lo).take (hi - lo)) :=
  ⟨by
    have := h.fz.slice h1 h2
    have e : ((lr.drop lo).take (hi - lo)).map (fun p => encRule p.1 p.2) = ((lr.map fun p => encRule p.1 p.2).drop lo).take (hi - lo) := by rw [List.map_take, List.map_drop]
    rw [e]; exact this, fun p hp => h.acts p (List.mem_of_mem_drop (List.mem_of_mem_take hp))⟩
theorem FzR.from {m : Snap} {s : Sl} {lr : List (RuleD × Sl)} (h : FzR m s lr) {lo : Nat} (h1 : lo ≤ s.n) : FzR m (s.cut lo s.n 32) (lr.drop lo) := by
  have := h.cut h1 (Nat.le_refl _)
  rwa [List.take_of_length_le (by rw [List.length_drop, ← h.len]; exact Nat.le_refl _)] at this
theorem cut_nil {s : Sl} {lo hi : Nat} (h : s.a = none → s.cap = 0) : (s.cut lo hi 32).a = none → (s.cut lo hi 32).cap = 0 := by
  intro h1
  show s.cap - lo = 0
  have : s.a = none := by
    unfold Sl.cut sadd at h1
    simp only at h1
    split at h1
    · exact h1
    · simpa using h1
  rw [h this]; omega
theorem FzR.src {m : Snap} {H : Hp} {s : Sl} {lr : List (RuleD × Sl)} (h : FzR m s lr) (hn : s.a = none → s.cap = 0) : Src m H s.v s.n 32 (lr.map fun p => encRule p.1 p.2) :=
  Src.fz h.fz (fun c hc u hu => by obtain ⟨x, _, rfl⟩ := List.mem_map.1 hc; exact one_rule _ _ u hu) hn
/-- A slice's first rows, its room left as it is. -/
theorem FzR.first {m : Snap} {a : Option Addr} {n c : Nat} {lr : List (RuleD × Sl)} (h : FzR m ⟨a, n, c⟩ lr) {p : Nat} (hp : p ≤ n) : FzR m ⟨a, p, c⟩ (lr.take p) := by
  have h2 := h.fz.slice (lo := 0) (hi := p) (Nat.zero_le _) hp
  refine ⟨?_, fun q hq => h.acts q (List.mem_of_mem_take hq)⟩
  rw [List.map_take]
  have e : sadd a 0 32 c = a := sadd_zero ..
  rw [e, List.drop_zero] at h2
  exact h2
theorem fzr_of {m : Snap} {a : Option Addr} {n c : Nat} {rows : List (List Value)} {lr : List (RuleD × Sl)} (h : Fz m a n c 32 rows) (he : rows = lr.map fun p => encRule p.1 p.2) (ha : AllA m lr) : FzR m ⟨a, n, c⟩ lr := ⟨he ▸ h, ha⟩
theorem AllA.of {m : Snap} {s : Sl} {lr : List (RuleD × Sl)} (h : FzR m s lr) : AllA m lr := h.acts
theorem AllA.sub {m : Snap} {l l' : List (RuleD × Sl)} (h : AllA m l) (hs : ∀ x ∈ l', x ∈ l) : AllA m l' := fun p hp => h p (hs p hp)
theorem AllA.app {m : Snap} {l l' : List (RuleD × Sl)} (h : AllA m l) (h' : AllA m l') : AllA m (l ++ l') := fun p hp => by
  rcases List.mem_append.1 hp with hp | hp
  · exact h p hp
  · exact h' p hp
/-- Where the reference's scan stands. -/
def ScanP (l : List RuleD) (r : RuleD) (p : Nat) : Prop := ∀ (q : Nat) (x : RuleD), q < p → l[q]? = some x → ruleCmp x r < 0
theorem ScanP.next {l : List RuleD} {r x : RuleD} {p : Nat} (h : ScanP l r p) (hx : l[p]? = some x) (hb : ruleBefore x r = true) : ScanP l r (p + 1) := fun q y hq hy => by
  rcases Nat.lt_or_ge q p with h1 | h1
  · exact h q y h1 hy
  · obtain rfl : q = p := by omega
    rw [hx] at hy; cases hy
    simpa [ruleBefore] using hb
theorem ScanP.low {l : List RuleD} {r : RuleD} {p : Nat} (h : ScanP l r p) (hs : Srt l) (he : l.length ≤ p ∨ ∃ x, l[p]? = some x ∧ ruleBefore x r = false) : LowP l r p := by
  refine ⟨h, fun q y hq hy => ?_⟩
  have hlt := (List.getElem?_eq_some_iff.1 hy).1
  rcases he with he | ⟨x, hx, hb⟩
  · omega
  · have hnb : ¬ ruleCmp x r < 0 := by simpa [ruleBefore] using hb
    rcases Nat.lt_or_ge p q with h1 | h1
    · intro hc
      have hpl := (List.getElem?_eq_some_iff.1 hx).1
      have h3 := List.pairwise_iff_getElem.1 hs p q hpl hlt h1
      rw [(List.getElem?_eq_some_iff.1 hx).2, (List.getElem?_eq_some_iff.1 hy).2] at h3
      exact hnb (ruleCmp_trans h3 hc)
    · obtain rfl : q = p := by omega
      rw [hx] at hy; cases hy; exact hnb
theorem insR_at {l : List RuleD} {r y : RuleD} {p : Nat} (h : LowP l r p) (hy : l[p]? = some y) (hk : ruleKey y r = true) : insR l r = l.take p ++ r :: l.drop (p + 1) := by
  rw [insR_set h hy (ruleCmp_zero.2 hk)]
  have hlt := (List.getElem?_eq_some_iff.1 hy).1
  rw [List.set_eq_take_append_cons_drop, if_pos hlt]
theorem insR_new {l : List RuleD} {r : RuleD} {p : Nat} (h : LowP l r p) (hp : p ≤ l.length) (hk : ∀ y, l[p]? = some y → ruleKey y r = false) : insR l r = l.take p ++ r :: l.drop p :=
  insR_ins h hp fun y hy h0 => by have := ruleCmp_zero.1 h0; rw [hk y hy] at this; cases this
section
variable {P : Program} {n : Nat} {L : Slots} {m : Snap} {H : Hp} {Q : Post} {ops : Array Oper} {fuel : Nat} {listed : Array Bool}
end
end Go.Aw
