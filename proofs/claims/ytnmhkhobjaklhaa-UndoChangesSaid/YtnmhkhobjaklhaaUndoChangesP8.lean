/- Part 8 of the words and walks that the proof behind it uses. -/
import Derived.Test.YtnmhkhobjaklhaaUndoChangesP7
set_option linter.unusedVariables false
set_option linter.unusedSimpArgs false
set_option maxHeartbeats 1000000
namespace Go.Aw
open Go Go.Proofs
theorem bp29_ : bplaces Try.prog 29 [] = some [] := by kernel_rfl
theorem bp50_0_1_2_3_4_5 : bplaces Try.prog 50 [0, 1, 2, 3, 4, 5] = some [(0, 24), (24, 1), (25, 1), (26, 1), (27, 1), (28, 1)] := by kernel_rfl
set_option maxRecDepth 100000 in
theorem both_w (a b : Cube) (m : Snap) (H : Hp) : Fn Try.prog 159 [.agg (encCube a).toArray, .agg (encCube b).toArray] m H (fun v _ H' => v = .bool (cubeSound a && cubeSound b) ∧ H' = H) := by
  have hm : m.le m := Snap.le.refl m
  refine fn_end Try.func159 rfl rfl rfl ?_
  refine c_seq (fun K0 hK0 => ?_)
  refine c_region ?_
  refine r_s rfl ?_
  refine s_box_a rfl rfl (fun b0 => ?_)
  refine r_s rfl ?_
  refine s_box_a rfl rfl (fun b1 => ?_)
  refine r_y rfl rfl (y_assign rfl) ?_
  refine r_nil ?_
  refine hK0 _ _ _ ?_
  clear hK0 K0
  refine c_seq (fun K1 hK1 => ?_)
  refine c_region ?_
  refine r_y rfl rfl (y_load_a (cs := encCube a) rfl ts29 (RdA.blk (i := 1) rfl rfl)) ?_
  refine r_s rfl ?_
  refine s_call0 rfl Try.call90 rfl (cubeSound_ok a _ _) ?_
  rintro _ m2 _ hm2 ⟨rfl, rfl⟩
  replace hm := hm.trans hm2
  clear hm2
  refine r_y rfl rfl (y_move rfl) ?_
  refine r_split (j := 2) rfl (fun h0 => ?_) (fun h0 => ?_)
  ·
    refine r_yg rfl h0 rfl (y_load_a (cs := encCube b) rfl ts29 (RdA.blk (i := 0) rfl rfl)) ?_
    refine r_sg rfl h0 ?_
    refine s_call0 rfl Try.call90 rfl (cubeSound_ok b _ _) ?_
    rintro _ m2 _ hm2 ⟨rfl, rfl⟩
    replace hm := hm.trans hm2
    clear hm2
    refine r_y rfl rfl (y_pickt rfl h0 rfl) ?_
    refine r_y rfl rfl (y_assign rfl) ?_
    refine r_nil ?_
    refine hK1 _ _ _ ?_
    clear hK1 K1
    refine c_ret ?_
    refine e_ret 2 hm (res_tmps rfl) ?_
    refine ⟨congrArg Value.bool ?_, rfl⟩
    first | (simp_all; done) | rfl
  ·
    refine r_no' rfl rfl h0 ?_
    refine r_no' rfl rfl h0 ?_
    refine r_y rfl rfl (y_pickf rfl h0 rfl) ?_
    refine r_y rfl rfl (y_assign rfl) ?_
    refine r_nil ?_
    refine hK1 _ _ _ ?_
    clear hK1 K1
    refine c_ret ?_
    refine e_ret 2 hm (res_tmps rfl) ?_
    refine ⟨congrArg Value.bool ?_, rfl⟩
    first | (simp_all; done) | rfl
set_option maxRecDepth 100000 in
theorem meet_w (a b : Cube) (m : Snap) (H : Hp) : Fn Try.prog 145 [.agg (encCube a).toArray, .agg (encCube b).toArray] m H (fun v _ H' => v = .tuple [.agg (encCube (if cubeMeetOk a b then cubeMeet a b else zCube)).toArray, .bool (cubeMeetOk a b)].toArray ∧ H' = H) := by
  have hm : m.le m := Snap.le.refl m
  refine fn_end Try.func145 rfl rfl rfl ?_
  refine c_seq (fun K0 hK0 => ?_)
  refine c_region ?_
  refine r_s rfl ?_
  refine s_box_a rfl rfl (fun b0 => ?_)
  refine r_s rfl ?_
  refine s_box_a rfl rfl (fun b1 => ?_)
  refine r_s rfl ?_
  refine s_alloc rfl tz29 (fun b2 => ?_)
  refine r_y rfl rfl (y_assign rfl) ?_
  refine r_nil ?_
  refine hK0 _ _ _ ?_
  clear hK0 K0
  refine c_seq (fun K1 hK1 => ?_)
  refine c_seq (fun K2 hK2 => ?_)
  refine c_region ?_
  refine r_y rfl rfl (y_load_a (cs := encCube a) rfl ts29 (RdA.blk (i := 2) rfl rfl)) ?_
  refine r_y rfl rfl (y_load_a (cs := encCube b) rfl ts29 (RdA.blk (i := 1) rfl rfl)) ?_
  refine r_s rfl ?_
  refine s_call0 rfl Try.call159 rfl (both_w a b _ _) ?_
  rintro _ m2 _ hm2 ⟨rfl, rfl⟩
  replace hm := hm.trans hm2
  clear hm2
  refine r_y rfl rfl (y_not rfl) ?_
  refine r_nil ?_
  refine hK2 _ _ _ ?_
  clear hK2 K2
  refine c_cond rfl (fun h0 => ?_) (fun h0 => ?_)
  ·
    refine c_seq (fun K3 hK3 => ?_)
    refine c_region ?_
    refine r_y rfl rfl (y_bld rfl tz29 fk29 bp29_ rfl rfl) ?_
    refine r_s rfl ?_
    refine s_store rfl rfl rfl ts29 rfl rfl (by simp [Value.oneCell', wv, Sl.v]) (i := 0) rfl rfl ?_
    refine r_y rfl rfl (y_assign rfl) ?_
    refine r_nil ?_
    refine hK3 _ _ _ ?_
    clear hK3 K3
    refine c_ret ?_
    refine e_ret 3 hm (res2 (r1_cell_a rfl ts29 (RdA.blk (i := 0) rfl rfl)) (r1_tmp rfl)) ?_
    rw [meet_no h0]
    exact ⟨rfl, rfl⟩
  ·
    refine c_skip ?_
    refine hK1 _ _ _ ?_
    clear hK1 K1
    refine c_seq (fun K4 hK4 => ?_)
    refine c_seq (fun K5 hK5 => ?_)
    refine c_region ?_
    refine r_y rfl rfl (y_move rfl) ?_
    refine r_nil ?_
    refine hK5 _ _ _ ?_
    clear hK5 K5
    refine c_block ?_
    refine c_loopx (α := Nat) (fun i => [(2, .pointer (some ⟨b0, 0, none⟩)), (3, .pointer (some ⟨b1, 0, none⟩)), (4, .pointer (some ⟨b2, 0, none⟩)), (12, .int .i64 (i : Nat))]) (fun i => .blk b2 (.cells (encCube zCube).toArray 29) :: .blk b1 (.cells (encCube b).toArray 29) :: .blk b0 (.cells (encCube (cubeMerge a b i)).toArray 29) :: H) (fun k0 i m1 => (i + k0 = 12 ∧ (List.range i).all (cubeClash a b) = true) ∧ m.le m1) (12) 0 ⟨rfl, rfl, rfl, rfl, trivial⟩ (by simp only [cubeMerge, merge_zero] <;> rfl) ⟨⟨by omega, rfl⟩, hm⟩ ?_
    clear hm
    rintro k0 i m1 ⟨hi0, hm⟩
    obtain ⟨hi, hinv⟩ := hi0
    refine c_seq (fun K6 hK6 => ?_)
    refine c_region ?_
    refine r_y rfl rfl (y_iop rfl rfl rfl) ?_
    refine r_nil ?_
    refine hK6 _ _ _ ?_
    clear hK6 K6
    refine c_seq (fun K7 hK7 => ?_)
    refine c_cond rfl (fun h1 => ?_) (fun h1 => ?_)
    ·
      have hlt : i < 12 := by simp at h1; omega
      refine c_skip ?_
      refine hK7 _ _ _ ?_
      clear hK7 K7
      refine c_seq (fun K8 hK8 => ?_)
      refine c_block ?_
      refine c_seq (fun K9 hK9 => ?_)
      refine c_region ?_
      refine r_y rfl rfl (y_move rfl) ?_
      refine r_y rfl rfl (y_assign rfl) ?_
      refine r_nil ?_
      refine hK9 _ _ _ ?_
      clear hK9 K9
      refine c_seq (fun K10 hK10 => ?_)
      refine c_seq (fun K11 hK11 => ?_)
      refine c_draw ([.blk b0 (.cells (encCube (cubeMerge a b i)).toArray 29), .blk b1 (.cells (encCube b).toArray 29)]) (by kernel_rfl) (fun hg => ?_)
      refine g_y (i := 0) (listed' := #[true, false, false, false, false, false, false, false, false, false, false, false, false, false, false, false, false, false, false, false]) rfl (by kernel_rfl) (by kernel_rfl) (by kernel_rfl) (by kernel_rfl) rfl rfl hg (allc (List.Mem.tail _ (List.Mem.tail _ (List.Mem.head _))) (allc (List.Mem.tail _ (List.Mem.head _)) alln)) (fun m' H' hm' hX' => y_move rfl) ?_
      refine g_y (i := 1) (listed' := #[true, true, false, false, false, false, false, false, false, false, false, false, false, false, false, false, false, false, false, false]) rfl (by kernel_rfl) (by kernel_rfl) (by kernel_rfl) (by kernel_rfl) rfl rfl hg (allc (List.Mem.tail _ (List.Mem.tail _ (List.Mem.head _))) (allc (List.Mem.tail _ (List.Mem.head _)) alln)) (fun m' H' hm' hX' => y_fieldAddr rfl At.lit fo29_0 rfl) ?_
      refine g_y (i := 2) (listed' := #[true, true, true, false, false, false, false, false, false, false, false, false, false, false, false, false, false, false, false, false]) rfl (by kernel_rfl) (by kernel_rfl) (by kernel_rfl) (by kernel_rfl) rfl rfl hg (allc (List.Mem.tail _ (List.Mem.tail _ (List.Mem.head _))) (allc (List.Mem.tail _ (List.Mem.head _)) alln)) (fun m' H' hm' hX' => y_indexAddr_arr rfl rfl ta27 hlt At.lit) ?_
      refine g_y (i := 3) (listed' := #[true, true, true, true, false, false, false, false, false, false, false, false, false, false, false, false, false, false, false, false]) rfl (by kernel_rfl) (by kernel_rfl) (by kernel_rfl) (by kernel_rfl) rfl rfl hg (allc (List.Mem.tail _ (List.Mem.tail _ (List.Mem.head _))) (allc (List.Mem.tail _ (List.Mem.head _)) alln)) (fun m' H' hm' hX' => y_load_s rfl ts25 (RdS.mem (hX' _ (List.Mem.head _)) (cget_value _ _ hlt))) ?_
      refine g_y (i := 4) (listed' := #[true, true, true, true, true, false, false, false, false, false, false, false, false, false, false, false, false, false, false, false]) rfl (by kernel_rfl) (by kernel_rfl) (by kernel_rfl) (by kernel_rfl) rfl rfl hg (allc (List.Mem.tail _ (List.Mem.tail _ (List.Mem.head _))) (allc (List.Mem.tail _ (List.Mem.head _)) alln)) (fun m' H' hm' hX' => y_move rfl) ?_
      refine g_y (i := 5) (listed' := #[true, true, true, true, true, true, false, false, false, false, false, false, false, false, false, false, false, false, false, false]) rfl (by kernel_rfl) (by kernel_rfl) (by kernel_rfl) (by kernel_rfl) rfl rfl hg (allc (List.Mem.tail _ (List.Mem.tail _ (List.Mem.head _))) (allc (List.Mem.tail _ (List.Mem.head _)) alln)) (fun m' H' hm' hX' => y_fieldAddr rfl At.lit fo29_0 rfl) ?_
      refine g_y (i := 6) (listed' := #[true, true, true, true, true, true, true, false, false, false, false, false, false, false, false, false, false, false, false, false]) rfl (by kernel_rfl) (by kernel_rfl) (by kernel_rfl) (by kernel_rfl) rfl rfl hg (allc (List.Mem.tail _ (List.Mem.tail _ (List.Mem.head _))) (allc (List.Mem.tail _ (List.Mem.head _)) alln)) (fun m' H' hm' hX' => y_indexAddr_arr rfl rfl ta27 hlt At.lit) ?_
      refine g_y (i := 7) (listed' := #[true, true, true, true, true, true, true, true, false, false, false, false, false, false, false, false, false, false, false, false]) rfl (by kernel_rfl) (by kernel_rfl) (by kernel_rfl) (by kernel_rfl) rfl rfl hg (allc (List.Mem.tail _ (List.Mem.tail _ (List.Mem.head _))) (allc (List.Mem.tail _ (List.Mem.head _)) alln)) (fun m' H' hm' hX' => y_load_s rfl ts25 (RdS.mem (hX' _ (List.Mem.tail _ (List.Mem.head _))) (cget_value _ _ hlt))) ?_
      refine g_y (i := 8) (listed' := #[true, true, true, true, true, true, true, true, true, false, false, false, false, false, false, false, false, false, false, false]) rfl (by kernel_rfl) (by kernel_rfl) (by kernel_rfl) (by kernel_rfl) rfl rfl hg (allc (List.Mem.tail _ (List.Mem.tail _ (List.Mem.head _))) (allc (List.Mem.tail _ (List.Mem.head _)) alln)) (fun m' H' hm' hX' => y_wop rfl rfl rfl) ?_
      refine g_y (i := 9) (listed' := #[true, true, true, true, true, true, true, true, true, true, false, false, false, false, false, false, false, false, false, false]) rfl (by kernel_rfl) (by kernel_rfl) (by kernel_rfl) (by kernel_rfl) rfl rfl hg (allc (List.Mem.tail _ (List.Mem.tail _ (List.Mem.head _))) (allc (List.Mem.tail _ (List.Mem.head _)) alln)) (fun m' H' hm' hX' => y_move rfl) ?_
      refine g_y (i := 10) (listed' := #[true, true, true, true, true, true, true, true, true, true, true, false, false, false, false, false, false, false, false, false]) rfl (by kernel_rfl) (by kernel_rfl) (by kernel_rfl) (by kernel_rfl) rfl rfl hg (allc (List.Mem.tail _ (List.Mem.tail _ (List.Mem.head _))) (allc (List.Mem.tail _ (List.Mem.head _)) alln)) (fun m' H' hm' hX' => y_fieldAddr rfl At.lit fo29_1 rfl) ?_
      refine g_y (i := 11) (listed' := #[true, true, true, true, true, true, true, true, true, true, true, true, false, false, false, false, false, false, false, false]) rfl (by kernel_rfl) (by kernel_rfl) (by kernel_rfl) (by kernel_rfl) rfl rfl hg (allc (List.Mem.tail _ (List.Mem.tail _ (List.Mem.head _))) (allc (List.Mem.tail _ (List.Mem.head _)) alln)) (fun m' H' hm' hX' => y_indexAddr_arr rfl rfl ta27 hlt At.lit) ?_
      refine g_y (i := 12) (listed' := #[true, true, true, true, true, true, true, true, true, true, true, true, true, false, false, false, false, false, false, false]) rfl (by kernel_rfl) (by kernel_rfl) (by kernel_rfl) (by kernel_rfl) rfl rfl hg (allc (List.Mem.tail _ (List.Mem.tail _ (List.Mem.head _))) (allc (List.Mem.tail _ (List.Mem.head _)) alln)) (fun m' H' hm' hX' => y_load_s rfl ts25 (RdS.mem (hX' _ (List.Mem.head _)) (cget_care _ _ hlt))) ?_
      refine g_y (i := 13) (listed' := #[true, true, true, true, true, true, true, true, true, true, true, true, true, true, false, false, false, false, false, false]) rfl (by kernel_rfl) (by kernel_rfl) (by kernel_rfl) (by kernel_rfl) rfl rfl hg (allc (List.Mem.tail _ (List.Mem.tail _ (List.Mem.head _))) (allc (List.Mem.tail _ (List.Mem.head _)) alln)) (fun m' H' hm' hX' => y_wop rfl rfl rfl) ?_
      refine g_y (i := 14) (listed' := #[true, true, true, true, true, true, true, true, true, true, true, true, true, true, true, false, false, false, false, false]) rfl (by kernel_rfl) (by kernel_rfl) (by kernel_rfl) (by kernel_rfl) rfl rfl hg (allc (List.Mem.tail _ (List.Mem.tail _ (List.Mem.head _))) (allc (List.Mem.tail _ (List.Mem.head _)) alln)) (fun m' H' hm' hX' => y_move rfl) ?_
      refine g_y (i := 15) (listed' := #[true, true, true, true, true, true, true, true, true, true, true, true, true, true, true, true, false, false, false, false]) rfl (by kernel_rfl) (by kernel_rfl) (by kernel_rfl) (by kernel_rfl) rfl rfl hg (allc (List.Mem.tail _ (List.Mem.tail _ (List.Mem.head _))) (allc (List.Mem.tail _ (List.Mem.head _)) alln)) (fun m' H' hm' hX' => y_fieldAddr rfl At.lit fo29_1 rfl) ?_
      refine g_y (i := 16) (listed' := #[true, true, true, true, true, true, true, true, true, true, true, true, true, true, true, true, true, false, false, false]) rfl (by kernel_rfl) (by kernel_rfl) (by kernel_rfl) (by kernel_rfl) rfl rfl hg (allc (List.Mem.tail _ (List.Mem.tail _ (List.Mem.head _))) (allc (List.Mem.tail _ (List.Mem.head _)) alln)) (fun m' H' hm' hX' => y_indexAddr_arr rfl rfl ta27 hlt At.lit) ?_
      refine g_y (i := 17) (listed' := #[true, true, true, true, true, true, true, true, true, true, true, true, true, true, true, true, true, true, false, false]) rfl (by kernel_rfl) (by kernel_rfl) (by kernel_rfl) (by kernel_rfl) rfl rfl hg (allc (List.Mem.tail _ (List.Mem.tail _ (List.Mem.head _))) (allc (List.Mem.tail _ (List.Mem.head _)) alln)) (fun m' H' hm' hX' => y_load_s rfl ts25 (RdS.mem (hX' _ (List.Mem.tail _ (List.Mem.head _))) (cget_care _ _ hlt))) ?_
      refine g_y (i := 18) (listed' := #[true, true, true, true, true, true, true, true, true, true, true, true, true, true, true, true, true, true, true, false]) rfl (by kernel_rfl) (by kernel_rfl) (by kernel_rfl) (by kernel_rfl) rfl rfl hg (allc (List.Mem.tail _ (List.Mem.tail _ (List.Mem.head _))) (allc (List.Mem.tail _ (List.Mem.head _)) alln)) (fun m' H' hm' hX' => y_wop rfl rfl rfl) ?_
      refine g_y (i := 19) (listed' := #[true, true, true, true, true, true, true, true, true, true, true, true, true, true, true, true, true, true, true, true]) rfl (by kernel_rfl) (by kernel_rfl) (by kernel_rfl) (by kernel_rfl) rfl rfl hg (allc (List.Mem.tail _ (List.Mem.tail _ (List.Mem.head _))) (allc (List.Mem.tail _ (List.Mem.head _)) alln)) (fun m' H' hm' hX' => y_wop rfl (opv_wc 0#64) rfl) ?_
      refine g_done (by kernel_rfl) ?_
      clear hg
      refine hK11 _ _ _ ?_
      clear hK11 K11
      refine c_cond rfl (fun h2 => ?_) (fun h2 => ?_)
      ·
        refine c_seq (fun K12 hK12 => ?_)
        refine c_region ?_
        refine r_y rfl rfl (y_bld rfl tz29 fk29 bp29_ rfl rfl) ?_
        refine r_s rfl ?_
        refine s_store rfl rfl rfl ts29 rfl rfl (by simp [Value.oneCell', wv, Sl.v]) (i := 0) rfl rfl ?_
        refine r_y rfl rfl (y_assign rfl) ?_
        refine r_nil ?_
        refine hK12 _ _ _ ?_
        clear hK12 K12
        refine c_ret ?_
        refine e_ret 3 hm (res2 (r1_cell_a rfl ts29 (RdA.blk (i := 0) rfl rfl)) (r1_tmp rfl)) ?_
        rw [meet_clash hlt (by simpa using h2)]
        exact ⟨rfl, rfl⟩
      ·
        refine c_skip ?_
        refine hK10 _ _ _ ?_
        clear hK10 K10
        refine c_seq (fun K13 hK13 => ?_)
        refine c_draw ([.blk b1 (.cells (encCube b).toArray 29)]) (by kernel_rfl) (fun hg => ?_)
        refine g_y (i := 0) (listed' := #[true, false, false, false, false, false, false, false, false, false, false, false]) rfl (by kernel_rfl) (by kernel_rfl) (by kernel_rfl) (by kernel_rfl) rfl rfl hg (allc (List.Mem.tail _ (List.Mem.head _)) alln) (fun m' H' hm' hX' => y_move rfl) ?_
        refine g_y (i := 1) (listed' := #[true, true, false, false, false, false, false, false, false, false, false, false]) rfl (by kernel_rfl) (by kernel_rfl) (by kernel_rfl) (by kernel_rfl) rfl rfl hg (allc (List.Mem.tail _ (List.Mem.head _)) alln) (fun m' H' hm' hX' => y_fieldAddr rfl At.lit fo29_1 rfl) ?_
        refine g_y (i := 2) (listed' := #[true, true, true, false, false, false, false, false, false, false, false, false]) rfl (by kernel_rfl) (by kernel_rfl) (by kernel_rfl) (by kernel_rfl) rfl rfl hg (allc (List.Mem.tail _ (List.Mem.head _)) alln) (fun m' H' hm' hX' => y_indexAddr_arr rfl rfl ta27 hlt At.lit) ?_
        refine g_y (i := 4) (listed' := #[true, true, true, false, true, false, false, false, false, false, false, false]) rfl (by kernel_rfl) (by kernel_rfl) (by kernel_rfl) (by kernel_rfl) rfl rfl hg (allc (List.Mem.tail _ (List.Mem.head _)) alln) (fun m' H' hm' hX' => y_move rfl) ?_
        refine g_y (i := 5) (listed' := #[true, true, true, false, true, true, false, false, false, false, false, false]) rfl (by kernel_rfl) (by kernel_rfl) (by kernel_rfl) (by kernel_rfl) rfl rfl hg (allc (List.Mem.tail _ (List.Mem.head _)) alln) (fun m' H' hm' hX' => y_fieldAddr rfl At.lit fo29_1 rfl) ?_
        refine g_y (i := 6) (listed' := #[true, true, true, false, true, true, true, false, false, false, false, false]) rfl (by kernel_rfl) (by kernel_rfl) (by kernel_rfl) (by kernel_rfl) rfl rfl hg (allc (List.Mem.tail _ (List.Mem.head _)) alln) (fun m' H' hm' hX' => y_indexAddr_arr rfl rfl ta27 hlt At.lit) ?_
        refine g_y (i := 7) (listed' := #[true, true, true, false, true, true, true, true, false, false, false, false]) rfl (by kernel_rfl) (by kernel_rfl) (by kernel_rfl) (by kernel_rfl) rfl rfl hg (allc (List.Mem.tail _ (List.Mem.head _)) alln) (fun m' H' hm' hX' => y_load_s rfl ts25 (RdS.mem (hX' _ (List.Mem.head _)) (cget_care _ _ hlt))) ?_
        refine g_y (i := 9) (listed' := #[true, true, true, false, true, true, true, true, false, true, false, false]) rfl (by kernel_rfl) (by kernel_rfl) (by kernel_rfl) (by kernel_rfl) rfl rfl hg (allc (List.Mem.tail _ (List.Mem.head _)) alln) (fun m' H' hm' hX' => y_fieldAddr rfl At.lit fo29_1 rfl) ?_
        refine g_s (i := 3) (listed' := #[true, true, true, true, true, true, true, true, false, true, false, false]) rfl (by kernel_rfl) (by kernel_rfl) rfl ?_
        refine s_y rfl (y_load_s rfl ts25 (RdS.blk (i := 2) rfl (cget_care _ _ hlt))) ?_
        refine ⟨⟨hg, (allc (List.Mem.tail _ (List.Mem.head _)) alln)⟩, ?_⟩
        refine g_y (i := 8) (listed' := #[true, true, true, true, true, true, true, true, true, true, false, false]) rfl (by kernel_rfl) (by kernel_rfl) (by kernel_rfl) (by kernel_rfl) rfl rfl hg (allc (List.Mem.tail _ (List.Mem.head _)) alln) (fun m' H' hm' hX' => y_wop rfl rfl rfl) ?_
        refine g_y (i := 10) (listed' := #[true, true, true, true, true, true, true, true, true, true, true, false]) rfl (by kernel_rfl) (by kernel_rfl) (by kernel_rfl) (by kernel_rfl) rfl rfl hg (allc (List.Mem.tail _ (List.Mem.head _)) alln) (fun m' H' hm' hX' => y_indexAddr_arr rfl rfl ta27 hlt At.lit) ?_
        refine g_s (i := 11) (listed' := #[true, true, true, true, true, true, true, true, true, true, true, true]) rfl (by kernel_rfl) (by kernel_rfl) rfl ?_
        refine s_store rfl rfl rfl ts25 rfl rfl (by simp [Value.oneCell', wv]) (i := 2) rfl (cput_care _ _ _ hlt) ?_
        refine ⟨⟨hg, (allc (List.Mem.tail _ (List.Mem.head _)) alln)⟩, ?_⟩
        refine g_done (by kernel_rfl) ?_
        clear hg
        refine hK13 _ _ _ ?_
        clear hK13 K13
        refine c_draw ([.blk b1 (.cells (encCube b).toArray 29)]) (by kernel_rfl) (fun hg => ?_)
        refine g_y (i := 0) (listed' := #[true, false, false, false, false, false, false, false, false, false, false, false]) rfl (by kernel_rfl) (by kernel_rfl) (by kernel_rfl) (by kernel_rfl) rfl rfl hg (allc (List.Mem.tail _ (List.Mem.head _)) alln) (fun m' H' hm' hX' => y_move rfl) ?_
        refine g_y (i := 1) (listed' := #[true, true, false, false, false, false, false, false, false, false, false, false]) rfl (by kernel_rfl) (by kernel_rfl) (by kernel_rfl) (by kernel_rfl) rfl rfl hg (allc (List.Mem.tail _ (List.Mem.head _)) alln) (fun m' H' hm' hX' => y_fieldAddr rfl At.lit fo29_0 rfl) ?_
        refine g_y (i := 2) (listed' := #[true, true, true, false, false, false, false, false, false, false, false, false]) rfl (by kernel_rfl) (by kernel_rfl) (by kernel_rfl) (by kernel_rfl) rfl rfl hg (allc (List.Mem.tail _ (List.Mem.head _)) alln) (fun m' H' hm' hX' => y_indexAddr_arr rfl rfl ta27 hlt At.lit) ?_
        refine g_y (i := 4) (listed' := #[true, true, true, false, true, false, false, false, false, false, false, false]) rfl (by kernel_rfl) (by kernel_rfl) (by kernel_rfl) (by kernel_rfl) rfl rfl hg (allc (List.Mem.tail _ (List.Mem.head _)) alln) (fun m' H' hm' hX' => y_move rfl) ?_
        refine g_y (i := 5) (listed' := #[true, true, true, false, true, true, false, false, false, false, false, false]) rfl (by kernel_rfl) (by kernel_rfl) (by kernel_rfl) (by kernel_rfl) rfl rfl hg (allc (List.Mem.tail _ (List.Mem.head _)) alln) (fun m' H' hm' hX' => y_fieldAddr rfl At.lit fo29_0 rfl) ?_
        refine g_y (i := 6) (listed' := #[true, true, true, false, true, true, true, false, false, false, false, false]) rfl (by kernel_rfl) (by kernel_rfl) (by kernel_rfl) (by kernel_rfl) rfl rfl hg (allc (List.Mem.tail _ (List.Mem.head _)) alln) (fun m' H' hm' hX' => y_indexAddr_arr rfl rfl ta27 hlt At.lit) ?_
        refine g_y (i := 7) (listed' := #[true, true, true, false, true, true, true, true, false, false, false, false]) rfl (by kernel_rfl) (by kernel_rfl) (by kernel_rfl) (by kernel_rfl) rfl rfl hg (allc (List.Mem.tail _ (List.Mem.head _)) alln) (fun m' H' hm' hX' => y_load_s rfl ts25 (RdS.mem (hX' _ (List.Mem.head _)) (cget_value _ _ hlt))) ?_
        refine g_y (i := 9) (listed' := #[true, true, true, false, true, true, true, true, false, true, false, false]) rfl (by kernel_rfl) (by kernel_rfl) (by kernel_rfl) (by kernel_rfl) rfl rfl hg (allc (List.Mem.tail _ (List.Mem.head _)) alln) (fun m' H' hm' hX' => y_fieldAddr rfl At.lit fo29_0 rfl) ?_
        refine g_s (i := 3) (listed' := #[true, true, true, true, true, true, true, true, false, true, false, false]) rfl (by kernel_rfl) (by kernel_rfl) rfl ?_
        refine s_y rfl (y_load_s rfl ts25 (RdS.blk (i := 2) rfl (cget_value _ _ hlt))) ?_
        refine ⟨⟨hg, (allc (List.Mem.tail _ (List.Mem.head _)) alln)⟩, ?_⟩
        refine g_y (i := 8) (listed' := #[true, true, true, true, true, true, true, true, true, true, false, false]) rfl (by kernel_rfl) (by kernel_rfl) (by kernel_rfl) (by kernel_rfl) rfl rfl hg (allc (List.Mem.tail _ (List.Mem.head _)) alln) (fun m' H' hm' hX' => y_wop rfl rfl rfl) ?_
        refine g_y (i := 10) (listed' := #[true, true, true, true, true, true, true, true, true, true, true, false]) rfl (by kernel_rfl) (by kernel_rfl) (by kernel_rfl) (by kernel_rfl) rfl rfl hg (allc (List.Mem.tail _ (List.Mem.head _)) alln) (fun m' H' hm' hX' => y_indexAddr_arr rfl rfl ta27 hlt At.lit) ?_
        refine g_s (i := 11) (listed' := #[true, true, true, true, true, true, true, true, true, true, true, true]) rfl (by kernel_rfl) (by kernel_rfl) rfl ?_
        refine s_store rfl rfl rfl ts25 rfl rfl (by simp [Value.oneCell', wv]) (i := 2) rfl (cput_value _ _ _ hlt) ?_
        refine ⟨⟨hg, (allc (List.Mem.tail _ (List.Mem.head _)) alln)⟩, ?_⟩
        refine g_done (by kernel_rfl) ?_
        clear hg
        refine hK8 _ _ _ ?_
        clear hK8 K8
        refine c_region ?_
        first | refine r_y rfl rfl (y_inc rfl (by omega)) ?_ | refine r_y rfl rfl (y_iop rfl rfl rfl) ?_
        refine r_y rfl rfl (y_move rfl) ?_
        refine r_nil ?_
        exact ⟨k0 - 1, (i + 1), by omega, ⟨rfl, rfl, rfl, rfl, trivial⟩, (by simp only [cubeMerge, ← merge_set hlt, merge_at hlt] <;> rfl), ⟨by omega, meet_step hlt hinv (by simpa using h2)⟩, hm⟩
    ·
      obtain rfl : i = 12 := by simp at h1; omega
      refine c_exit ?_
      refine hK4 _ _ _ ?_
      clear hK7 K7 hK4 K4
      refine c_seq (fun K14 hK14 => ?_)
      refine c_region ?_
      refine r_y rfl rfl (y_load_a rfl ts29 (RdA.blk (i := 2) rfl rfl)) ?_
      refine r_s rfl ?_
      refine s_store rfl rfl rfl ts29 rfl rfl (by simp [Value.oneCell', wv, Sl.v]) (i := 0) rfl rfl ?_
      refine r_y rfl rfl (y_assign rfl) ?_
      refine r_nil ?_
      refine hK14 _ _ _ ?_
      clear hK14 K14
      refine c_ret ?_
      refine e_ret 3 hm (res2 (r1_cell_a rfl ts29 (RdA.blk (i := 0) rfl rfl)) (r1_tmp rfl)) ?_
      have e : cubeMeetOk a b = true := by unfold cubeMeetOk; rw [hinv]; simpa using h0
      rw [e]
      exact ⟨rfl, rfl⟩
set_option maxRecDepth 100000 in
theorem within_w (a b : Cube) (m : Snap) (H : Hp) : Fn Try.prog 134 [.agg (encCube a).toArray, .agg (encCube b).toArray] m H (fun v _ H' => v = .bool (cubeWithin a b) ∧ H' = H) := by
  have hm : m.le m := Snap.le.refl m
  refine fn_end Try.func134 rfl rfl rfl ?_
  refine c_seq (fun K0 hK0 => ?_)
  refine c_region ?_
  refine r_s rfl ?_
  refine s_box_a rfl rfl (fun b0 => ?_)
  refine r_s rfl ?_
  refine s_box_a rfl rfl (fun b1 => ?_)
  refine r_y rfl rfl (y_assign rfl) ?_
  refine r_nil ?_
  refine hK0 _ _ _ ?_
  clear hK0 K0
  refine c_seq (fun K1 hK1 => ?_)
  refine c_region ?_
  refine r_y rfl rfl (y_load_a (cs := encCube a) rfl ts29 (RdA.blk (i := 1) rfl rfl)) ?_
  refine r_y rfl rfl (y_load_a (cs := encCube b) rfl ts29 (RdA.blk (i := 0) rfl rfl)) ?_
  refine r_s rfl ?_
  refine s_call0 rfl Try.call145 rfl (meet_w a b _ _) ?_
  rintro _ m2 _ hm2 ⟨rfl, rfl⟩
  replace hm := hm.trans hm2
  clear hm2
  refine r_y rfl rfl (y_move rfl) ?_
  refine r_y rfl rfl (y_extract rfl rfl) ?_
  refine r_y rfl rfl (y_extract rfl rfl) ?_
  refine r_s rfl ?_
  refine s_alloc rfl tz29 (fun b2 => ?_)
  refine r_s rfl ?_
  refine s_store (us := encCube (if cubeMeetOk a b then cubeMeet a b else zCube)) rfl rfl rfl ts29 rfl rfl (one_cube _) (i := 0) rfl rfl ?_
  refine r_y rfl rfl (y_assign rfl) ?_
  refine r_nil ?_
  refine hK1 _ _ _ ?_
  clear hK1 K1
  refine c_seq (fun K2 hK2 => ?_)
  refine c_region ?_
  refine r_y rfl rfl (y_move rfl) ?_
  refine r_y rfl rfl (y_move rfl) ?_
  refine r_split (j := 1) rfl (fun h0 => ?_) (fun h0 => ?_)
  ·
    refine r_yg rfl h0 rfl (y_load_a (cs := encCube (if cubeMeetOk a b then cubeMeet a b else zCube)) rfl ts29 (RdA.blk (i := 0) rfl rfl)) ?_
    refine r_yg rfl h0 rfl (y_load_a (cs := encCube a) rfl ts29 (RdA.blk (i := 2) rfl rfl)) ?_
    refine r_yg rfl h0 rfl (y_eqagg (dd := 6) (xs := encCube (if cubeMeetOk a b then cubeMeet a b else zCube)) (ys := encCube a) rfl rfl en29 ia29 rfl Try.eqGuardType29 rfl (alike_cube (if cubeMeetOk a b then cubeMeet a b else zCube) a)) ?_
    refine r_y rfl rfl (y_pickt rfl h0 rfl) ?_
    refine r_y rfl rfl (y_assign rfl) ?_
    refine r_nil ?_
    refine hK2 _ _ _ ?_
    clear hK2 K2
    refine c_ret ?_
    refine e_ret 3 hm (res_tmps rfl) ?_
    refine ⟨congrArg Value.bool ?_, rfl⟩
    unfold cubeWithin
    simp_all [ceq_cube]
  ·
    refine r_no' rfl rfl h0 ?_
    refine r_no' rfl rfl h0 ?_
    refine r_no' rfl rfl h0 ?_
    refine r_y rfl rfl (y_pickf rfl h0 rfl) ?_
    refine r_y rfl rfl (y_assign rfl) ?_
    refine r_nil ?_
    refine hK2 _ _ _ ?_
    clear hK2 K2
    refine c_ret ?_
    refine e_ret 3 hm (res_tmps rfl) ?_
    refine ⟨congrArg Value.bool ?_, rfl⟩
    unfold cubeWithin
    simp_all [ceq_cube]
set_option maxRecDepth 100000 in
theorem overlap_w (a b : RuleD) (s1 s2 : Sl) (m : Snap) (H : Hp) : Fn Try.prog 132 [.agg (encRule a s1).toArray, .agg (encRule b s2).toArray] m H (fun v _ H' => v = .bool (ruleOverlap a b) ∧ H' = H) := by
  have hm : m.le m := Snap.le.refl m
  refine fn_end Try.func132 rfl rfl rfl ?_
  refine c_seq (fun K0 hK0 => ?_)
  refine c_region ?_
  refine r_s rfl ?_
  refine s_box_a rfl rfl (fun b0 => ?_)
  refine r_s rfl ?_
  refine s_box_a rfl rfl (fun b1 => ?_)
  refine r_y rfl rfl (y_assign rfl) ?_
  refine r_nil ?_
  refine hK0 _ _ _ ?_
  clear hK0 K0
  refine c_seq (fun K1 hK1 => ?_)
  refine c_region ?_
  refine r_y rfl rfl (y_fieldAddr rfl At.lit fo50_0 rfl) ?_
  refine r_y rfl rfl (y_load_a (cs := encCube a.m) rfl ts29 (RdA.blk (i := 1) rfl rfl)) ?_
  refine r_y rfl rfl (y_fieldAddr rfl At.lit fo50_0 rfl) ?_
  refine r_y rfl rfl (y_load_a (cs := encCube b.m) rfl ts29 (RdA.blk (i := 0) rfl rfl)) ?_
  refine r_s rfl ?_
  refine s_call0 rfl Try.call145 rfl (meet_w a.m b.m _ _) ?_
  rintro _ m2 _ hm2 ⟨rfl, rfl⟩
  replace hm := hm.trans hm2
  clear hm2
  refine r_y rfl rfl (y_move rfl) ?_
  refine r_y rfl rfl (y_extract rfl rfl) ?_
  refine r_y rfl rfl (y_extract rfl rfl) ?_
  refine r_s rfl ?_
  refine s_alloc rfl tz29 (fun b2 => ?_)
  refine r_s rfl ?_
  refine s_store (us := encCube (if cubeMeetOk a.m b.m then cubeMeet a.m b.m else zCube)) rfl rfl rfl ts29 rfl rfl (one_cube _) (i := 0) rfl rfl ?_
  refine r_y rfl rfl (y_assign rfl) ?_
  refine r_nil ?_
  refine hK1 _ _ _ ?_
  clear hK1 K1
  refine c_seq (fun K2 hK2 => ?_)
  refine c_region ?_
  refine r_y rfl rfl (y_move rfl) ?_
  refine r_y rfl rfl (y_move rfl) ?_
  refine r_split (j := 1) rfl (fun h0 => ?_) (fun h0 => ?_)
  ·
    refine r_yg rfl h0 rfl (y_fieldAddr rfl At.lit fo50_1 rfl) ?_
    refine r_yg rfl h0 rfl (y_load_s rfl ts3 (RdS.blk (i := 2) rfl rfl)) ?_
    refine r_yg rfl h0 rfl (y_fieldAddr rfl At.lit fo50_1 rfl) ?_
    refine r_yg rfl h0 rfl (y_load_s rfl ts3 (RdS.blk (i := 1) rfl rfl)) ?_
    refine r_yg rfl h0 rfl (y_iop rfl rfl rfl) ?_
    refine r_y rfl rfl (y_pickt rfl h0 rfl) ?_
    refine r_y rfl rfl (y_assign rfl) ?_
    refine r_nil ?_
    refine hK2 _ _ _ ?_
    clear hK2 K2
    refine c_ret ?_
    refine e_ret 3 hm (res_tmps rfl) ?_
    refine ⟨congrArg Value.bool ?_, rfl⟩
    unfold ruleOverlap
    simp_all
  ·
    refine r_no' rfl rfl h0 ?_
    refine r_no' rfl rfl h0 ?_
    refine r_no' rfl rfl h0 ?_
    refine r_no' rfl rfl h0 ?_
    refine r_no' rfl rfl h0 ?_
    refine r_y rfl rfl (y_pickf rfl h0 rfl) ?_
    refine r_y rfl rfl (y_assign rfl) ?_
    refine r_nil ?_
    refine hK2 _ _ _ ?_
    clear hK2 K2
    refine c_ret ?_
    refine e_ret 3 hm (res_tmps rfl) ?_
    refine ⟨congrArg Value.bool ?_, rfl⟩
    unfold ruleOverlap
    simp_all
theorem cloneA2_w (s : Sl) (l : List ActD) (m : Snap) (H : Hp) (hz : FzA m s l) (hok : s.ok) (hfit : l.length ≤ 4398046511103) : Fn Try.prog 84 [s.v] m H (fun v m' H' => ∃ s' : Sl, v = s'.v ∧ s'.n = l.length ∧ s'.n ≤ s'.cap ∧ H' = .vec s'.a s'.n s'.cap 53 4 (l.map encAct) :: H) :=
  (cloneA_w s l m H hz hok hfit).post fun v m' H' w hm hs ⟨s', h1, h2, h3⟩ => by
    subst h3
    refine ⟨m', _, Snap.le.refl _, hs, s', h1, h2, ?_, rfl⟩
    have hh : Item.holds w (.vec s'.a s'.n s'.cap 53 4 (l.map encAct)) := hs.hold _ List.mem_cons_self
    rcases hh.1.2 with ⟨hv, h0⟩ | ⟨g, cap', cur, hv, _, _, hle, _⟩
    · rw [h0]; exact Nat.zero_le _
    · have := (Value.slice.inj hv).2.2; omega
set_option maxRecDepth 100000 in
theorem modRule_w (x : ModD) (s : Sl) (m : Snap) (H : Hp) (hz : FzA m s x.acts) (hok : s.ok) (hfit : x.acts.length ≤ 4398046511103) : Fn Try.prog 129 [.agg (encMod x s).toArray] m H (fun v m' H' => ∃ o : OwnR, v = .agg o.enc.toArray ∧ o.r = modRule x ∧ o.ok ∧ H' = o.it :: H) := by
  have hm : m.le m := Snap.le.refl m
  refine fn_end Try.func129 rfl rfl rfl ?_
  refine c_seq (fun K0 hK0 => ?_)
  refine c_region ?_
  refine r_s rfl ?_
  refine s_box_a rfl rfl (fun b0 => ?_)
  refine r_s rfl ?_
  refine s_alloc rfl tz50 (fun b1 => ?_)
  refine r_nil ?_
  refine hK0 _ _ _ ?_
  clear hK0 K0
  refine c_seq (fun K1 hK1 => ?_)
  refine c_draw ([.blk b0 (.cells (encMod x s).toArray 32)]) (by kernel_rfl) (fun hg => ?_)
  have hz_g := hz
  refine g_y (i := 0) (listed' := #[true, false, false, false, false, false, false, false, false, false, false, false, false, false, false, false]) rfl (by kernel_rfl) (by kernel_rfl) (by kernel_rfl) (by kernel_rfl) rfl rfl hg (allc (List.Mem.tail _ (List.Mem.head _)) alln) (fun m' H' hm' hX' => y_fieldAddr rfl At.lit fo32_1 rfl) ?_
  refine g_y (i := 1) (listed' := #[true, true, false, false, false, false, false, false, false, false, false, false, false, false, false, false]) rfl (by kernel_rfl) (by kernel_rfl) (by kernel_rfl) (by kernel_rfl) rfl rfl hg (allc (List.Mem.tail _ (List.Mem.head _)) alln) (fun m' H' hm' hX' => y_load_a (cs := encCube x.m) rfl ts29 (RdA.mem (hX' _ (List.Mem.head _)) rfl)) ?_
  refine g_y (i := 2) (listed' := #[true, true, true, false, false, false, false, false, false, false, false, false, false, false, false, false]) rfl (by kernel_rfl) (by kernel_rfl) (by kernel_rfl) (by kernel_rfl) rfl rfl hg (allc (List.Mem.tail _ (List.Mem.head _)) alln) (fun m' H' hm' hX' => y_fieldAddr rfl At.lit fo32_2 rfl) ?_
  refine g_y (i := 3) (listed' := #[true, true, true, true, false, false, false, false, false, false, false, false, false, false, false, false]) rfl (by kernel_rfl) (by kernel_rfl) (by kernel_rfl) (by kernel_rfl) rfl rfl hg (allc (List.Mem.tail _ (List.Mem.head _)) alln) (fun m' H' hm' hX' => y_load_s rfl ts3 (RdS.mem (hX' _ (List.Mem.head _)) rfl)) ?_
  refine g_y (i := 4) (listed' := #[true, true, true, true, true, false, false, false, false, false, false, false, false, false, false, false]) rfl (by kernel_rfl) (by kernel_rfl) (by kernel_rfl) (by kernel_rfl) rfl rfl hg (allc (List.Mem.tail _ (List.Mem.head _)) alln) (fun m' H' hm' hX' => y_fieldAddr rfl At.lit fo32_3 rfl) ?_
  refine g_y (i := 5) (listed' := #[true, true, true, true, true, true, false, false, false, false, false, false, false, false, false, false]) rfl (by kernel_rfl) (by kernel_rfl) (by kernel_rfl) (by kernel_rfl) rfl rfl hg (allc (List.Mem.tail _ (List.Mem.head _)) alln) (fun m' H' hm' hX' => y_load_s rfl ts30 (RdS.mem (hX' _ (List.Mem.head _)) rfl)) ?_
  refine g_y (i := 8) (listed' := #[true, true, true, true, true, true, false, false, true, false, false, false, false, false, false, false]) rfl (by kernel_rfl) (by kernel_rfl) (by kernel_rfl) (by kernel_rfl) rfl rfl hg (allc (List.Mem.tail _ (List.Mem.head _)) alln) (fun m' H' hm' hX' => y_fieldAddr rfl At.lit fo32_4 rfl) ?_
  refine g_y (i := 9) (listed' := #[true, true, true, true, true, true, false, false, true, true, false, false, false, false, false, false]) rfl (by kernel_rfl) (by kernel_rfl) (by kernel_rfl) (by kernel_rfl) rfl rfl hg (allc (List.Mem.tail _ (List.Mem.head _)) alln) (fun m' H' hm' hX' => y_load_s rfl ts3 (RdS.mem (hX' _ (List.Mem.head _)) rfl)) ?_
  refine g_y (i := 10) (listed' := #[true, true, true, true, true, true, false, false, true, true, true, false, false, false, false, false]) rfl (by kernel_rfl) (by kernel_rfl) (by kernel_rfl) (by kernel_rfl) rfl rfl hg (allc (List.Mem.tail _ (List.Mem.head _)) alln) (fun m' H' hm' hX' => y_fieldAddr rfl At.lit fo32_5 rfl) ?_
  refine g_y (i := 11) (listed' := #[true, true, true, true, true, true, false, false, true, true, true, true, false, false, false, false]) rfl (by kernel_rfl) (by kernel_rfl) (by kernel_rfl) (by kernel_rfl) rfl rfl hg (allc (List.Mem.tail _ (List.Mem.head _)) alln) (fun m' H' hm' hX' => y_load_s rfl ts3 (RdS.mem (hX' _ (List.Mem.head _)) rfl)) ?_
  refine g_y (i := 12) (listed' := #[true, true, true, true, true, true, false, false, true, true, true, true, true, false, false, false]) rfl (by kernel_rfl) (by kernel_rfl) (by kernel_rfl) (by kernel_rfl) rfl rfl hg (allc (List.Mem.tail _ (List.Mem.head _)) alln) (fun m' H' hm' hX' => y_fieldAddr rfl At.lit fo32_6 rfl) ?_
  refine g_y (i := 13) (listed' := #[true, true, true, true, true, true, false, false, true, true, true, true, true, true, false, false]) rfl (by kernel_rfl) (by kernel_rfl) (by kernel_rfl) (by kernel_rfl) rfl rfl hg (allc (List.Mem.tail _ (List.Mem.head _)) alln) (fun m' H' hm' hX' => y_load_s rfl ts3 (RdS.mem (hX' _ (List.Mem.head _)) rfl)) ?_
  refine g_s (i := 6) (listed' := #[true, true, true, true, true, true, true, false, true, true, true, true, true, true, false, false]) rfl (by kernel_rfl) (by kernel_rfl) rfl ?_
  refine s_call0 rfl Try.call84 rfl (cloneA2_w s x.acts _ _ hz hok hfit) ?_
  rintro _ m2 _ hm2 ⟨sc, rfl, hsc, hle, rfl⟩
  replace hm := hm.trans hm2
  refine ⟨⟨hg.trans hm2, (allc (List.Mem.tail _ (List.Mem.tail _ (List.Mem.head _))) alln)⟩, ?_⟩
  replace hg := hg.trans hm2
  replace hz := hz.mono hm2
  clear hm2
  refine g_s (i := 7) (listed' := #[true, true, true, true, true, true, true, true, true, true, true, true, true, true, false, false]) rfl (by kernel_rfl) (by kernel_rfl) rfl ?_
  refine s_call0 rfl Try.call83 rfl (clipA_w sc.a sc.n sc.cap _ _ hle) ?_
  rintro _ m2 _ hm2 ⟨rfl, rfl⟩
  replace hm := hm.trans hm2
  refine ⟨⟨hg.trans hm2, (allc (List.Mem.tail _ (List.Mem.tail _ (List.Mem.head _))) alln)⟩, ?_⟩
  replace hg := hg.trans hm2
  replace hz := hz.mono hm2
  clear hm2
  refine g_y (i := 14) (listed' := #[true, true, true, true, true, true, true, true, true, true, true, true, true, true, true, false]) rfl (by kernel_rfl) (by kernel_rfl) (by kernel_rfl) (by kernel_rfl) rfl rfl hg (allc (List.Mem.tail _ (List.Mem.tail _ (List.Mem.head _))) alln) (fun m' H' hm' hX' => y_bld rfl tz50 fk50 bp50_0_1_2_3_4_5 rfl rfl) ?_
  refine g_s (i := 15) (listed' := #[true, true, true, true, true, true, true, true, true, true, true, true, true, true, true, true]) rfl (by kernel_rfl) (by kernel_rfl) rfl ?_
  refine s_store rfl rfl rfl ts50 rfl rfl (by simp [Value.oneCell', wv, Sl.v]) (i := 1) rfl rfl ?_
  refine ⟨⟨hg, (allc (List.Mem.tail _ (List.Mem.tail _ (List.Mem.head _))) alln)⟩, ?_⟩
  refine g_done (by kernel_rfl) ?_
  clear hg hz_g
  refine hK1 _ _ _ ?_
  clear hK1 K1
  refine c_ret ?_
  refine e_retf [0, 1, 2] 2 hm (res_cell_a rfl ts50 (RdA.blk (i := 1) rfl rfl)) ?_
  exact ⟨⟨modRule x, ⟨sc.a, sc.n, sc.n⟩, sc.cap⟩, rfl, rfl, rfl, rfl⟩
set_option maxRecDepth 100000 in
theorem add1_w (r q : RuleD) (s1 s2 : Sl) (b : Nat) (m : Snap) (H : Hp) : Fn Try.prog 130 [.agg (encRule r s1).toArray, .pointer (some ⟨b, 0, none⟩)] m (.blk b (.cells (encRule q s2).toArray 50) :: H) (fun v _ H' => v = .bool (ruleKey r q) ∧ H' = .blk b (.cells (encRule q s2).toArray 50) :: H) := by
  have hm : m.le m := Snap.le.refl m
  refine fn_end Try.func130 rfl rfl rfl ?_
  refine c_seq (fun K0 hK0 => ?_)
  refine c_region ?_
  refine r_s rfl ?_
  refine s_box_a rfl rfl (fun b0 => ?_)
  refine r_y rfl rfl (y_assign rfl) ?_
  refine r_nil ?_
  refine hK0 _ _ _ ?_
  clear hK0 K0
  refine c_seq (fun K1 hK1 => ?_)
  refine c_region ?_
  refine r_y rfl rfl (y_load_a (cs := encRule r s1) rfl ts50 (RdA.blk (i := 0) rfl rfl)) ?_
  refine r_y rfl rfl (y_load_a (cs := encRule q s2) rfl ts50 (RdA.blk (i := 1) rfl rfl)) ?_
  refine r_s rfl ?_
  refine s_call0 rfl Try.call125 rfl (ruleKey_w r q s1 s2 _ _) ?_
  rintro _ m2 _ hm2 ⟨rfl, rfl⟩
  replace hm := hm.trans hm2
  clear hm2
  refine r_y rfl rfl (y_assign rfl) ?_
  refine r_nil ?_
  refine hK1 _ _ _ ?_
  clear hK1 K1
  refine c_ret ?_
  refine e_ret 1 hm (res_tmps rfl) ?_
  exact ⟨rfl, rfl⟩
set_option maxRecDepth 100000 in
theorem add2_w (r q : RuleD) (s1 s2 : Sl) (b : Nat) (m : Snap) (H : Hp) : Fn Try.prog 131 [.agg (encRule r s1).toArray, .pointer (some ⟨b, 0, none⟩)] m (.blk b (.cells (encRule q s2).toArray 50) :: H) (fun v _ H' => v = .bool (!ruleKey r q && ruleOverlap r q) ∧ H' = .blk b (.cells (encRule q s2).toArray 50) :: H) := by
  have hm : m.le m := Snap.le.refl m
  refine fn_end Try.func131 rfl rfl rfl ?_
  refine c_seq (fun K0 hK0 => ?_)
  refine c_region ?_
  refine r_s rfl ?_
  refine s_box_a rfl rfl (fun b0 => ?_)
  refine r_y rfl rfl (y_assign rfl) ?_
  refine r_nil ?_
  refine hK0 _ _ _ ?_
  clear hK0 K0
  refine c_seq (fun K1 hK1 => ?_)
  refine c_region ?_
  refine r_y rfl rfl (y_load_a (cs := encRule r s1) rfl ts50 (RdA.blk (i := 0) rfl rfl)) ?_
  refine r_y rfl rfl (y_load_a (cs := encRule q s2) rfl ts50 (RdA.blk (i := 1) rfl rfl)) ?_
  refine r_s rfl ?_
  refine s_call0 rfl Try.call125 rfl (ruleKey_w r q s1 s2 _ _) ?_
  rintro _ m2 _ hm2 ⟨rfl, rfl⟩
  replace hm := hm.trans hm2
  clear hm2
  refine r_y rfl rfl (y_not rfl) ?_
  refine r_y rfl rfl (y_move rfl) ?_
  refine r_split (j := 4) rfl (fun h0 => ?_) (fun h0 => ?_)
  ·
    refine r_yg rfl h0 rfl (y_load_a (cs := encRule r s1) rfl ts50 (RdA.blk (i := 0) rfl rfl)) ?_
    refine r_yg rfl h0 rfl (y_load_a (cs := encRule q s2) rfl ts50 (RdA.blk (i := 1) rfl rfl)) ?_
    refine r_sg rfl h0 ?_
    refine s_call0 rfl Try.call132 rfl (overlap_w r q s1 s2 _ _) ?_
    rintro _ m2 _ hm2 ⟨rfl, rfl⟩
    replace hm := hm.trans hm2
    clear hm2
    refine r_y rfl rfl (y_pickt rfl h0 rfl) ?_
    refine r_y rfl rfl (y_assign rfl) ?_
    refine r_nil ?_
    refine hK1 _ _ _ ?_
    clear hK1 K1
    refine c_ret ?_
    refine e_ret 1 hm (res_tmps rfl) ?_
    refine ⟨congrArg Value.bool ?_, rfl⟩
    unfold ruleKey at *
    simp_all
  ·
    refine r_no' rfl rfl h0 ?_
    refine r_no' rfl rfl h0 ?_
    refine r_no' rfl rfl h0 ?_
    refine r_y rfl rfl (y_pickf rfl h0 rfl) ?_
    refine r_y rfl rfl (y_assign rfl) ?_
    refine r_nil ?_
    refine hK1 _ _ _ ?_
    clear hK1 K1
    refine c_ret ?_
    refine e_ret 1 hm (res_tmps rfl) ?_
    refine ⟨congrArg Value.bool ?_, rfl⟩
    unfold ruleKey at *
    simp_all
set_option maxRecDepth 100000 in
theorem touches_w (x : ModD) (s : Sl) (r : RuleD) (s2 : Sl) (m : Snap) (H : Hp) (hz : FzA m s x.acts) (hok : s.ok) (hfit : x.acts.length ≤ 4398046511103) : Fn Try.prog 82 [.agg (encMod x s).toArray, .agg (encRule r s2).toArray] m H (fun v _ H' => v = .bool (modTouches x r) ∧ H' = H) := by
  have hm : m.le m := Snap.le.refl m
  refine fn_end Try.func82 rfl rfl rfl ?_
  refine c_seq (fun K0 hK0 => ?_)
  refine c_region ?_
  refine r_s rfl ?_
  refine s_box_a rfl rfl (fun b0 => ?_)
  refine r_s rfl ?_
  refine s_box_a rfl rfl (fun b1 => ?_)
  refine r_y rfl rfl (y_assign rfl) ?_
  refine r_nil ?_
  refine hK0 _ _ _ ?_
  clear hK0 K0
  refine c_seq (fun K1 hK1 => ?_)
  refine c_seq (fun K2 hK2 => ?_)
  refine c_region ?_
  refine r_y rfl rfl (y_fieldAddr rfl At.lit fo32_0 rfl) ?_
  refine r_y rfl rfl (y_load_s rfl ts3 (RdS.blk (i := 1) rfl rfl)) ?_
  refine r_nil ?_
  refine hK2 _ _ _ ?_
  clear hK2 K2
  refine c_block ?_
  refine c_seq (fun K3 hK3 => ?_)
  refine c_seq (fun K4 hK4 => ?_)
  refine c_region ?_
  refine r_y rfl rfl (y_iop rfl rfl rfl) ?_
  refine r_y rfl rfl (y_assign rfl) ?_
  refine r_nil ?_
  refine hK4 _ _ _ ?_
  clear hK4 K4
  refine c_cond rfl (fun h0 => ?_) (fun h0 => ?_)
  ·
    refine c_skip ?_
    refine hK3 _ _ _ ?_
    clear hK3 K3
    refine c_ift rfl h0 ?_
    refine c_seq (fun K5 hK5 => ?_)
    refine c_region ?_
    refine r_y rfl rfl (y_fieldAddr rfl At.lit fo50_5 rfl) ?_
    refine r_y rfl rfl (y_load_s rfl ts3 (RdS.blk (i := 0) rfl rfl)) ?_
    refine r_y rfl rfl (y_fieldAddr rfl At.lit fo32_6 rfl) ?_
    refine r_y rfl rfl (y_load_s rfl ts3 (RdS.blk (i := 1) rfl rfl)) ?_
    refine r_y rfl rfl (y_iop rfl rfl rfl) ?_
    refine r_y rfl rfl (y_move rfl) ?_
    refine r_split (j := 5) rfl (fun h1 => ?_) (fun h1 => ?_)
    ·
      refine r_yg rfl h1 rfl (y_fieldAddr rfl At.lit fo50_0 rfl) ?_
      refine r_yg rfl h1 rfl (y_load_a (cs := encCube r.m) rfl ts29 (RdA.blk (i := 0) rfl rfl)) ?_
      refine r_yg rfl h1 rfl (y_fieldAddr rfl At.lit fo32_1 rfl) ?_
      refine r_yg rfl h1 rfl (y_load_a (cs := encCube x.m) rfl ts29 (RdA.blk (i := 1) rfl rfl)) ?_
      refine r_sg rfl h1 ?_
      refine s_call0 rfl Try.call134 rfl (within_w r.m x.m _ _) ?_
      rintro _ m2 _ hm2 ⟨rfl, rfl⟩
      replace hm := hm.trans hm2
      replace hz := hz.mono hm2
      clear hm2
      refine r_y rfl rfl (y_pickt rfl h1 rfl) ?_
      refine r_y rfl rfl (y_assign rfl) ?_
      refine r_nil ?_
      refine hK5 _ _ _ ?_
      clear hK5 K5
      refine c_ret ?_
      refine e_ret 2 hm (res_tmps rfl) ?_
      refine ⟨congrArg Value.bool ?_, rfl⟩
      unfold modTouches ruleKey
      simp_all
    ·
      refine r_no' rfl rfl h1 ?_
      refine r_no' rfl rfl h1 ?_
      refine r_no' rfl rfl h1 ?_
      refine r_no' rfl rfl h1 ?_
      refine r_no' rfl rfl h1 ?_
      refine r_y rfl rfl (y_pickf rfl h1 rfl) ?_
      refine r_y rfl rfl (y_assign rfl) ?_
      refine r_nil ?_
      refine hK5 _ _ _ ?_
      clear hK5 K5
      refine c_ret ?_
      refine e_ret 2 hm (res_tmps rfl) ?_
      refine ⟨congrArg Value.bool ?_, rfl⟩
      unfold modTouches ruleKey
      simp_all
  ·
    refine c_region ?_
    refine r_y rfl rfl (y_iop rfl rfl rfl) ?_
    refine r_y rfl rfl (y_assign rfl) ?_
    refine r_nil ?_
    refine hK3 _ _ _ ?_
    clear hK3 K3
    refine c_cond rfl (fun h2 => ?_) (fun h2 => ?_)
    ·
      refine c_seq (fun K6 hK6 => ?_)
      refine c_region ?_
      refine r_y rfl rfl (y_fieldAddr rfl At.lit fo50_5 rfl) ?_
      refine r_y rfl rfl (y_load_s rfl ts3 (RdS.blk (i := 0) rfl rfl)) ?_
      refine r_y rfl rfl (y_fieldAddr rfl At.lit fo32_6 rfl) ?_
      refine r_y rfl rfl (y_load_s rfl ts3 (RdS.blk (i := 1) rfl rfl)) ?_
      refine r_y rfl rfl (y_iop rfl rfl rfl) ?_
      refine r_y rfl rfl (y_move rfl) ?_
      refine r_split (j := 5) rfl (fun h3 => ?_) (fun h3 => ?_)
      ·
        refine r_yg rfl h3 rfl (y_fieldAddr rfl At.lit fo50_0 rfl) ?_
        refine r_yg rfl h3 rfl (y_load_a (cs := encCube r.m) rfl ts29 (RdA.blk (i := 0) rfl rfl)) ?_
        refine r_yg rfl h3 rfl (y_fieldAddr rfl At.lit fo32_1 rfl) ?_
        refine r_yg rfl h3 rfl (y_load_a (cs := encCube x.m) rfl ts29 (RdA.blk (i := 1) rfl rfl)) ?_
        refine r_sg rfl h3 ?_
        refine s_call0 rfl Try.call134 rfl (within_w r.m x.m _ _) ?_
        rintro _ m2 _ hm2 ⟨rfl, rfl⟩
        replace hm := hm.trans hm2
        replace hz := hz.mono hm2
        clear hm2
        refine r_y rfl rfl (y_pickt rfl h3 rfl) ?_
        refine r_y rfl rfl (y_assign rfl) ?_
        refine r_nil ?_
        refine hK6 _ _ _ ?_
        clear hK6 K6
        refine c_ret ?_
        refine e_ret 2 hm (res_tmps rfl) ?_
        refine ⟨congrArg Value.bool ?_, rfl⟩
        unfold modTouches ruleKey
        simp_all
      ·
        refine r_no' rfl rfl h3 ?_
        refine r_no' rfl rfl h3 ?_
        refine r_no' rfl rfl h3 ?_
        refine r_no' rfl rfl h3 ?_
        refine r_no' rfl rfl h3 ?_
        refine r_y rfl rfl (y_pickf rfl h3 rfl) ?_
        refine r_y rfl rfl (y_assign rfl) ?_
        refine r_nil ?_
        refine hK6 _ _ _ ?_
        clear hK6 K6
        refine c_ret ?_
        refine e_ret 2 hm (res_tmps rfl) ?_
        refine ⟨congrArg Value.bool ?_, rfl⟩
        unfold modTouches ruleKey
        simp_all
    ·
      refine c_seq (fun K7 hK7 => ?_)
      refine c_seq (fun K8 hK8 => ?_)
      refine c_region ?_
      refine r_y rfl rfl (y_iop rfl rfl rfl) ?_
      refine r_y rfl rfl (y_assign rfl) ?_
      refine r_nil ?_
      refine hK8 _ _ _ ?_
      clear hK8 K8
      refine c_cond rfl (fun h4 => ?_) (fun h4 => ?_)
      ·
        refine c_skip ?_
        refine hK7 _ _ _ ?_
        clear hK7 K7
        refine c_ift rfl h4 ?_
        refine c_seq (fun K9 hK9 => ?_)
        refine c_draw ([.blk b0 (.cells (encMod x s).toArray 32), .blk b1 (.cells (encRule r s2).toArray 50)]) (by kernel_rfl) (fun hg => ?_)
        have hz_g := hz
        refine g_y (i := 0) (listed' := #[true, false, false, false, false, false, false, false, false, false, false, false]) rfl (by kernel_rfl) (by kernel_rfl) (by kernel_rfl) (by kernel_rfl) rfl rfl hg (allc (List.Mem.tail _ (List.Mem.head _)) (allc (List.Mem.head _) alln)) (fun m' H' hm' hX' => y_fieldAddr rfl At.lit fo50_5 rfl) ?_
        refine g_y (i := 1) (listed' := #[true, true, false, false, false, false, false, false, false, false, false, false]) rfl (by kernel_rfl) (by kernel_rfl) (by kernel_rfl) (by kernel_rfl) rfl rfl hg (allc (List.Mem.tail _ (List.Mem.head _)) (allc (List.Mem.head _) alln)) (fun m' H' hm' hX' => y_load_s rfl ts3 (RdS.mem (hX' _ (List.Mem.tail _ (List.Mem.head _))) rfl)) ?_
        refine g_y (i := 2) (listed' := #[true, true, true, false, false, false, false, false, false, false, false, false]) rfl (by kernel_rfl) (by kernel_rfl) (by kernel_rfl) (by kernel_rfl) rfl rfl hg (allc (List.Mem.tail _ (List.Mem.head _)) (allc (List.Mem.head _) alln)) (fun m' H' hm' hX' => y_fieldAddr rfl At.lit fo32_6 rfl) ?_
        refine g_y (i := 3) (listed' := #[true, true, true, true, false, false, false, false, false, false, false, false]) rfl (by kernel_rfl) (by kernel_rfl) (by kernel_rfl) (by kernel_rfl) rfl rfl hg (allc (List.Mem.tail _ (List.Mem.head _)) (allc (List.Mem.head _) alln)) (fun m' H' hm' hX' => y_load_s rfl ts3 (RdS.mem (hX' _ (List.Mem.head _)) rfl)) ?_
        refine g_y (i := 4) (listed' := #[true, true, true, true, true, false, false, false, false, false, false, false]) rfl (by kernel_rfl) (by kernel_rfl) (by kernel_rfl) (by kernel_rfl) rfl rfl hg (allc (List.Mem.tail _ (List.Mem.head _)) (allc (List.Mem.head _) alln)) (fun m' H' hm' hX' => y_iop rfl rfl rfl) ?_
        refine g_y (i := 5) (listed' := #[true, true, true, true, true, true, false, false, false, false, false, false]) rfl (by kernel_rfl) (by kernel_rfl) (by kernel_rfl) (by kernel_rfl) rfl rfl hg (allc (List.Mem.tail _ (List.Mem.head _)) (allc (List.Mem.head _) alln)) (fun m' H' hm' hX' => y_move rfl) ?_
        refine g_split (j := 5) rfl (fun h5 => ?_) (fun h5 => ?_)
        ·
          refine g_yg (i := 6) (listed' := #[true, true, true, true, true, true, true, false, false, false, false, false]) rfl (by kernel_rfl) (by kernel_rfl) (by kernel_rfl) (by kernel_rfl) rfl rfl h5 rfl hg (allc (List.Mem.tail _ (List.Mem.head _)) (allc (List.Mem.head _) alln)) (fun m' H' hm' hX' => y_load_a (cs := encRule r s2) rfl ts50 (RdA.mem (hX' _ (List.Mem.tail _ (List.Mem.head _))) rfl)) ?_
          refine g_yg (i := 7) (listed' := #[true, true, true, true, true, true, true, true, false, false, false, false]) rfl (by kernel_rfl) (by kernel_rfl) (by kernel_rfl) (by kernel_rfl) rfl rfl h5 rfl hg (allc (List.Mem.tail _ (List.Mem.head _)) (allc (List.Mem.head _) alln)) (fun m' H' hm' hX' => y_load_a (cs := encMod x s) rfl ts32 (RdA.mem (hX' _ (List.Mem.head _)) rfl)) ?_
          refine g_sg (i := 8) (listed' := #[true, true, true, true, true, true, true, true, true, false, false, false]) rfl (by kernel_rfl) (by kernel_rfl) rfl rfl h5 ?_
          refine s_call0 rfl Try.call129 rfl (modRule_w x s _ _ hz hok hfit) ?_
          rintro _ m2 _ hm2 ⟨o, rfl, hor, hoo, rfl⟩
          replace hm := hm.trans hm2
          refine ⟨⟨hg.trans hm2, (allc (List.Mem.tail _ (List.Mem.tail _ (List.Mem.head _))) (allc (List.Mem.tail _ (List.Mem.head _)) alln))⟩, ?_⟩
          replace hg := hg.trans hm2
          replace hz := hz.mono hm2
          clear hm2
          refine g_sg (i := 9) (listed' := #[true, true, true, true, true, true, true, true, true, true, false, false]) rfl (by kernel_rfl) (by kernel_rfl) rfl rfl h5 ?_
          refine s_call0 rfl Try.call125 rfl (ruleKey_w r o.r s2 o.s _ _) ?_
          rintro _ m2 _ hm2 ⟨rfl, rfl⟩
          replace hm := hm.trans hm2
          refine ⟨⟨hg.trans hm2, (allc (List.Mem.tail _ (List.Mem.tail _ (List.Mem.head _))) (allc (List.Mem.tail _ (List.Mem.head _)) alln))⟩, ?_⟩
          replace hg := hg.trans hm2
          replace hz := hz.mono hm2
          clear hm2
          refine g_y (i := 10) (listed' := #[true, true, true, true, true, true, true, true, true, true, true, false]) rfl (by kernel_rfl) (by kernel_rfl) (by kernel_rfl) (by kernel_rfl) rfl rfl hg (allc (List.Mem.tail _ (List.Mem.tail _ (List.Mem.head _))) (allc (List.Mem.tail _ (List.Mem.head _)) alln)) (fun m' H' hm' hX' => y_pickt rfl h5 rfl) ?_
          refine g_y (i := 11) (listed' := #[true, true, true, true, true, true, true, true, true, true, true, true]) rfl (by kernel_rfl) (by kernel_rfl) (by kernel_rfl) (by kernel_rfl) rfl rfl hg (allc (List.Mem.tail _ (List.Mem.tail _ (List.Mem.head _))) (allc (List.Mem.tail _ (List.Mem.head _)) alln)) (fun m' H' hm' hX' => y_assign rfl) ?_
          refine g_done (by kernel_rfl) ?_
          clear hg hz_g
          refine hK9 _ _ _ ?_
          clear hK9 K9
          refine c_ret ?_
          refine e_ret 3 hm (res_tmps rfl) ?_
          refine ⟨congrArg Value.bool ?_, rfl⟩
          unfold modTouches ruleKey
          simp_all
        ·
          refine g_no (i := 6) (listed' := #[true, true, true, true, true, true, true, false, false, false, false, false]) rfl (by kernel_rfl) (by kernel_rfl) (by kernel_rfl) (by kernel_rfl) rfl rfl h5 rfl hg (allc (List.Mem.tail _ (List.Mem.head _)) (allc (List.Mem.head _) alln)) ?_
          refine g_no (i := 7) (listed' := #[true, true, true, true, true, true, true, true, false, false, false, false]) rfl (by kernel_rfl) (by kernel_rfl) (by kernel_rfl) (by kernel_rfl) rfl rfl h5 rfl hg (allc (List.Mem.tail _ (List.Mem.head _)) (allc (List.Mem.head _) alln)) ?_
          refine g_no (i := 8) (listed' := #[true, true, true, true, true, true, true, true, true, false, false, false]) rfl (by kernel_rfl) (by kernel_rfl) (by kernel_rfl) (by kernel_rfl) rfl rfl h5 rfl hg (allc (List.Mem.tail _ (List.Mem.head _)) (allc (List.Mem.head _) alln)) ?_
          refine g_no (i := 9) (listed' := #[true, true, true, true, true, true, true, true, true, true, false, false]) rfl (by kernel_rfl) (by kernel_rfl) (by kernel_rfl) (by kernel_rfl) rfl rfl h5 rfl hg (allc (List.Mem.tail _ (List.Mem.head _)) (allc (List.Mem.head _) alln)) ?_
          refine g_y (i := 10) (listed' := #[true, true, true, true, true, true, true, true, true, true, true, false]) rfl (by kernel_rfl) (by kernel_rfl) (by kernel_rfl) (by kernel_rfl) rfl rfl hg (allc (List.Mem.tail _ (List.Mem.head _)) (allc (List.Mem.head _) alln)) (fun m' H' hm' hX' => y_pickf rfl h5 rfl) ?_
          refine g_y (i := 11) (listed' := #[true, true, true, true, true, true, true, true, true, true, true, true]) rfl (by kernel_rfl) (by kernel_rfl) (by kernel_rfl) (by kernel_rfl) rfl rfl hg (allc (List.Mem.tail _ (List.Mem.head _)) (allc (List.Mem.head _) alln)) (fun m' H' hm' hX' => y_assign rfl) ?_
          refine g_done (by kernel_rfl) ?_
          clear hg hz_g
          refine hK9 _ _ _ ?_
          clear hK9 K9
          refine c_ret ?_
          refine e_ret 2 hm (res_tmps rfl) ?_
          refine ⟨congrArg Value.bool ?_, rfl⟩
          unfold modTouches ruleKey
          simp_all
      ·
        refine c_region ?_
        refine r_y rfl rfl (y_iop rfl rfl rfl) ?_
        refine r_y rfl rfl (y_assign rfl) ?_
        refine r_nil ?_
        refine hK7 _ _ _ ?_
        clear hK7 K7
        refine c_cond rfl (fun h6 => ?_) (fun h6 => ?_)
        ·
          refine c_seq (fun K10 hK10 => ?_)
          refine c_draw ([.blk b0 (.cells (encMod x s).toArray 32), .blk b1 (.cells (encRule r s2).toArray 50)]) (by kernel_rfl) (fun hg => ?_)
          have hz_g := hz
          refine g_y (i := 0) (listed' := #[true, false, false, false, false, false, false, false, false, false, false, false]) rfl (by kernel_rfl) (by kernel_rfl) (by kernel_rfl) (by kernel_rfl) rfl rfl hg (allc (List.Mem.tail _ (List.Mem.head _)) (allc (List.Mem.head _) alln)) (fun m' H' hm' hX' => y_fieldAddr rfl At.lit fo50_5 rfl) ?_
          refine g_y (i := 1) (listed' := #[true, true, false, false, false, false, false, false, false, false, false, false]) rfl (by kernel_rfl) (by kernel_rfl) (by kernel_rfl) (by kernel_rfl) rfl rfl hg (allc (List.Mem.tail _ (List.Mem.head _)) (allc (List.Mem.head _) alln)) (fun m' H' hm' hX' => y_load_s rfl ts3 (RdS.mem (hX' _ (List.Mem.tail _ (List.Mem.head _))) rfl)) ?_
          refine g_y (i := 2) (listed' := #[true, true, true, false, false, false, false, false, false, false, false, false]) rfl (by kernel_rfl) (by kernel_rfl) (by kernel_rfl) (by kernel_rfl) rfl rfl hg (allc (List.Mem.tail _ (List.Mem.head _)) (allc (List.Mem.head _) alln)) (fun m' H' hm' hX' => y_fieldAddr rfl At.lit fo32_6 rfl) ?_
          refine g_y (i := 3) (listed' := #[true, true, true, true, false, false, false, false, false, false, false, false]) rfl (by kernel_rfl) (by kernel_rfl) (by kernel_rfl) (by kernel_rfl) rfl rfl hg (allc (List.Mem.tail _ (List.Mem.head _)) (allc (List.Mem.head _) alln)) (fun m' H' hm' hX' => y_load_s rfl ts3 (RdS.mem (hX' _ (List.Mem.head _)) rfl)) ?_
          refine g_y (i := 4) (listed' := #[true, true, true, true, true, false, false, false, false, false, false, false]) rfl (by kernel_rfl) (by kernel_rfl) (by kernel_rfl) (by kernel_rfl) rfl rfl hg (allc (List.Mem.tail _ (List.Mem.head _)) (allc (List.Mem.head _) alln)) (fun m' H' hm' hX' => y_iop rfl rfl rfl) ?_
          refine g_y (i := 5) (listed' := #[true, true, true, true, true, true, false, false, false, false, false, false]) rfl (by kernel_rfl) (by kernel_rfl) (by kernel_rfl) (by kernel_rfl) rfl rfl hg (allc (List.Mem.tail _ (List.Mem.head _)) (allc (List.Mem.head _) alln)) (fun m' H' hm' hX' => y_move rfl) ?_
          refine g_split (j := 5) rfl (fun h7 => ?_) (fun h7 => ?_)
          ·
            refine g_yg (i := 6) (listed' := #[true, true, true, true, true, true, true, false, false, false, false, false]) rfl (by kernel_rfl) (by kernel_rfl) (by kernel_rfl) (by kernel_rfl) rfl rfl h7 rfl hg (allc (List.Mem.tail _ (List.Mem.head _)) (allc (List.Mem.head _) alln)) (fun m' H' hm' hX' => y_load_a (cs := encRule r s2) rfl ts50 (RdA.mem (hX' _ (List.Mem.tail _ (List.Mem.head _))) rfl)) ?_
            refine g_yg (i := 7) (listed' := #[true, true, true, true, true, true, true, true, false, false, false, false]) rfl (by kernel_rfl) (by kernel_rfl) (by kernel_rfl) (by kernel_rfl) rfl rfl h7 rfl hg (allc (List.Mem.tail _ (List.Mem.head _)) (allc (List.Mem.head _) alln)) (fun m' H' hm' hX' => y_load_a (cs := encMod x s) rfl ts32 (RdA.mem (hX' _ (List.Mem.head _)) rfl)) ?_
            refine g_sg (i := 8) (listed' := #[true, true, true, true, true, true, true, true, true, false, false, false]) rfl (by kernel_rfl) (by kernel_rfl) rfl rfl h7 ?_
            refine s_call0 rfl Try.call129 rfl (modRule_w x s _ _ hz hok hfit) ?_
            rintro _ m2 _ hm2 ⟨o, rfl, hor, hoo, rfl⟩
            replace hm := hm.trans hm2
            refine ⟨⟨hg.trans hm2, (allc (List.Mem.tail _ (List.Mem.tail _ (List.Mem.head _))) (allc (List.Mem.tail _ (List.Mem.head _)) alln))⟩, ?_⟩
            replace hg := hg.trans hm2
            replace hz := hz.mono hm2
            clear hm2
            refine g_sg (i := 9) (listed' := #[true, true, true, true, true, true, true, true, true, true, false, false]) rfl (by kernel_rfl) (by kernel_rfl) rfl rfl h7 ?_
            refine s_call0 rfl Try.call125 rfl (ruleKey_w r o.r s2 o.s _ _) ?_
            rintro _ m2 _ hm2 ⟨rfl, rfl⟩
            replace hm := hm.trans hm2
            refine ⟨⟨hg.trans hm2, (allc (List.Mem.tail _ (List.Mem.tail _ (List.Mem.head _))) (allc (List.Mem.tail _ (List.Mem.head _)) alln))⟩, ?_⟩
            replace hg := hg.trans hm2
            replace hz := hz.mono hm2
            clear hm2
            refine g_y (i := 10) (listed' := #[true, true, true, true, true, true, true, true, true, true, true, false]) rfl (by kernel_rfl) (by kernel_rfl) (by kernel_rfl) (by kernel_rfl) rfl rfl hg (allc (List.Mem.tail _ (List.Mem.tail _ (List.Mem.head _))) (allc (List.Mem.tail _ (List.Mem.head _)) alln)) (fun m' H' hm' hX' => y_pickt rfl h7 rfl) ?_
            refine g_y (i := 11) (listed' := #[true, true, true, true, true, true, true, true, true, true, true, true]) rfl (by kernel_rfl) (by kernel_rfl) (by kernel_rfl) (by kernel_rfl) rfl rfl hg (allc (List.Mem.tail _ (List.Mem.tail _ (List.Mem.head _))) (allc (List.Mem.tail _ (List.Mem.head _)) alln)) (fun m' H' hm' hX' => y_assign rfl) ?_
            refine g_done (by kernel_rfl) ?_
            clear hg hz_g
            refine hK10 _ _ _ ?_
            clear hK10 K10
            refine c_ret ?_
            refine e_ret 3 hm (res_tmps rfl) ?_
            refine ⟨congrArg Value.bool ?_, rfl⟩
            unfold modTouches ruleKey
            simp_all
          ·
            refine g_no (i := 6) (listed' := #[true, true, true, true, true, true, true, false, false, false, false, false]) rfl (by kernel_rfl) (by kernel_rfl) (by kernel_rfl) (by kernel_rfl) rfl rfl h7 rfl hg (allc (List.Mem.tail _ (List.Mem.head _)) (allc (List.Mem.head _) alln)) ?_
            refine g_no (i := 7) (listed' := #[true, true, true, true, true, true, true, true, false, false, false, false]) rfl (by kernel_rfl) (by kernel_rfl) (by kernel_rfl) (by kernel_rfl) rfl rfl h7 rfl hg (allc (List.Mem.tail _ (List.Mem.head _)) (allc (List.Mem.head _) alln)) ?_
            refine g_no (i := 8) (listed' := #[true, true, true, true, true, true, true, true, true, false, false, false]) rfl (by kernel_rfl) (by kernel_rfl) (by kernel_rfl) (by kernel_rfl) rfl rfl h7 rfl hg (allc (List.Mem.tail _ (List.Mem.head _)) (allc (List.Mem.head _) alln)) ?_
            refine g_no (i := 9) (listed' := #[true, true, true, true, true, true, true, true, true, true, false, false]) rfl (by kernel_rfl) (by kernel_rfl) (by kernel_rfl) (by kernel_rfl) rfl rfl h7 rfl hg (allc (List.Mem.tail _ (List.Mem.head _)) (allc (List.Mem.head _) alln)) ?_
            refine g_y (i := 10) (listed' := #[true, true, true, true, true, true, true, true, true, true, true, false]) rfl (by kernel_rfl) (by kernel_rfl) (by kernel_rfl) (by kernel_rfl) rfl rfl hg (allc (List.Mem.tail _ (List.Mem.head _)) (allc (List.Mem.head _) alln)) (fun m' H' hm' hX' => y_pickf rfl h7 rfl) ?_
            refine g_y (i := 11) (listed' := #[true, true, true, true, true, true, true, true, true, true, true, true]) rfl (by kernel_rfl) (by kernel_rfl) (by kernel_rfl) (by kernel_rfl) rfl rfl hg (allc (List.Mem.tail _ (List.Mem.head _)) (allc (List.Mem.head _) alln)) (fun m' H' hm' hX' => y_assign rfl) ?_
            refine g_done (by kernel_rfl) ?_
            clear hg hz_g
            refine hK10 _ _ _ ?_
            clear hK10 K10
            refine c_ret ?_
            refine e_ret 2 hm (res_tmps rfl) ?_
            refine ⟨congrArg Value.bool ?_, rfl⟩
            unfold modTouches ruleKey
            simp_all
        ·
          refine c_skip ?_
          refine hK1 _ _ _ ?_
          clear hK1 K1
          refine c_seq (fun K11 hK11 => ?_)
          refine c_region ?_
          refine r_y rfl rfl (y_assign rfl) ?_
          refine r_nil ?_
          refine hK11 _ _ _ ?_
          clear hK11 K11
          refine c_ret ?_
          refine e_ret 2 hm (res_tmps rfl) ?_
          refine ⟨congrArg Value.bool ?_, rfl⟩
          unfold modTouches ruleKey
          simp_all
end Go.Aw
namespace Go.Aw
open Go Go.Proofs
set_option maxRecDepth 100000 in
theorem add_w (s1 : Sl) (l1 : List (RuleD × Sl)) (x : ModD) (sm : Sl) (room : Int) (m : Snap) (H : Hp) (hz : FzR m s1 l1) (hfa : ∀ p ∈ l1, p.1.acts.length ≤ 4398046511103) (hfit : l1.length < 1000000) (hzx : FzA m sm x.acts) (hokx : sm.ok) (hfx : x.acts.length ≤ 4398046511103) (hsrt : Srt (l1.map (·.1))) : Fn Try.prog 81 [s1.v, .agg (encMod x sm).toArray, .int .i64 room] m H (fun v m' H' => ∃ (a : Option Addr) (n c cap : Nat) (lo : List OwnR), v = .tuple [.slice a n c, i64 (addR (l1.map (·.1)) x room).2].toArray ∧ n = lo.length ∧ (c = n ∨ c = cap) ∧ rulesO lo = (addR (l1.map (·.1)) x room).1 ∧ (∀ o ∈ lo, o.ok) ∧ H' = rowO a n cap lo :: (itsO lo ++ H)) := by
  have hl := hz.len
  have hm : m.le m := Snap.le.refl m
  refine fn_end Try.func81 rfl rfl rfl ?_
  refine c_seq (fun K0 hK0 => ?_)
  refine c_region ?_
  refine r_s rfl ?_
  refine s_box_a rfl rfl (fun b0 => ?_)
  refine r_y rfl rfl (y_assign rfl) ?_
  refine r_y rfl rfl (y_assign rfl) ?_
  refine r_nil ?_
  refine hK0 _ _ _ ?_
  clear hK0 K0
  refine c_seq (fun K1 hK1 => ?_)
  refine c_region ?_
  refine r_y rfl rfl (y_load_a (cs := encMod x sm) rfl ts32 (RdA.blk (i := 0) rfl rfl)) ?_
  refine r_s rfl ?_
  refine s_call0 rfl Try.call129 rfl (modRule_w x sm _ _ hzx hokx hfx) ?_
  rintro _ m2 _ hm2 ⟨o, rfl, hor, hoo, rfl⟩
  replace hm := hm.trans hm2
  replace hz := hz.mono hm2
  replace hzx := hzx.mono hm2
  clear hm2
  refine r_s rfl ?_
  refine s_alloc rfl tz50 (fun b1 => ?_)
  refine r_s rfl ?_
  refine s_store (us := o.enc) rfl rfl rfl ts50 rfl rfl (one_own _) (i := 0) rfl rfl ?_
  refine r_nil ?_
  refine hK1 _ _ _ ?_
  clear hK1 K1
  refine c_seq (fun K2 hK2 => ?_)
  refine c_region ?_
  refine r_y rfl rfl (y_move rfl) ?_
  refine r_y rfl rfl (y_makeFunc rfl) ?_
  refine r_s rfl ?_
  refine s_call0 rfl Try.call118 rfl (idxRules_w s1 l1 130 [.pointer (some ⟨b1, 0, none⟩)] (fun r => ruleKey r o.r) _ _ hz Try.call130 (fun m' z _ _ => add1_w z.1 o.r z.2 o.s b1 m' _)) ?_
  rintro _ m2 _ hm2 ⟨rfl, rfl⟩
  replace hm := hm.trans hm2
  replace hz := hz.mono hm2
  replace hzx := hzx.mono hm2
  clear hm2
  refine r_y rfl rfl (y_assign rfl) ?_
  refine r_nil ?_
  refine hK2 _ _ _ ?_
  clear hK2 K2
  refine c_seq (fun K3 hK3 => ?_)
  refine c_region ?_
  refine r_y rfl rfl (y_makeFunc rfl) ?_
  refine r_y rfl rfl (y_assign rfl) ?_
  refine r_nil ?_
  refine hK3 _ _ _ ?_
  clear hK3 K3
  refine c_seq (fun K4 hK4 => ?_)
  refine c_block ?_
  refine c_seq (fun K5 hK5 => ?_)
  refine c_draw ([.blk b0 (.cells (encMod x sm).toArray 32)]) (by kernel_rfl) (fun hg => ?_)
  have hz_g := hz
  have hzx_g := hzx
  refine g_y (i := 0) (listed' := #[true, false, false, false, false, false, false, false, false, false, false, false, false]) rfl (by kernel_rfl) (by kernel_rfl) (by kernel_rfl) (by kernel_rfl) rfl rfl hg (allc (List.Mem.tail _ (List.Mem.tail _ (List.Mem.head _))) alln) (fun m' H' hm' hX' => y_move rfl) ?_
  refine g_y (i := 1) (listed' := #[true, true, false, false, false, false, false, false, false, false, false, false, false]) rfl (by kernel_rfl) (by kernel_rfl) (by kernel_rfl) (by kernel_rfl) rfl rfl hg (allc (List.Mem.tail _ (List.Mem.tail _ (List.Mem.head _))) alln) (fun m' H' hm' hX' => y_iop rfl rfl rfl) ?_
  refine g_y (i := 2) (listed' := #[true, true, true, false, false, false, false, false, false, false, false, false, false]) rfl (by kernel_rfl) (by kernel_rfl) (by kernel_rfl) (by kernel_rfl) rfl rfl hg (allc (List.Mem.tail _ (List.Mem.tail _ (List.Mem.head _))) alln) (fun m' H' hm' hX' => y_move rfl) ?_
  refine g_split (j := 2) rfl (fun hI => ?_) (fun hI => ?_)
  ·
    refine g_yg (i := 3) (listed' := #[true, true, true, true, false, false, false, false, false, false, false, false, false]) rfl (by kernel_rfl) (by kernel_rfl) (by kernel_rfl) (by kernel_rfl) rfl rfl hI rfl hg (allc (List.Mem.tail _ (List.Mem.tail _ (List.Mem.head _))) alln) (fun m' H' hm' hX' => y_move rfl) ?_
    refine g_yg (i := 4) (listed' := #[true, true, true, true, true, false, false, false, false, false, false, false, false]) rfl (by kernel_rfl) (by kernel_rfl) (by kernel_rfl) (by kernel_rfl) rfl rfl hI rfl hg (allc (List.Mem.tail _ (List.Mem.tail _ (List.Mem.head _))) alln) (fun m' H' hm' hX' => y_move rfl) ?_
    obtain ⟨k, z, hk, hz1, hpk⟩ := idxF_pos (by simpa using hI)
    rw [List.getElem?_map] at hz1
    obtain ⟨y, hx, rfl⟩ := Option.map_eq_some_iff.1 hz1
    rw [hor] at hpk
    have hymem : y.1 ∈ l1.map (·.1) := List.mem_map.2 ⟨y, List.mem_of_getElem? hx, rfl⟩
    have hany : (l1.map (·.1)).any (fun z => ruleKey z (modRule x)) = true := List.any_eq_true.2 ⟨_, hymem, hpk⟩
    have hown : (l1.map (·.1)).any (fun z => ruleKey z (modRule x) && (z.owner != x.owner)) = (y.1.owner != x.owner) := any_owner hsrt hymem hpk
    have hlt : k < s1.n := by have := (List.getElem?_eq_some_iff.1 hx).1; omega
    refine g_yg (i := 5) (listed' := #[true, true, true, true, true, true, false, false, false, false, false, false, false]) rfl (by kernel_rfl) (by kernel_rfl) (by kernel_rfl) (by kernel_rfl) rfl rfl hI rfl hg (allc (List.Mem.tail _ (List.Mem.tail _ (List.Mem.head _))) alln) (fun m' H' hm' hX' => y_indexAddr_sl rfl rfl hk tl33 hlt (At.fz (hz_g.fz.mono hm') hlt)) ?_
    refine g_yg (i := 6) (listed' := #[true, true, true, true, true, true, true, false, false, false, false, false, false]) rfl (by kernel_rfl) (by kernel_rfl) (by kernel_rfl) (by kernel_rfl) rfl rfl hI rfl hg (allc (List.Mem.tail _ (List.Mem.tail _ (List.Mem.head _))) alln) (fun m' H' hm' hX' => y_fieldAddr rfl ((At.fz (hz_g.fz.mono hm') hlt).eadd) fo50_5 (eadd_eadd _ _ _)) ?_
    refine g_yg (i := 7) (listed' := #[true, true, true, true, true, true, true, true, false, false, false, false, false]) rfl (by kernel_rfl) (by kernel_rfl) (by kernel_rfl) (by kernel_rfl) rfl rfl hI rfl hg (allc (List.Mem.tail _ (List.Mem.tail _ (List.Mem.head _))) alln) (fun m' H' hm' hX' => y_load_s rfl ts3 (RdS.fz (hz_g.fz.mono hm') (map_get hx) rfl)) ?_
    refine g_yg (i := 8) (listed' := #[true, true, true, true, true, true, true, true, true, false, false, false, false]) rfl (by kernel_rfl) (by kernel_rfl) (by kernel_rfl) (by kernel_rfl) rfl rfl hI rfl hg (allc (List.Mem.tail _ (List.Mem.tail _ (List.Mem.head _))) alln) (fun m' H' hm' hX' => y_fieldAddr rfl At.lit fo32_6 rfl) ?_
    refine g_yg (i := 9) (listed' := #[true, true, true, true, true, true, true, true, true, true, false, false, false]) rfl (by kernel_rfl) (by kernel_rfl) (by kernel_rfl) (by kernel_rfl) rfl rfl hI rfl hg (allc (List.Mem.tail _ (List.Mem.tail _ (List.Mem.head _))) alln) (fun m' H' hm' hX' => y_load_s rfl ts3 (RdS.mem (hX' _ (List.Mem.head _)) rfl)) ?_
    refine g_yg (i := 10) (listed' := #[true, true, true, true, true, true, true, true, true, true, true, false, false]) rfl (by kernel_rfl) (by kernel_rfl) (by kernel_rfl) (by kernel_rfl) rfl rfl hI rfl hg (allc (List.Mem.tail _ (List.Mem.tail _ (List.Mem.head _))) alln) (fun m' H' hm' hX' => y_iop rfl rfl rfl) ?_
    refine g_y (i := 11) (listed' := #[true, true, true, true, true, true, true, true, true, true, true, true, false]) rfl (by kernel_rfl) (by kernel_rfl) (by kernel_rfl) (by kernel_rfl) rfl rfl hg (allc (List.Mem.tail _ (List.Mem.tail _ (List.Mem.head _))) alln) (fun m' H' hm' hX' => y_pickt rfl hI rfl) ?_
    refine g_y (i := 12) (listed' := #[true, true, true, true, true, true, true, true, true, true, true, true, true]) rfl (by kernel_rfl) (by kernel_rfl) (by kernel_rfl) (by kernel_rfl) rfl rfl hg (allc (List.Mem.tail _ (List.Mem.tail _ (List.Mem.head _))) alln) (fun m' H' hm' hX' => y_assign rfl) ?_
    refine g_done (by kernel_rfl) ?_
    clear hg hz_g hzx_g
    refine hK5 _ _ _ ?_
    clear hK5 K5
    refine c_cond rfl (fun hW => ?_) (fun hW => ?_)
    ·
      refine c_seq (fun K6 hK6 => ?_)
      refine c_region ?_
      refine r_nilvec 50 32 ?_
      refine r_y rfl rfl (y_assign rfl) ?_
      refine r_y rfl rfl (y_assign rfl) ?_
      refine r_nil ?_
      refine hK6 _ _ _ ?_
      clear hK6 K6
      refine c_ret ?_
      refine e_retf [0, 1, 2, 3] 3 hm (res_tmps rfl) ?_
      rw [addR_7 (by rw [hown]; simpa using hW)]
      exact ⟨none, 0, 0, 0, [], rfl, rfl, .inl rfl, rfl, fun o ho => (by cases ho), rfl⟩
    ·
      refine c_seq (fun K7 hK7 => ?_)
      refine c_region ?_
      refine r_y rfl rfl (y_fieldAddr rfl At.lit fo32_7 rfl) ?_
      refine r_y rfl rfl (y_load_s rfl ts4 (RdS.blk (i := 2) rfl rfl)) ?_
      refine r_y rfl rfl (y_move rfl) ?_
      refine r_split (j := 2) rfl (fun hC => ?_) (fun hC => ?_)
      ·
        refine r_yg rfl hC rfl (y_move rfl) ?_
        refine r_yg rfl hC rfl (y_move rfl) ?_
        refine r_sg rfl hC ?_
        refine s_call0 rfl Try.call133 rfl (hasRules_w s1 l1 131 [.pointer (some ⟨b1, 0, none⟩)] (fun r => !ruleKey r o.r && ruleOverlap r o.r) _ _ hz Try.call131 (fun m' z _ _ => add2_w z.1 o.r z.2 o.s b1 m' _)) ?_
        rintro _ m2 _ hm2 ⟨rfl, rfl⟩
        replace hm := hm.trans hm2
        replace hz := hz.mono hm2
        replace hzx := hzx.mono hm2
        clear hm2
        refine r_y rfl rfl (y_pickt rfl hC rfl) ?_
        refine r_y rfl rfl (y_assign rfl) ?_
        refine r_nil ?_
        refine hK7 _ _ _ ?_
        clear hK7 K7
        refine c_cond rfl (fun hO => ?_) (fun hO => ?_)
        ·
          refine c_seq (fun K8 hK8 => ?_)
          refine c_region ?_
          refine r_nilvec 50 32 ?_
          refine r_y rfl rfl (y_assign rfl) ?_
          refine r_y rfl rfl (y_assign rfl) ?_
          refine r_nil ?_
          refine hK8 _ _ _ ?_
          clear hK8 K8
          refine c_ret ?_
          refine e_retf [0, 1, 2, 3] 3 hm (res_tmps rfl) ?_
          rw [addR_6 (by first | exact hown | (rw [hown]; simpa using hW)) (by first | (rw [hC]; rfl) | (rw [hC, ← hor, hO]; rfl))]
          exact ⟨none, 0, 0, 0, [], rfl, rfl, .inl rfl, rfl, fun o ho => (by cases ho), rfl⟩
        ·
          refine c_seq (fun K9 hK9 => ?_)
          refine c_region ?_
          refine r_y rfl rfl (y_move rfl) ?_
          refine r_y rfl rfl (y_iop rfl rfl rfl) ?_
          refine r_y rfl rfl (y_move rfl) ?_
          refine r_no' rfl rfl (by simp at hI ⊢; omega) ?_
          refine r_no' rfl rfl (by simp at hI ⊢; omega) ?_
          refine r_no' rfl rfl (by simp at hI ⊢; omega) ?_
          refine r_no' rfl rfl (by simp at hI ⊢; omega) ?_
          refine r_y rfl rfl (y_pickf rfl (by simp at hI ⊢; omega) rfl) ?_
          refine r_y rfl rfl (y_assign rfl) ?_
          refine r_nil ?_
          refine hK9 _ _ _ ?_
          clear hK9 K9
          refine c_iff rfl rfl ?_
          refine c_skip ?_
          refine hK4 _ _ _ ?_
          clear hK4 K4
          refine c_seq (fun K10 hK10 => ?_)
          refine c_draw ([]) (by kernel_rfl) (fun hg => ?_)
          have hz_g := hz
          have hzx_g := hzx
          refine g_y (i := 0) (listed' := #[true, false, false, false, false, false, false, false]) rfl (by kernel_rfl) (by kernel_rfl) (by kernel_rfl) (by kernel_rfl) rfl rfl hg alln (fun m' H' hm' hX' => y_move rfl) ?_
          refine g_each (rs := [1, 2]) (by kernel_rfl) (by simp) ⟨⟨_, rfl, rfl, ?_⟩, ⟨_, rfl, rfl, ?_⟩, trivial⟩
          ·
            refine s_call0 rfl Try.call27 rfl (ruleCopyF_w s1 l1 _ _ hz hfa (by omega)) ?_
            rintro _ m2 _ hm2 ⟨a, n, lr, rfl, hzr, hlr, hnn, rfl⟩
            replace hm := hm.trans hm2
            refine ⟨⟨hg.trans hm2, alln⟩, ?_⟩
            replace hg := hg.trans hm2
            replace hz := hz.mono hm2
            replace hzx := hzx.mono hm2
            clear hm2
            refine g_s (i := 2) (listed' := #[true, true, true, false, false, false, false, false]) rfl (by kernel_rfl) (by kernel_rfl) rfl ?_
            refine s_y rfl (y_load_a (cs := o.enc) rfl ts50 (RdA.blk (i := 0) rfl rfl)) ?_
            refine ⟨⟨hg, alln⟩, ?_⟩
            refine g_s (i := 3) (listed' := #[true, true, true, true, false, false, false, false]) rfl (by kernel_rfl) (by kernel_rfl) rfl ?_
            refine s_buildSlice (cs := (o.enc)) (e := 50) rfl rfl (fun _ => by kernel_rfl) (fun b2 => ?_)
            refine ⟨⟨hg, alln⟩, ?_⟩
            have hnl : n ≤ 1000000 := by have h3 := hzr.len; have h4 := congrArg List.length hlr; simp at h3 h4; omega
            refine g_s (i := 4) (listed' := #[true, true, true, true, true, false, false, false]) rfl (by kernel_rfl) (by kernel_rfl) rfl ?_
            refine s_appendf rfl rfl rfl tl33 zo50 tb50 hzr.fz hnn (Src.one' (i := 0) rfl rfl (one_own _)) (by decide) (by omega) (by unfold maxLen; omega) (fun a2 c2 => ?_)
            refine ⟨⟨hg, alln⟩, ?_⟩
            refine g_freezeVec (i := 0) rfl rfl (fun m3 hm3 hzv hnv => ?_)
            replace hm := hm.trans hm3
            replace hg := hg.trans hm3
            replace hz := hz.mono hm3
            replace hzx := hzx.mono hm3
            replace hzr := hzr.mono hm3
            clear hm3
            refine g_freezeVec (i := 2) rfl rfl (fun m3 hm3 hza hna => ?_)
            replace hm := hm.trans hm3
            replace hg := hg.trans hm3
            replace hz := hz.mono hm3
            replace hzx := hzx.mono hm3
            replace hzr := hzr.mono hm3
            replace hzv := hzv.mono hm3
            clear hm3
            refine g_del 0 rfl ?_
            refine g_del 0 rfl ?_
            refine g_del 0 rfl ?_
            have hzt := hzr.snoc hzv hza hoo hna
            refine g_s (i := 5) (listed' := #[true, true, true, true, true, true, false, false]) rfl (by kernel_rfl) (by kernel_rfl) rfl ?_
            refine s_call0 rfl Try.call28 rfl (ruleSort_w ⟨a2, n + 1, c2⟩ (lr ++ [(o.r, o.s)]) _ _ hzt (by have := congrArg List.length hlr; simp at this ⊢; omega)) ?_
            rintro _ m2 _ hm2 ⟨a3, n3, cap3, lo3, rfl, hn3, hlo3, hok3, rfl⟩
            replace hm := hm.trans hm2
            refine ⟨⟨hg.trans hm2, alln⟩, ?_⟩
            replace hg := hg.trans hm2
            replace hz := hz.mono hm2
            replace hzx := hzx.mono hm2
            replace hzr := hzr.mono hm2
            replace hzv := hzv.mono hm2
            replace hza := hza.mono hm2
            clear hm2
            refine g_y (i := 6) (listed' := #[true, true, true, true, true, true, true, false]) rfl (by kernel_rfl) (by kernel_rfl) (by kernel_rfl) (by kernel_rfl) rfl rfl hg alln (fun m' H' hm' hX' => y_assign rfl) ?_
            refine g_y (i := 7) (listed' := #[true, true, true, true, true, true, true, true]) rfl (by kernel_rfl) (by kernel_rfl) (by kernel_rfl) (by kernel_rfl) rfl rfl hg alln (fun m' H' hm' hX' => y_assign rfl) ?_
            refine g_done (by kernel_rfl) ?_
            clear hg hz_g hzx_g
            refine hK10 _ _ _ ?_
            clear hK10 K10
            refine c_ret ?_
            refine e_ret 0 hm (res_tmps rfl) ?_
            rw [addR_0 (by first | exact hown | (rw [hown]; simpa using hW)) (by first | (rw [hC]; rfl) | (rw [hC, ← hor, hO]; rfl)) (by first | (rw [hany]; rfl) | (rw [hany, List.length_map, ← hl]; simpa using hF))]
            refine ⟨a3, n3, n3, cap3, lo3, rfl, hn3, .inl rfl, ?_, hok3, rfl⟩
            rw [hlo3, List.map_append, hlr, ← hor]; rfl
          ·
            refine s_y rfl (y_load_a (cs := o.enc) rfl ts50 (RdA.blk (i := 0) rfl rfl)) ?_
            refine ⟨⟨hg, alln⟩, ?_⟩
            refine g_each (rs := [1, 3]) (by kernel_rfl) (by simp) ⟨⟨_, rfl, rfl, ?_⟩, ⟨_, rfl, rfl, ?_⟩, trivial⟩
            ·
              refine s_call0 rfl Try.call27 rfl (ruleCopyF_w s1 l1 _ _ hz hfa (by omega)) ?_
              rintro _ m2 _ hm2 ⟨a, n, lr, rfl, hzr, hlr, hnn, rfl⟩
              replace hm := hm.trans hm2
              refine ⟨⟨hg.trans hm2, alln⟩, ?_⟩
              replace hg := hg.trans hm2
              replace hz := hz.mono hm2
              replace hzx := hzx.mono hm2
              clear hm2
              refine g_s (i := 3) (listed' := #[true, true, true, true, false, false, false, false]) rfl (by kernel_rfl) (by kernel_rfl) rfl ?_
              refine s_buildSlice (cs := (o.enc)) (e := 50) rfl rfl (fun _ => by kernel_rfl) (fun b2 => ?_)
              refine ⟨⟨hg, alln⟩, ?_⟩
              have hnl : n ≤ 1000000 := by have h3 := hzr.len; have h4 := congrArg List.length hlr; simp at h3 h4; omega
              refine g_s (i := 4) (listed' := #[true, true, true, true, true, false, false, false]) rfl (by kernel_rfl) (by kernel_rfl) rfl ?_
              refine s_appendf rfl rfl rfl tl33 zo50 tb50 hzr.fz hnn (Src.one' (i := 0) rfl rfl (one_own _)) (by decide) (by omega) (by unfold maxLen; omega) (fun a2 c2 => ?_)
              refine ⟨⟨hg, alln⟩, ?_⟩
              refine g_freezeVec (i := 0) rfl rfl (fun m3 hm3 hzv hnv => ?_)
              replace hm := hm.trans hm3
              replace hg := hg.trans hm3
              replace hz := hz.mono hm3
              replace hzx := hzx.mono hm3
              replace hzr := hzr.mono hm3
              clear hm3
              refine g_freezeVec (i := 2) rfl rfl (fun m3 hm3 hza hna => ?_)
              replace hm := hm.trans hm3
              replace hg := hg.trans hm3
              replace hz := hz.mono hm3
              replace hzx := hzx.mono hm3
              replace hzr := hzr.mono hm3
              replace hzv := hzv.mono hm3
              clear hm3
              refine g_del 0 rfl ?_
              refine g_del 0 rfl ?_
              refine g_del 0 rfl ?_
              have hzt := hzr.snoc hzv hza hoo hna
              refine g_s (i := 5) (listed' := #[true, true, true, true, true, true, false, false]) rfl (by kernel_rfl) (by kernel_rfl) rfl ?_
              refine s_call0 rfl Try.call28 rfl (ruleSort_w ⟨a2, n + 1, c2⟩ (lr ++ [(o.r, o.s)]) _ _ hzt (by have := congrArg List.length hlr; simp at this ⊢; omega)) ?_
              rintro _ m2 _ hm2 ⟨a3, n3, cap3, lo3, rfl, hn3, hlo3, hok3, rfl⟩
              replace hm := hm.trans hm2
              refine ⟨⟨hg.trans hm2, alln⟩, ?_⟩
              replace hg := hg.trans hm2
              replace hz := hz.mono hm2
              replace hzx := hzx.mono hm2
              replace hzr := hzr.mono hm2
              replace hzv := hzv.mono hm2
              replace hza := hza.mono hm2
              clear hm2
              refine g_y (i := 6) (listed' := #[true, true, true, true, true, true, true, false]) rfl (by kernel_rfl) (by kernel_rfl) (by kernel_rfl) (by kernel_rfl) rfl rfl hg alln (fun m' H' hm' hX' => y_assign rfl) ?_
              refine g_y (i := 7) (listed' := #[true, true, true, true, true, true, true, true]) rfl (by kernel_rfl) (by kernel_rfl) (by kernel_rfl) (by kernel_rfl) rfl rfl hg alln (fun m' H' hm' hX' => y_assign rfl) ?_
              refine g_done (by kernel_rfl) ?_
              clear hg hz_g hzx_g
              refine hK10 _ _ _ ?_
              clear hK10 K10
              refine c_ret ?_
              refine e_ret 0 hm (res_tmps rfl) ?_
              rw [addR_0 (by first | exact hown | (rw [hown]; simpa using hW)) (by first | (rw [hC]; rfl) | (rw [hC, ← hor, hO]; rfl)) (by first | (rw [hany]; rfl) | (rw [hany, List.length_map, ← hl]; simpa using hF))]
              refine ⟨a3, n3, n3, cap3, lo3, rfl, hn3, .inl rfl, ?_, hok3, rfl⟩
              rw [hlo3, List.map_append, hlr, ← hor]; rfl
            ·
              refine s_buildSlice (cs := (o.enc)) (e := 50) rfl rfl (fun _ => by kernel_rfl) (fun b2 => ?_)
              refine ⟨⟨hg, alln⟩, ?_⟩
              refine g_s (i := 1) (listed' := #[true, true, true, true, false, false, false, false]) rfl (by kernel_rfl) (by kernel_rfl) rfl ?_
              refine s_call0 rfl Try.call27 rfl (ruleCopyF_w s1 l1 _ _ hz hfa (by omega)) ?_
              rintro _ m2 _ hm2 ⟨a, n, lr, rfl, hzr, hlr, hnn, rfl⟩
              replace hm := hm.trans hm2
              refine ⟨⟨hg.trans hm2, alln⟩, ?_⟩
              replace hg := hg.trans hm2
              replace hz := hz.mono hm2
              replace hzx := hzx.mono hm2
              clear hm2
              have hnl : n ≤ 1000000 := by have h3 := hzr.len; have h4 := congrArg List.length hlr; simp at h3 h4; omega
              refine g_s (i := 4) (listed' := #[true, true, true, true, true, false, false, false]) rfl (by kernel_rfl) (by kernel_rfl) rfl ?_
              refine s_appendf rfl rfl rfl tl33 zo50 tb50 hzr.fz hnn (Src.one' (i := 0) rfl rfl (one_own _)) (by decide) (by omega) (by unfold maxLen; omega) (fun a2 c2 => ?_)
              refine ⟨⟨hg, alln⟩, ?_⟩
              refine g_freezeVec (i := 0) rfl rfl (fun m3 hm3 hzv hnv => ?_)
              replace hm := hm.trans hm3
              replace hg := hg.trans hm3
              replace hz := hz.mono hm3
              replace hzx := hzx.mono hm3
              replace hzr := hzr.mono hm3
              clear hm3
              refine g_freezeVec (i := 2) rfl rfl (fun m3 hm3 hza hna => ?_)
              replace hm := hm.trans hm3
              replace hg := hg.trans hm3
              replace hz := hz.mono hm3
              replace hzx := hzx.mono hm3
              replace hzr := hzr.mono hm3
              replace hzv := hzv.mono hm3
              clear hm3
              refine g_del 0 rfl ?_
              refine g_del 0 rfl ?_
              refine g_del 0 rfl ?_
              have hzt := hzr.snoc hzv hza hoo hna
              refine g_s (i := 5) (listed' := #[true, true, true, true, true, true, false, false]) rfl (by kernel_rfl) (by kernel_rfl) rfl ?_
              refine s_call0 rfl Try.call28 rfl (ruleSort_w ⟨a2, n + 1, c2⟩ (lr ++ [(o.r, o.s)]) _ _ hzt (by have := congrArg List.length hlr; simp at this ⊢; omega)) ?_
              rintro _ m2 _ hm2 ⟨a3, n3, cap3, lo3, rfl, hn3, hlo3, hok3, rfl⟩
              replace hm := hm.trans hm2
              refine ⟨⟨hg.trans hm2, alln⟩, ?_⟩
              replace hg := hg.trans hm2
              replace hz := hz.mono hm2
              replace hzx := hzx.mono hm2
              replace hzr := hzr.mono hm2
              replace hzv := hzv.mono hm2
              replace hza := hza.mono hm2
              clear hm2
              refine g_y (i := 6) (listed' := #[true, true, true, true, true, true, true, false]) rfl (by kernel_rfl) (by kernel_rfl) (by kernel_rfl) (by kernel_rfl) rfl rfl hg alln (fun m' H' hm' hX' => y_assign rfl) ?_
              refine g_y (i := 7) (listed' := #[true, true, true, true, true, true, true, true]) rfl (by kernel_rfl) (by kernel_rfl) (by kernel_rfl) (by kernel_rfl) rfl rfl hg alln (fun m' H' hm' hX' => y_assign rfl) ?_
              refine g_done (by kernel_rfl) ?_
              clear hg hz_g hzx_g
              refine hK10 _ _ _ ?_
              clear hK10 K10
              refine c_ret ?_
              refine e_ret 0 hm (res_tmps rfl) ?_
              rw [addR_0 (by first | exact hown | (rw [hown]; simpa using hW)) (by first | (rw [hC]; rfl) | (rw [hC, ← hor, hO]; rfl)) (by first | (rw [hany]; rfl) | (rw [hany, List.length_map, ← hl]; simpa using hF))]
              refine ⟨a3, n3, n3, cap3, lo3, rfl, hn3, .inl rfl, ?_, hok3, rfl⟩
              rw [hlo3, List.map_append, hlr, ← hor]; rfl
      ·
        refine r_no' rfl rfl hC ?_
        refine r_no' rfl rfl hC ?_
        refine r_no' rfl rfl hC ?_
        refine r_y rfl rfl (y_pickf rfl hC rfl) ?_
        refine r_y rfl rfl (y_assign rfl) ?_
        refine r_nil ?_
        refine hK7 _ _ _ ?_
        clear hK7 K7
        refine c_iff rfl rfl ?_
        refine c_seq (fun K11 hK11 => ?_)
        refine c_region ?_
        refine r_y rfl rfl (y_move rfl) ?_
        refine r_y rfl rfl (y_iop rfl rfl rfl) ?_
        refine r_y rfl rfl (y_move rfl) ?_
        refine r_no' rfl rfl (by simp at hI ⊢; omega) ?_
        refine r_no' rfl rfl (by simp at hI ⊢; omega) ?_
        refine r_no' rfl rfl (by simp at hI ⊢; omega) ?_
        refine r_no' rfl rfl (by simp at hI ⊢; omega) ?_
        refine r_y rfl rfl (y_pickf rfl (by simp at hI ⊢; omega) rfl) ?_
        refine r_y rfl rfl (y_assign rfl) ?_
        refine r_nil ?_
        refine hK11 _ _ _ ?_
        clear hK11 K11
        refine c_iff rfl rfl ?_
        refine c_skip ?_
        refine hK4 _ _ _ ?_
        clear hK4 K4
        refine c_seq (fun K12 hK12 => ?_)
        refine c_draw ([]) (by kernel_rfl) (fun hg => ?_)
        have hz_g := hz
        have hzx_g := hzx
        refine g_y (i := 0) (listed' := #[true, false, false, false, false, false, false, false]) rfl (by kernel_rfl) (by kernel_rfl) (by kernel_rfl) (by kernel_rfl) rfl rfl hg alln (fun m' H' hm' hX' => y_move rfl) ?_
        refine g_each (rs := [1, 2]) (by kernel_rfl) (by simp) ⟨⟨_, rfl, rfl, ?_⟩, ⟨_, rfl, rfl, ?_⟩, trivial⟩
        ·
          refine s_call0 rfl Try.call27 rfl (ruleCopyF_w s1 l1 _ _ hz hfa (by omega)) ?_
          rintro _ m2 _ hm2 ⟨a, n, lr, rfl, hzr, hlr, hnn, rfl⟩
          replace hm := hm.trans hm2
          refine ⟨⟨hg.trans hm2, alln⟩, ?_⟩
          replace hg := hg.trans hm2
          replace hz := hz.mono hm2
          replace hzx := hzx.mono hm2
          clear hm2
          refine g_s (i := 2) (listed' := #[true, true, true, false, false, false, false, false]) rfl (by kernel_rfl) (by kernel_rfl) rfl ?_
          refine s_y rfl (y_load_a (cs := o.enc) rfl ts50 (RdA.blk (i := 0) rfl rfl)) ?_
          refine ⟨⟨hg, alln⟩, ?_⟩
          refine g_s (i := 3) (listed' := #[true, true, true, true, false, false, false, false]) rfl (by kernel_rfl) (by kernel_rfl) rfl ?_
          refine s_buildSlice (cs := (o.enc)) (e := 50) rfl rfl (fun _ => by kernel_rfl) (fun b3 => ?_)
          refine ⟨⟨hg, alln⟩, ?_⟩
          have hnl : n ≤ 1000000 := by have h3 := hzr.len; have h4 := congrArg List.length hlr; simp at h3 h4; omega
          refine g_s (i := 4) (listed' := #[true, true, true, true, true, false, false, false]) rfl (by kernel_rfl) (by kernel_rfl) rfl ?_
          refine s_appendf rfl rfl rfl tl33 zo50 tb50 hzr.fz hnn (Src.one' (i := 0) rfl rfl (one_own _)) (by decide) (by omega) (by unfold maxLen; omega) (fun a2 c2 => ?_)
          refine ⟨⟨hg, alln⟩, ?_⟩
          refine g_freezeVec (i := 0) rfl rfl (fun m3 hm3 hzv hnv => ?_)
          replace hm := hm.trans hm3
          replace hg := hg.trans hm3
          replace hz := hz.mono hm3
          replace hzx := hzx.mono hm3
          replace hzr := hzr.mono hm3
          clear hm3
          refine g_freezeVec (i := 2) rfl rfl (fun m3 hm3 hza hna => ?_)
          replace hm := hm.trans hm3
          replace hg := hg.trans hm3
          replace hz := hz.mono hm3
          replace hzx := hzx.mono hm3
          replace hzr := hzr.mono hm3
          replace hzv := hzv.mono hm3
          clear hm3
          refine g_del 0 rfl ?_
          refine g_del 0 rfl ?_
          refine g_del 0 rfl ?_
          have hzt := hzr.snoc hzv hza hoo hna
          refine g_s (i := 5) (listed' := #[true, true, true, true, true, true, false, false]) rfl (by kernel_rfl) (by kernel_rfl) rfl ?_
          refine s_call0 rfl Try.call28 rfl (ruleSort_w ⟨a2, n + 1, c2⟩ (lr ++ [(o.r, o.s)]) _ _ hzt (by have := congrArg List.length hlr; simp at this ⊢; omega)) ?_
          rintro _ m2 _ hm2 ⟨a3, n3, cap3, lo3, rfl, hn3, hlo3, hok3, rfl⟩
          replace hm := hm.trans hm2
          refine ⟨⟨hg.trans hm2, alln⟩, ?_⟩
          replace hg := hg.trans hm2
          replace hz := hz.mono hm2
          replace hzx := hzx.mono hm2
          replace hzr := hzr.mono hm2
          replace hzv := hzv.mono hm2
          replace hza := hza.mono hm2
          clear hm2
          refine g_y (i := 6) (listed' := #[true, true, true, true, true, true, true, false]) rfl (by kernel_rfl) (by kernel_rfl) (by kernel_rfl) (by kernel_rfl) rfl rfl hg alln (fun m' H' hm' hX' => y_assign rfl) ?_
          refine g_y (i := 7) (listed' := #[true, true, true, true, true, true, true, true]) rfl (by kernel_rfl) (by kernel_rfl) (by kernel_rfl) (by kernel_rfl) rfl rfl hg alln (fun m' H' hm' hX' => y_assign rfl) ?_
          refine g_done (by kernel_rfl) ?_
          clear hg hz_g hzx_g
          refine hK12 _ _ _ ?_
          clear hK12 K12
          refine c_ret ?_
          refine e_ret 0 hm (res_tmps rfl) ?_
          rw [addR_0 (by first | exact hown | (rw [hown]; simpa using hW)) (by first | (rw [hC]; rfl) | (rw [hC, ← hor, hO]; rfl)) (by first | (rw [hany]; rfl) | (rw [hany, List.length_map, ← hl]; simpa using hF))]
          refine ⟨a3, n3, n3, cap3, lo3, rfl, hn3, .inl rfl, ?_, hok3, rfl⟩
          rw [hlo3, List.map_append, hlr, ← hor]; rfl
        ·
          refine s_y rfl (y_load_a (cs := o.enc) rfl ts50 (RdA.blk (i := 0) rfl rfl)) ?_
          refine ⟨⟨hg, alln⟩, ?_⟩
          refine g_each (rs := [1, 3]) (by kernel_rfl) (by simp) ⟨⟨_, rfl, rfl, ?_⟩, ⟨_, rfl, rfl, ?_⟩, trivial⟩
          ·
            refine s_call0 rfl Try.call27 rfl (ruleCopyF_w s1 l1 _ _ hz hfa (by omega)) ?_
            rintro _ m2 _ hm2 ⟨a, n, lr, rfl, hzr, hlr, hnn, rfl⟩
            replace hm := hm.trans hm2
            refine ⟨⟨hg.trans hm2, alln⟩, ?_⟩
            replace hg := hg.trans hm2
            replace hz := hz.mono hm2
            replace hzx := hzx.mono hm2
            clear hm2
            refine g_s (i := 3) (listed' := #[true, true, true, true, false, false, false, false]) rfl (by kernel_rfl) (by kernel_rfl) rfl ?_
            refine s_buildSlice (cs := (o.enc)) (e := 50) rfl rfl (fun _ => by kernel_rfl) (fun b3 => ?_)
            refine ⟨⟨hg, alln⟩, ?_⟩
            have hnl : n ≤ 1000000 := by have h3 := hzr.len; have h4 := congrArg List.length hlr; simp at h3 h4; omega
            refine g_s (i := 4) (listed' := #[true, true, true, true, true, false, false, false]) rfl (by kernel_rfl) (by kernel_rfl) rfl ?_
            refine s_appendf rfl rfl rfl tl33 zo50 tb50 hzr.fz hnn (Src.one' (i := 0) rfl rfl (one_own _)) (by decide) (by omega) (by unfold maxLen; omega) (fun a2 c2 => ?_)
            refine ⟨⟨hg, alln⟩, ?_⟩
            refine g_freezeVec (i := 0) rfl rfl (fun m3 hm3 hzv hnv => ?_)
            replace hm := hm.trans hm3
            replace hg := hg.trans hm3
            replace hz := hz.mono hm3
            replace hzx := hzx.mono hm3
            replace hzr := hzr.mono hm3
            clear hm3
            refine g_freezeVec (i := 2) rfl rfl (fun m3 hm3 hza hna => ?_)
            replace hm := hm.trans hm3
            replace hg := hg.trans hm3
            replace hz := hz.mono hm3
            replace hzx := hzx.mono hm3
            replace hzr := hzr.mono hm3
            replace hzv := hzv.mono hm3
            clear hm3
            refine g_del 0 rfl ?_
            refine g_del 0 rfl ?_
            refine g_del 0 rfl ?_
            have hzt := hzr.snoc hzv hza hoo hna
            refine g_s (i := 5) (listed' := #[true, true, true, true, true, true, false, false]) rfl (by kernel_rfl) (by kernel_rfl) rfl ?_
            refine s_call0 rfl Try.call28 rfl (ruleSort_w ⟨a2, n + 1, c2⟩ (lr ++ [(o.r, o.s)]) _ _ hzt (by have := congrArg List.length hlr; simp at this ⊢; omega)) ?_
            rintro _ m2 _ hm2 ⟨a3, n3, cap3, lo3, rfl, hn3, hlo3, hok3, rfl⟩
            replace hm := hm.trans hm2
            refine ⟨⟨hg.trans hm2, alln⟩, ?_⟩
            replace hg := hg.trans hm2
            replace hz := hz.mono hm2
            replace hzx := hzx.mono hm2
            replace hzr := hzr.mono hm2
            replace hzv := hzv.mono hm2
            replace hza := hza.mono hm2
            clear hm2
            refine g_y (i := 6) (listed' := #[true, true, true, true, true, true, true, false]) rfl (by kernel_rfl) (by kernel_rfl) (by kernel_rfl) (by kernel_rfl) rfl rfl hg alln (fun m' H' hm' hX' => y_assign rfl) ?_
            refine g_y (i := 7) (listed' := #[true, true, true, true, true, true, true, true]) rfl (by kernel_rfl) (by kernel_rfl) (by kernel_rfl) (by kernel_rfl) rfl rfl hg alln (fun m' H' hm' hX' => y_assign rfl) ?_
            refine g_done (by kernel_rfl) ?_
            clear hg hz_g hzx_g
            refine hK12 _ _ _ ?_
            clear hK12 K12
            refine c_ret ?_
            refine e_ret 0 hm (res_tmps rfl) ?_
            rw [addR_0 (by first | exact hown | (rw [hown]; simpa using hW)) (by first | (rw [hC]; rfl) | (rw [hC, ← hor, hO]; rfl)) (by first | (rw [hany]; rfl) | (rw [hany, List.length_map, ← hl]; simpa using hF))]
            refine ⟨a3, n3, n3, cap3, lo3, rfl, hn3, .inl rfl, ?_, hok3, rfl⟩
            rw [hlo3, List.map_append, hlr, ← hor]; rfl
          ·
            refine s_buildSlice (cs := (o.enc)) (e := 50) rfl rfl (fun _ => by kernel_rfl) (fun b3 => ?_)
            refine ⟨⟨hg, alln⟩, ?_⟩
            refine g_s (i := 1) (listed' := #[true, true, true, true, false, false, false, false]) rfl (by kernel_rfl) (by kernel_rfl) rfl ?_
            refine s_call0 rfl Try.call27 rfl (ruleCopyF_w s1 l1 _ _ hz hfa (by omega)) ?_
            rintro _ m2 _ hm2 ⟨a, n, lr, rfl, hzr, hlr, hnn, rfl⟩
            replace hm := hm.trans hm2
            refine ⟨⟨hg.trans hm2, alln⟩, ?_⟩
            replace hg := hg.trans hm2
            replace hz := hz.mono hm2
            replace hzx := hzx.mono hm2
            clear hm2
            have hnl : n ≤ 1000000 := by have h3 := hzr.len; have h4 := congrArg List.length hlr; simp at h3 h4; omega
            refine g_s (i := 4) (listed' := #[true, true, true, true, true, false, false, false]) rfl (by kernel_rfl) (by kernel_rfl) rfl ?_
            refine s_appendf rfl rfl rfl tl33 zo50 tb50 hzr.fz hnn (Src.one' (i := 0) rfl rfl (one_own _)) (by decide) (by omega) (by unfold maxLen; omega) (fun a2 c2 => ?_)
            refine ⟨⟨hg, alln⟩, ?_⟩
            refine g_freezeVec (i := 0) rfl rfl (fun m3 hm3 hzv hnv => ?_)
            replace hm := hm.trans hm3
            replace hg := hg.trans hm3
            replace hz := hz.mono hm3
            replace hzx := hzx.mono hm3
            replace hzr := hzr.mono hm3
            clear hm3
            refine g_freezeVec (i := 2) rfl rfl (fun m3 hm3 hza hna => ?_)
            replace hm := hm.trans hm3
            replace hg := hg.trans hm3
            replace hz := hz.mono hm3
            replace hzx := hzx.mono hm3
            replace hzr := hzr.mono hm3
            replace hzv := hzv.mono hm3
            clear hm3
            refine g_del 0 rfl ?_
            refine g_del 0 rfl ?_
            refine g_del 0 rfl ?_
            have hzt := hzr.snoc hzv hza hoo hna
            refine g_s (i := 5) (listed' := #[true, true, true, true, true, true, false, false]) rfl (by kernel_rfl) (by kernel_rfl) rfl ?_
            refine s_call0 rfl Try.call28 rfl (ruleSort_w ⟨a2, n + 1, c2⟩ (lr ++ [(o.r, o.s)]) _ _ hzt (by have := congrArg List.length hlr; simp at this ⊢; omega)) ?_
            rintro _ m2 _ hm2 ⟨a3, n3, cap3, lo3, rfl, hn3, hlo3, hok3, rfl⟩
            replace hm := hm.trans hm2
            refine ⟨⟨hg.trans hm2, alln⟩, ?_⟩
            replace hg := hg.trans hm2
            replace hz := hz.mono hm2
            replace hzx := hzx.mono hm2
            replace hzr := hzr.mono hm2
            replace hzv := hzv.mono hm2
            replace hza := hza.mono hm2
            clear hm2
            refine g_y (i := 6) (listed' := #[true, true, true, true, true, true, true, false]) rfl (by kernel_rfl) (by kernel_rfl) (by kernel_rfl) (by kernel_rfl) rfl rfl hg alln (fun m' H' hm' hX' => y_assign rfl) ?_
            refine g_y (i := 7) (listed' := #[true, true, true, true, true, true, true, true]) rfl (by kernel_rfl) (by kernel_rfl) (by kernel_rfl) (by kernel_rfl) rfl rfl hg alln (fun m' H' hm' hX' => y_assign rfl) ?_
            refine g_done (by kernel_rfl) ?_
            clear hg hz_g hzx_g
            refine hK12 _ _ _ ?_
            clear hK12 K12
            refine c_ret ?_
            refine e_ret 0 hm (res_tmps rfl) ?_
            rw [addR_0 (by first | exact hown | (rw [hown]; simpa using hW)) (by first | (rw [hC]; rfl) | (rw [hC, ← hor, hO]; rfl)) (by first | (rw [hany]; rfl) | (rw [hany, List.length_map, ← hl]; simpa using hF))]
            refine ⟨a3, n3, n3, cap3, lo3, rfl, hn3, .inl rfl, ?_, hok3, rfl⟩
            rw [hlo3, List.map_append, hlr, ← hor]; rfl
  ·
    refine g_no (i := 3) (listed' := #[true, true, true, true, false, false, false, false, false, false, false, false, false]) rfl (by kernel_rfl) (by kernel_rfl) (by kernel_rfl) (by kernel_rfl) rfl rfl hI rfl hg (allc (List.Mem.tail _ (List.Mem.tail _ (List.Mem.head _))) alln) ?_
    refine g_no (i := 4) (listed' := #[true, true, true, true, true, false, false, false, false, false, false, false, false]) rfl (by kernel_rfl) (by kernel_rfl) (by kernel_rfl) (by kernel_rfl) rfl rfl hI rfl hg (allc (List.Mem.tail _ (List.Mem.tail _ (List.Mem.head _))) alln) ?_
    refine g_no (i := 5) (listed' := #[true, true, true, true, true, true, false, false, false, false, false, false, false]) rfl (by kernel_rfl) (by kernel_rfl) (by kernel_rfl) (by kernel_rfl) rfl rfl hI rfl hg (allc (List.Mem.tail _ (List.Mem.tail _ (List.Mem.head _))) alln) ?_
    refine g_no (i := 6) (listed' := #[true, true, true, true, true, true, true, false, false, false, false, false, false]) rfl (by kernel_rfl) (by kernel_rfl) (by kernel_rfl) (by kernel_rfl) rfl rfl hI rfl hg (allc (List.Mem.tail _ (List.Mem.tail _ (List.Mem.head _))) alln) ?_
    refine g_no (i := 7) (listed' := #[true, true, true, true, true, true, true, true, false, false, false, false, false]) rfl (by kernel_rfl) (by kernel_rfl) (by kernel_rfl) (by kernel_rfl) rfl rfl hI rfl hg (allc (List.Mem.tail _ (List.Mem.tail _ (List.Mem.head _))) alln) ?_
    refine g_no (i := 8) (listed' := #[true, true, true, true, true, true, true, true, true, false, false, false, false]) rfl (by kernel_rfl) (by kernel_rfl) (by kernel_rfl) (by kernel_rfl) rfl rfl hI rfl hg (allc (List.Mem.tail _ (List.Mem.tail _ (List.Mem.head _))) alln) ?_
    refine g_no (i := 9) (listed' := #[true, true, true, true, true, true, true, true, true, true, false, false, false]) rfl (by kernel_rfl) (by kernel_rfl) (by kernel_rfl) (by kernel_rfl) rfl rfl hI rfl hg (allc (List.Mem.tail _ (List.Mem.tail _ (List.Mem.head _))) alln) ?_
    refine g_no (i := 10) (listed' := #[true, true, true, true, true, true, true, true, true, true, true, false, false]) rfl (by kernel_rfl) (by kernel_rfl) (by kernel_rfl) (by kernel_rfl) rfl rfl hI rfl hg (allc (List.Mem.tail _ (List.Mem.tail _ (List.Mem.head _))) alln) ?_
    have hany : (l1.map (·.1)).any (fun z => ruleKey z (modRule x)) = false := by rw [← hor]; have h3 := idxF_nonneg (fun r => ruleKey r o.r) (l1.map (·.1)); rw [← h3]; simpa using hI
    have hown := any_owner_no (o := x.owner) hany
    refine g_y (i := 11) (listed' := #[true, true, true, true, true, true, true, true, true, true, true, true, false]) rfl (by kernel_rfl) (by kernel_rfl) (by kernel_rfl) (by kernel_rfl) rfl rfl hg (allc (List.Mem.tail _ (List.Mem.tail _ (List.Mem.head _))) alln) (fun m' H' hm' hX' => y_pickf rfl hI rfl) ?_
    refine g_y (i := 12) (listed' := #[true, true, true, true, true, true, true, true, true, true, true, true, true]) rfl (by kernel_rfl) (by kernel_rfl) (by kernel_rfl) (by kernel_rfl) rfl rfl hg (allc (List.Mem.tail _ (List.Mem.tail _ (List.Mem.head _))) alln) (fun m' H' hm' hX' => y_assign rfl) ?_
    refine g_done (by kernel_rfl) ?_
    clear hg hz_g hzx_g
    refine hK5 _ _ _ ?_
    clear hK5 K5
    refine c_iff rfl rfl ?_
    refine c_seq (fun K13 hK13 => ?_)
    refine c_region ?_
    refine r_y rfl rfl (y_fieldAddr rfl At.lit fo32_7 rfl) ?_
    refine r_y rfl rfl (y_load_s rfl ts4 (RdS.blk (i := 2) rfl rfl)) ?_
    refine r_y rfl rfl (y_move rfl) ?_
    refine r_split (j := 2) rfl (fun hC => ?_) (fun hC => ?_)
    ·
      refine r_yg rfl hC rfl (y_move rfl) ?_
      refine r_yg rfl hC rfl (y_move rfl) ?_
      refine r_sg rfl hC ?_
      refine s_call0 rfl Try.call133 rfl (hasRules_w s1 l1 131 [.pointer (some ⟨b1, 0, none⟩)] (fun r => !ruleKey r o.r && ruleOverlap r o.r) _ _ hz Try.call131 (fun m' z _ _ => add2_w z.1 o.r z.2 o.s b1 m' _)) ?_
      rintro _ m2 _ hm2 ⟨rfl, rfl⟩
      replace hm := hm.trans hm2
      replace hz := hz.mono hm2
      replace hzx := hzx.mono hm2
      clear hm2
      refine r_y rfl rfl (y_pickt rfl hC rfl) ?_
      refine r_y rfl rfl (y_assign rfl) ?_
      refine r_nil ?_
      refine hK13 _ _ _ ?_
      clear hK13 K13
      refine c_cond rfl (fun hO => ?_) (fun hO => ?_)
      ·
        refine c_seq (fun K14 hK14 => ?_)
        refine c_region ?_
        refine r_nilvec 50 32 ?_
        refine r_y rfl rfl (y_assign rfl) ?_
        refine r_y rfl rfl (y_assign rfl) ?_
        refine r_nil ?_
        refine hK14 _ _ _ ?_
        clear hK14 K14
        refine c_ret ?_
        refine e_retf [0, 1, 2, 3] 3 hm (res_tmps rfl) ?_
        rw [addR_6 (by first | exact hown | (rw [hown]; simpa using hW)) (by first | (rw [hC]; rfl) | (rw [hC, ← hor, hO]; rfl))]
        exact ⟨none, 0, 0, 0, [], rfl, rfl, .inl rfl, rfl, fun o ho => (by cases ho), rfl⟩
      ·
        refine c_seq (fun K15 hK15 => ?_)
        refine c_region ?_
        refine r_y rfl rfl (y_move rfl) ?_
        refine r_y rfl rfl (y_iop rfl rfl rfl) ?_
        refine r_y rfl rfl (y_move rfl) ?_
        refine r_yg rfl (by simp at hI ⊢; omega) rfl (y_move rfl) ?_
        refine r_yg rfl (by simp at hI ⊢; omega) rfl (y_len tl33 rfl) ?_
        refine r_yg rfl (by simp at hI ⊢; omega) rfl (y_move rfl) ?_
        refine r_yg rfl (by simp at hI ⊢; omega) rfl (y_iop rfl rfl rfl) ?_
        refine r_y rfl rfl (y_pickt rfl (by simp at hI ⊢; omega) rfl) ?_
        refine r_y rfl rfl (y_assign rfl) ?_
        refine r_nil ?_
        refine hK15 _ _ _ ?_
        clear hK15 K15
        refine c_cond rfl (fun hF => ?_) (fun hF => ?_)
        ·
          refine c_seq (fun K16 hK16 => ?_)
          refine c_region ?_
          refine r_nilvec 50 32 ?_
          refine r_y rfl rfl (y_assign rfl) ?_
          refine r_y rfl rfl (y_assign rfl) ?_
          refine r_nil ?_
          refine hK16 _ _ _ ?_
          clear hK16 K16
          refine c_ret ?_
          refine e_retf [0, 1, 2, 3] 3 hm (res_tmps rfl) ?_
          rw [addR_3 (by first | exact hown | (rw [hown]; simpa using hW)) (by first | (rw [hC]; rfl) | (rw [hC, ← hor, hO]; rfl)) (by first | (rw [hany]; rfl) | (rw [hany, List.length_map, ← hl]; simpa using hF))]
          exact ⟨none, 0, 0, 0, [], rfl, rfl, .inl rfl, rfl, fun o ho => (by cases ho), rfl⟩
        ·
          refine c_skip ?_
          refine hK4 _ _ _ ?_
          clear hK4 K4
          refine c_seq (fun K17 hK17 => ?_)
          refine c_draw ([]) (by kernel_rfl) (fun hg => ?_)
          have hz_g := hz
          have hzx_g := hzx
          refine g_y (i := 0) (listed' := #[true, false, false, false, false, false, false, false]) rfl (by kernel_rfl) (by kernel_rfl) (by kernel_rfl) (by kernel_rfl) rfl rfl hg alln (fun m' H' hm' hX' => y_move rfl) ?_
          refine g_each (rs := [1, 2]) (by kernel_rfl) (by simp) ⟨⟨_, rfl, rfl, ?_⟩, ⟨_, rfl, rfl, ?_⟩, trivial⟩
          ·
            refine s_call0 rfl Try.call27 rfl (ruleCopyF_w s1 l1 _ _ hz hfa (by omega)) ?_
            rintro _ m2 _ hm2 ⟨a, n, lr, rfl, hzr, hlr, hnn, rfl⟩
            replace hm := hm.trans hm2
            refine ⟨⟨hg.trans hm2, alln⟩, ?_⟩
            replace hg := hg.trans hm2
            replace hz := hz.mono hm2
            replace hzx := hzx.mono hm2
            clear hm2
            refine g_s (i := 2) (listed' := #[true, true, true, false, false, false, false, false]) rfl (by kernel_rfl) (by kernel_rfl) rfl ?_
            refine s_y rfl (y_load_a (cs := o.enc) rfl ts50 (RdA.blk (i := 0) rfl rfl)) ?_
            refine ⟨⟨hg, alln⟩, ?_⟩
            refine g_s (i := 3) (listed' := #[true, true, true, true, false, false, false, false]) rfl (by kernel_rfl) (by kernel_rfl) rfl ?_
            refine s_buildSlice (cs := (o.enc)) (e := 50) rfl rfl (fun _ => by kernel_rfl) (fun b4 => ?_)
            refine ⟨⟨hg, alln⟩, ?_⟩
            have hnl : n ≤ 1000000 := by have h3 := hzr.len; have h4 := congrArg List.length hlr; simp at h3 h4; omega
            refine g_s (i := 4) (listed' := #[true, true, true, true, true, false, false, false]) rfl (by kernel_rfl) (by kernel_rfl) rfl ?_
            refine s_appendf rfl rfl rfl tl33 zo50 tb50 hzr.fz hnn (Src.one' (i := 0) rfl rfl (one_own _)) (by decide) (by omega) (by unfold maxLen; omega) (fun a2 c2 => ?_)
            refine ⟨⟨hg, alln⟩, ?_⟩
            refine g_freezeVec (i := 0) rfl rfl (fun m3 hm3 hzv hnv => ?_)
            replace hm := hm.trans hm3
            replace hg := hg.trans hm3
            replace hz := hz.mono hm3
            replace hzx := hzx.mono hm3
            replace hzr := hzr.mono hm3
            clear hm3
            refine g_freezeVec (i := 2) rfl rfl (fun m3 hm3 hza hna => ?_)
            replace hm := hm.trans hm3
            replace hg := hg.trans hm3
            replace hz := hz.mono hm3
            replace hzx := hzx.mono hm3
            replace hzr := hzr.mono hm3
            replace hzv := hzv.mono hm3
            clear hm3
            refine g_del 0 rfl ?_
            refine g_del 0 rfl ?_
            refine g_del 0 rfl ?_
            have hzt := hzr.snoc hzv hza hoo hna
            refine g_s (i := 5) (listed' := #[true, true, true, true, true, true, false, false]) rfl (by kernel_rfl) (by kernel_rfl) rfl ?_
            refine s_call0 rfl Try.call28 rfl (ruleSort_w ⟨a2, n + 1, c2⟩ (lr ++ [(o.r, o.s)]) _ _ hzt (by have := congrArg List.length hlr; simp at this ⊢; omega)) ?_
            rintro _ m2 _ hm2 ⟨a3, n3, cap3, lo3, rfl, hn3, hlo3, hok3, rfl⟩
            replace hm := hm.trans hm2
            refine ⟨⟨hg.trans hm2, alln⟩, ?_⟩
            replace hg := hg.trans hm2
            replace hz := hz.mono hm2
            replace hzx := hzx.mono hm2
            replace hzr := hzr.mono hm2
            replace hzv := hzv.mono hm2
            replace hza := hza.mono hm2
            clear hm2
            refine g_y (i := 6) (listed' := #[true, true, true, true, true, true, true, false]) rfl (by kernel_rfl) (by kernel_rfl) (by kernel_rfl) (by kernel_rfl) rfl rfl hg alln (fun m' H' hm' hX' => y_assign rfl) ?_
            refine g_y (i := 7) (listed' := #[true, true, true, true, true, true, true, true]) rfl (by kernel_rfl) (by kernel_rfl) (by kernel_rfl) (by kernel_rfl) rfl rfl hg alln (fun m' H' hm' hX' => y_assign rfl) ?_
            refine g_done (by kernel_rfl) ?_
            clear hg hz_g hzx_g
            refine hK17 _ _ _ ?_
            clear hK17 K17
            refine c_ret ?_
            refine e_ret 0 hm (res_tmps rfl) ?_
            rw [addR_0 (by first | exact hown | (rw [hown]; simpa using hW)) (by first | (rw [hC]; rfl) | (rw [hC, ← hor, hO]; rfl)) (by first | (rw [hany]; rfl) | (rw [hany, List.length_map, ← hl]; simpa using hF))]
            refine ⟨a3, n3, n3, cap3, lo3, rfl, hn3, .inl rfl, ?_, hok3, rfl⟩
            rw [hlo3, List.map_append, hlr, ← hor]; rfl
          ·
            refine s_y rfl (y_load_a (cs := o.enc) rfl ts50 (RdA.blk (i := 0) rfl rfl)) ?_
            refine ⟨⟨hg, alln⟩, ?_⟩
            refine g_each (rs := [1, 3]) (by kernel_rfl) (by simp) ⟨⟨_, rfl, rfl, ?_⟩, ⟨_, rfl, rfl, ?_⟩, trivial⟩
            ·
              refine s_call0 rfl Try.call27 rfl (ruleCopyF_w s1 l1 _ _ hz hfa (by omega)) ?_
              rintro _ m2 _ hm2 ⟨a, n, lr, rfl, hzr, hlr, hnn, rfl⟩
              replace hm := hm.trans hm2
              refine ⟨⟨hg.trans hm2, alln⟩, ?_⟩
              replace hg := hg.trans hm2
              replace hz := hz.mono hm2
              replace hzx := hzx.mono hm2
              clear hm2
              refine g_s (i := 3) (listed' := #[true, true, true, true, false, false, false, false]) rfl (by kernel_rfl) (by kernel_rfl) rfl ?_
              refine s_buildSlice (cs := (o.enc)) (e := 50) rfl rfl (fun _ => by kernel_rfl) (fun b4 => ?_)
              refine ⟨⟨hg, alln⟩, ?_⟩
              have hnl : n ≤ 1000000 := by have h3 := hzr.len; have h4 := congrArg List.length hlr; simp at h3 h4; omega
              refine g_s (i := 4) (listed' := #[true, true, true, true, true, false, false, false]) rfl (by kernel_rfl) (by kernel_rfl) rfl ?_
              refine s_appendf rfl rfl rfl tl33 zo50 tb50 hzr.fz hnn (Src.one' (i := 0) rfl rfl (one_own _)) (by decide) (by omega) (by unfold maxLen; omega) (fun a2 c2 => ?_)
              refine ⟨⟨hg, alln⟩, ?_⟩
              refine g_freezeVec (i := 0) rfl rfl (fun m3 hm3 hzv hnv => ?_)
              replace hm := hm.trans hm3
              replace hg := hg.trans hm3
              replace hz := hz.mono hm3
              replace hzx := hzx.mono hm3
              replace hzr := hzr.mono hm3
              clear hm3
              refine g_freezeVec (i := 2) rfl rfl (fun m3 hm3 hza hna => ?_)
              replace hm := hm.trans hm3
              replace hg := hg.trans hm3
              replace hz := hz.mono hm3
              replace hzx := hzx.mono hm3
              replace hzr := hzr.mono hm3
              replace hzv := hzv.mono hm3
              clear hm3
              refine g_del 0 rfl ?_
              refine g_del 0 rfl ?_
              refine g_del 0 rfl ?_
              have hzt := hzr.snoc hzv hza hoo hna
              refine g_s (i := 5) (listed' := #[true, true, true, true, true, true, false, false]) rfl (by kernel_rfl) (by kernel_rfl) rfl ?_
              refine s_call0 rfl Try.call28 rfl (ruleSort_w ⟨a2, n + 1, c2⟩ (lr ++ [(o.r, o.s)]) _ _ hzt (by have := congrArg List.length hlr; simp at this ⊢; omega)) ?_
              rintro _ m2 _ hm2 ⟨a3, n3, cap3, lo3, rfl, hn3, hlo3, hok3, rfl⟩
              replace hm := hm.trans hm2
              refine ⟨⟨hg.trans hm2, alln⟩, ?_⟩
              replace hg := hg.trans hm2
              replace hz := hz.mono hm2
              replace hzx := hzx.mono hm2
              replace hzr := hzr.mono hm2
              replace hzv := hzv.mono hm2
              replace hza := hza.mono hm2
              clear hm2
              refine g_y (i := 6) (listed' := #[true, true, true, true, true, true, true, false]) rfl (by kernel_rfl) (by kernel_rfl) (by kernel_rfl) (by kernel_rfl) rfl rfl hg alln (fun m' H' hm' hX' => y_assign rfl) ?_
              refine g_y (i := 7) (listed' := #[true, true, true, true, true, true, true, true]) rfl (by kernel_rfl) (by kernel_rfl) (by kernel_rfl) (by kernel_rfl) rfl rfl hg alln (fun m' H' hm' hX' => y_assign rfl) ?_
              refine g_done (by kernel_rfl) ?_
              clear hg hz_g hzx_g
              refine hK17 _ _ _ ?_
              clear hK17 K17
              refine c_ret ?_
              refine e_ret 0 hm (res_tmps rfl) ?_
              rw [addR_0 (by first | exact hown | (rw [hown]; simpa using hW)) (by first | (rw [hC]; rfl) | (rw [hC, ← hor, hO]; rfl)) (by first | (rw [hany]; rfl) | (rw [hany, List.length_map, ← hl]; simpa using hF))]
              refine ⟨a3, n3, n3, cap3, lo3, rfl, hn3, .inl rfl, ?_, hok3, rfl⟩
              rw [hlo3, List.map_append, hlr, ← hor]; rfl
            ·
              refine s_buildSlice (cs := (o.enc)) (e := 50) rfl rfl (fun _ => by kernel_rfl) (fun b4 => ?_)
              refine ⟨⟨hg, alln⟩, ?_⟩
              refine g_s (i := 1) (listed' := #[true, true, true, true, false, false, false, false]) rfl (by kernel_rfl) (by kernel_rfl) rfl ?_
              refine s_call0 rfl Try.call27 rfl (ruleCopyF_w s1 l1 _ _ hz hfa (by omega)) ?_
              rintro _ m2 _ hm2 ⟨a, n, lr, rfl, hzr, hlr, hnn, rfl⟩
              replace hm := hm.trans hm2
              refine ⟨⟨hg.trans hm2, alln⟩, ?_⟩
              replace hg := hg.trans hm2
              replace hz := hz.mono hm2
              replace hzx := hzx.mono hm2
              clear hm2
              have hnl : n ≤ 1000000 := by have h3 := hzr.len; have h4 := congrArg List.length hlr; simp at h3 h4; omega
              refine g_s (i := 4) (listed' := #[true, true, true, true, true, false, false, false]) rfl (by kernel_rfl) (by kernel_rfl) rfl ?_
              refine s_appendf rfl rfl rfl tl33 zo50 tb50 hzr.fz hnn (Src.one' (i := 0) rfl rfl (one_own _)) (by decide) (by omega) (by unfold maxLen; omega) (fun a2 c2 => ?_)
              refine ⟨⟨hg, alln⟩, ?_⟩
              refine g_freezeVec (i := 0) rfl rfl (fun m3 hm3 hzv hnv => ?_)
              replace hm := hm.trans hm3
              replace hg := hg.trans hm3
              replace hz := hz.mono hm3
              replace hzx := hzx.mono hm3
              replace hzr := hzr.mono hm3
              clear hm3
              refine g_freezeVec (i := 2) rfl rfl (fun m3 hm3 hza hna => ?_)
              replace hm := hm.trans hm3
              replace hg := hg.trans hm3
              replace hz := hz.mono hm3
              replace hzx := hzx.mono hm3
              replace hzr := hzr.mono hm3
              replace hzv := hzv.mono hm3
              clear hm3
              refine g_del 0 rfl ?_
              refine g_del 0 rfl ?_
              refine g_del 0 rfl ?_
              have hzt := hzr.snoc hzv hza hoo hna
              refine g_s (i := 5) (listed' := #[true, true, true, true, true, true, false, false]) rfl (by kernel_rfl) (by kernel_rfl) rfl ?_
              refine s_call0 rfl Try.call28 rfl (ruleSort_w ⟨a2, n + 1, c2⟩ (lr ++ [(o.r, o.s)]) _ _ hzt (by have := congrArg List.length hlr; simp at this ⊢; omega)) ?_
              rintro _ m2 _ hm2 ⟨a3, n3, cap3, lo3, rfl, hn3, hlo3, hok3, rfl⟩
              replace hm := hm.trans hm2
              refine ⟨⟨hg.trans hm2, alln⟩, ?_⟩
              replace hg := hg.trans hm2
              replace hz := hz.mono hm2
              replace hzx := hzx.mono hm2
              replace hzr := hzr.mono hm2
              replace hzv := hzv.mono hm2
              replace hza := hza.mono hm2
              clear hm2
              refine g_y (i := 6) (listed' := #[true, true, true, true, true, true, true, false]) rfl (by kernel_rfl) (by kernel_rfl) (by kernel_rfl) (by kernel_rfl) rfl rfl hg alln (fun m' H' hm' hX' => y_assign rfl) ?_
              refine g_y (i := 7) (listed' := #[true, true, true, true, true, true, true, true]) rfl (by kernel_rfl) (by kernel_rfl) (by kernel_rfl) (by kernel_rfl) rfl rfl hg alln (fun m' H' hm' hX' => y_assign rfl) ?_
              refine g_done (by kernel_rfl) ?_
              clear hg hz_g hzx_g
              refine hK17 _ _ _ ?_
              clear hK17 K17
              refine c_ret ?_
              refine e_ret 0 hm (res_tmps rfl) ?_
              rw [addR_0 (by first | exact hown | (rw [hown]; simpa using hW)) (by first | (rw [hC]; rfl) | (rw [hC, ← hor, hO]; rfl)) (by first | (rw [hany]; rfl) | (rw [hany, List.length_map, ← hl]; simpa using hF))]
              refine ⟨a3, n3, n3, cap3, lo3, rfl, hn3, .inl rfl, ?_, hok3, rfl⟩
              rw [hlo3, List.map_append, hlr, ← hor]; rfl
    ·
      refine r_no' rfl rfl hC ?_
      refine r_no' rfl rfl hC ?_
      refine r_no' rfl rfl hC ?_
      refine r_y rfl rfl (y_pickf rfl hC rfl) ?_
      refine r_y rfl rfl (y_assign rfl) ?_
      refine r_nil ?_
      refine hK13 _ _ _ ?_
      clear hK13 K13
      refine c_iff rfl rfl ?_
      refine c_seq (fun K18 hK18 => ?_)
      refine c_region ?_
      refine r_y rfl rfl (y_move rfl) ?_
      refine r_y rfl rfl (y_iop rfl rfl rfl) ?_
      refine r_y rfl rfl (y_move rfl) ?_
      refine r_yg rfl (by simp at hI ⊢; omega) rfl (y_move rfl) ?_
      refine r_yg rfl (by simp at hI ⊢; omega) rfl (y_len tl33 rfl) ?_
      refine r_yg rfl (by simp at hI ⊢; omega) rfl (y_move rfl) ?_
      refine r_yg rfl (by simp at hI ⊢; omega) rfl (y_iop rfl rfl rfl) ?_
      refine r_y rfl rfl (y_pickt rfl (by simp at hI ⊢; omega) rfl) ?_
      refine r_y rfl rfl (y_assign rfl) ?_
      refine r_nil ?_
      refine hK18 _ _ _ ?_
      clear hK18 K18
      refine c_cond rfl (fun hF => ?_) (fun hF => ?_)
      ·
        refine c_seq (fun K19 hK19 => ?_)
        refine c_region ?_
        refine r_nilvec 50 32 ?_
        refine r_y rfl rfl (y_assign rfl) ?_
        refine r_y rfl rfl (y_assign rfl) ?_
        refine r_nil ?_
        refine hK19 _ _ _ ?_
        clear hK19 K19
        refine c_ret ?_
        refine e_retf [0, 1, 2, 3] 3 hm (res_tmps rfl) ?_
        rw [addR_3 (by first | exact hown | (rw [hown]; simpa using hW)) (by first | (rw [hC]; rfl) | (rw [hC, ← hor, hO]; rfl)) (by first | (rw [hany]; rfl) | (rw [hany, List.length_map, ← hl]; simpa using hF))]
        exact ⟨none, 0, 0, 0, [], rfl, rfl, .inl rfl, rfl, fun o ho => (by cases ho), rfl⟩
      ·
        refine c_skip ?_
        refine hK4 _ _ _ ?_
        clear hK4 K4
        refine c_seq (fun K20 hK20 => ?_)
        refine c_draw ([]) (by kernel_rfl) (fun hg => ?_)
        have hz_g := hz
        have hzx_g := hzx
        refine g_y (i := 0) (listed' := #[true, false, false, false, false, false, false, false]) rfl (by kernel_rfl) (by kernel_rfl) (by kernel_rfl) (by kernel_rfl) rfl rfl hg alln (fun m' H' hm' hX' => y_move rfl) ?_
        refine g_each (rs := [1, 2]) (by kernel_rfl) (by simp) ⟨⟨_, rfl, rfl, ?_⟩, ⟨_, rfl, rfl, ?_⟩, trivial⟩
        ·
          refine s_call0 rfl Try.call27 rfl (ruleCopyF_w s1 l1 _ _ hz hfa (by omega)) ?_
          rintro _ m2 _ hm2 ⟨a, n, lr, rfl, hzr, hlr, hnn, rfl⟩
          replace hm := hm.trans hm2
          refine ⟨⟨hg.trans hm2, alln⟩, ?_⟩
          replace hg := hg.trans hm2
          replace hz := hz.mono hm2
          replace hzx := hzx.mono hm2
          clear hm2
          refine g_s (i := 2) (listed' := #[true, true, true, false, false, false, false, false]) rfl (by kernel_rfl) (by kernel_rfl) rfl ?_
          refine s_y rfl (y_load_a (cs := o.enc) rfl ts50 (RdA.blk (i := 0) rfl rfl)) ?_
          refine ⟨⟨hg, alln⟩, ?_⟩
          refine g_s (i := 3) (listed' := #[true, true, true, true, false, false, false, false]) rfl (by kernel_rfl) (by kernel_rfl) rfl ?_
          refine s_buildSlice (cs := (o.enc)) (e := 50) rfl rfl (fun _ => by kernel_rfl) (fun b5 => ?_)
          refine ⟨⟨hg, alln⟩, ?_⟩
          have hnl : n ≤ 1000000 := by have h3 := hzr.len; have h4 := congrArg List.length hlr; simp at h3 h4; omega
          refine g_s (i := 4) (listed' := #[true, true, true, true, true, false, false, false]) rfl (by kernel_rfl) (by kernel_rfl) rfl ?_
          refine s_appendf rfl rfl rfl tl33 zo50 tb50 hzr.fz hnn (Src.one' (i := 0) rfl rfl (one_own _)) (by decide) (by omega) (by unfold maxLen; omega) (fun a2 c2 => ?_)
          refine ⟨⟨hg, alln⟩, ?_⟩
          refine g_freezeVec (i := 0) rfl rfl (fun m3 hm3 hzv hnv => ?_)
          replace hm := hm.trans hm3
          replace hg := hg.trans hm3
          replace hz := hz.mono hm3
          replace hzx := hzx.mono hm3
          replace hzr := hzr.mono hm3
          clear hm3
          refine g_freezeVec (i := 2) rfl rfl (fun m3 hm3 hza hna => ?_)
          replace hm := hm.trans hm3
          replace hg := hg.trans hm3
          replace hz := hz.mono hm3
          replace hzx := hzx.mono hm3
          replace hzr := hzr.mono hm3
          replace hzv := hzv.mono hm3
          clear hm3
          refine g_del 0 rfl ?_
          refine g_del 0 rfl ?_
          refine g_del 0 rfl ?_
          have hzt := hzr.snoc hzv hza hoo hna
          refine g_s (i := 5) (listed' := #[true, true, true, true, true, true, false, false]) rfl (by kernel_rfl) (by kernel_rfl) rfl ?_
          refine s_call0 rfl Try.call28 rfl (ruleSort_w ⟨a2, n + 1, c2⟩ (lr ++ [(o.r, o.s)]) _ _ hzt (by have := congrArg List.length hlr; simp at this ⊢; omega)) ?_
          rintro _ m2 _ hm2 ⟨a3, n3, cap3, lo3, rfl, hn3, hlo3, hok3, rfl⟩
          replace hm := hm.trans hm2
          refine ⟨⟨hg.trans hm2, alln⟩, ?_⟩
          replace hg := hg.trans hm2
          replace hz := hz.mono hm2
          replace hzx := hzx.mono hm2
          replace hzr := hzr.mono hm2
          replace hzv := hzv.mono hm2
          replace hza := hza.mono hm2
          clear hm2
          refine g_y (i := 6) (listed' := #[true, true, true, true, true, true, true, false]) rfl (by kernel_rfl) (by kernel_rfl) (by kernel_rfl) (by kernel_rfl) rfl rfl hg alln (fun m' H' hm' hX' => y_assign rfl) ?_
          refine g_y (i := 7) (listed' := #[true, true, true, true, true, true, true, true]) rfl (by kernel_rfl) (by kernel_rfl) (by kernel_rfl) (by kernel_rfl) rfl rfl hg alln (fun m' H' hm' hX' => y_assign rfl) ?_
          refine g_done (by kernel_rfl) ?_
          clear hg hz_g hzx_g
          refine hK20 _ _ _ ?_
          clear hK20 K20
          refine c_ret ?_
          refine e_ret 0 hm (res_tmps rfl) ?_
          rw [addR_0 (by first | exact hown | (rw [hown]; simpa using hW)) (by first | (rw [hC]; rfl) | (rw [hC, ← hor, hO]; rfl)) (by first | (rw [hany]; rfl) | (rw [hany, List.length_map, ← hl]; simpa using hF))]
          refine ⟨a3, n3, n3, cap3, lo3, rfl, hn3, .inl rfl, ?_, hok3, rfl⟩
          rw [hlo3, List.map_append, hlr, ← hor]; rfl
        ·
          refine s_y rfl (y_load_a (cs := o.enc) rfl ts50 (RdA.blk (i := 0) rfl rfl)) ?_
          refine ⟨⟨hg, alln⟩, ?_⟩
          refine g_each (rs := [1, 3]) (by kernel_rfl) (by simp) ⟨⟨_, rfl, rfl, ?_⟩, ⟨_, rfl, rfl, ?_⟩, trivial⟩
          ·
            refine s_call0 rfl Try.call27 rfl (ruleCopyF_w s1 l1 _ _ hz hfa (by omega)) ?_
            rintro _ m2 _ hm2 ⟨a, n, lr, rfl, hzr, hlr, hnn, rfl⟩
            replace hm := hm.trans hm2
            refine ⟨⟨hg.trans hm2, alln⟩, ?_⟩
            replace hg := hg.trans hm2
            replace hz := hz.mono hm2
            replace hzx := hzx.mono hm2
            clear hm2
            refine g_s (i := 3) (listed' := #[true, true, true, true, false, false, false, false]) rfl (by kernel_rfl) (by kernel_rfl) rfl ?_
            refine s_buildSlice (cs := (o.enc)) (e := 50) rfl rfl (fun _ => by kernel_rfl) (fun b5 => ?_)
            refine ⟨⟨hg, alln⟩, ?_⟩
            have hnl : n ≤ 1000000 := by have h3 := hzr.len; have h4 := congrArg List.length hlr; simp at h3 h4; omega
            refine g_s (i := 4) (listed' := #[true, true, true, true, true, false, false, false]) rfl (by kernel_rfl) (by kernel_rfl) rfl ?_
            refine s_appendf rfl rfl rfl tl33 zo50 tb50 hzr.fz hnn (Src.one' (i := 0) rfl rfl (one_own _)) (by decide) (by omega) (by unfold maxLen; omega) (fun a2 c2 => ?_)
            refine ⟨⟨hg, alln⟩, ?_⟩
            refine g_freezeVec (i := 0) rfl rfl (fun m3 hm3 hzv hnv => ?_)
            replace hm := hm.trans hm3
            replace hg := hg.trans hm3
            replace hz := hz.mono hm3
            replace hzx := hzx.mono hm3
            replace hzr := hzr.mono hm3
            clear hm3
            refine g_freezeVec (i := 2) rfl rfl (fun m3 hm3 hza hna => ?_)
            replace hm := hm.trans hm3
            replace hg := hg.trans hm3
            replace hz := hz.mono hm3
            replace hzx := hzx.mono hm3
            replace hzr := hzr.mono hm3
            replace hzv := hzv.mono hm3
            clear hm3
            refine g_del 0 rfl ?_
            refine g_del 0 rfl ?_
            refine g_del 0 rfl ?_
            have hzt := hzr.snoc hzv hza hoo hna
            refine g_s (i := 5) (listed' := #[true, true, true, true, true, true, false, false]) rfl (by kernel_rfl) (by kernel_rfl) rfl ?_
            refine s_call0 rfl Try.call28 rfl (ruleSort_w ⟨a2, n + 1, c2⟩ (lr ++ [(o.r, o.s)]) _ _ hzt (by have := congrArg List.length hlr; simp at this ⊢; omega)) ?_
            rintro _ m2 _ hm2 ⟨a3, n3, cap3, lo3, rfl, hn3, hlo3, hok3, rfl⟩
            replace hm := hm.trans hm2
            refine ⟨⟨hg.trans hm2, alln⟩, ?_⟩
            replace hg := hg.trans hm2
            replace hz := hz.mono hm2
            replace hzx := hzx.mono hm2
            replace hzr := hzr.mono hm2
            replace hzv := hzv.mono hm2
            replace hza := hza.mono hm2
            clear hm2
            refine g_y (i := 6) (listed' := #[true, true, true, true, true, true, true, false]) rfl (by kernel_rfl) (by kernel_rfl) (by kernel_rfl) (by kernel_rfl) rfl rfl hg alln (fun m' H' hm' hX' => y_assign rfl) ?_
            refine g_y (i := 7) (listed' := #[true, true, true, true, true, true, true, true]) rfl (by kernel_rfl) (by kernel_rfl) (by kernel_rfl) (by kernel_rfl) rfl rfl hg alln (fun m' H' hm' hX' => y_assign rfl) ?_
            refine g_done (by kernel_rfl) ?_
            clear hg hz_g hzx_g
            refine hK20 _ _ _ ?_
            clear hK20 K20
            refine c_ret ?_
            refine e_ret 0 hm (res_tmps rfl) ?_
            rw [addR_0 (by first | exact hown | (rw [hown]; simpa using hW)) (by first | (rw [hC]; rfl) | (rw [hC, ← hor, hO]; rfl)) (by first | (rw [hany]; rfl) | (rw [hany, List.length_map, ← hl]; simpa using hF))]
            refine ⟨a3, n3, n3, cap3, lo3, rfl, hn3, .inl rfl, ?_, hok3, rfl⟩
            rw [hlo3, List.map_append, hlr, ← hor]; rfl
          ·
            refine s_buildSlice (cs := (o.enc)) (e := 50) rfl rfl (fun _ => by kernel_rfl) (fun b5 => ?_)
            refine ⟨⟨hg, alln⟩, ?_⟩
            refine g_s (i := 1) (listed' := #[true, true, true, true, false, false, false, false]) rfl (by kernel_rfl) (by kernel_rfl) rfl ?_
            refine s_call0 rfl Try.call27 rfl (ruleCopyF_w s1 l1 _ _ hz hfa (by omega)) ?_
            rintro _ m2 _ hm2 ⟨a, n, lr, rfl, hzr, hlr, hnn, rfl⟩
            replace hm := hm.trans hm2
            refine ⟨⟨hg.trans hm2, alln⟩, ?_⟩
            replace hg := hg.trans hm2
            replace hz := hz.mono hm2
            replace hzx := hzx.mono hm2
            clear hm2
            have hnl : n ≤ 1000000 := by have h3 := hzr.len; have h4 := congrArg List.length hlr; simp at h3 h4; omega
            refine g_s (i := 4) (listed' := #[true, true, true, true, true, false, false, false]) rfl (by kernel_rfl) (by kernel_rfl) rfl ?_
            refine s_appendf rfl rfl rfl tl33 zo50 tb50 hzr.fz hnn (Src.one' (i := 0) rfl rfl (one_own _)) (by decide) (by omega) (by unfold maxLen; omega) (fun a2 c2 => ?_)
            refine ⟨⟨hg, alln⟩, ?_⟩
            refine g_freezeVec (i := 0) rfl rfl (fun m3 hm3 hzv hnv => ?_)
            replace hm := hm.trans hm3
            replace hg := hg.trans hm3
            replace hz := hz.mono hm3
            replace hzx := hzx.mono hm3
            replace hzr := hzr.mono hm3
            clear hm3
            refine g_freezeVec (i := 2) rfl rfl (fun m3 hm3 hza hna => ?_)
            replace hm := hm.trans hm3
            replace hg := hg.trans hm3
            replace hz := hz.mono hm3
            replace hzx := hzx.mono hm3
            replace hzr := hzr.mono hm3
            replace hzv := hzv.mono hm3
            clear hm3
            refine g_del 0 rfl ?_
            refine g_del 0 rfl ?_
            refine g_del 0 rfl ?_
            have hzt := hzr.snoc hzv hza hoo hna
            refine g_s (i := 5) (listed' := #[true, true, true, true, true, true, false, false]) rfl (by kernel_rfl) (by kernel_rfl) rfl ?_
            refine s_call0 rfl Try.call28 rfl (ruleSort_w ⟨a2, n + 1, c2⟩ (lr ++ [(o.r, o.s)]) _ _ hzt (by have := congrArg List.length hlr; simp at this ⊢; omega)) ?_
            rintro _ m2 _ hm2 ⟨a3, n3, cap3, lo3, rfl, hn3, hlo3, hok3, rfl⟩
            replace hm := hm.trans hm2
            refine ⟨⟨hg.trans hm2, alln⟩, ?_⟩
            replace hg := hg.trans hm2
            replace hz := hz.mono hm2
            replace hzx := hzx.mono hm2
            replace hzr := hzr.mono hm2
            replace hzv := hzv.mono hm2
            replace hza := hza.mono hm2
            clear hm2
            refine g_y (i := 6) (listed' := #[true, true, true, true, true, true, true, false]) rfl (by kernel_rfl) (by kernel_rfl) (by kernel_rfl) (by kernel_rfl) rfl rfl hg alln (fun m' H' hm' hX' => y_assign rfl) ?_
            refine g_y (i := 7) (listed' := #[true, true, true, true, true, true, true, true]) rfl (by kernel_rfl) (by kernel_rfl) (by kernel_rfl) (by kernel_rfl) rfl rfl hg alln (fun m' H' hm' hX' => y_assign rfl) ?_
            refine g_done (by kernel_rfl) ?_
            clear hg hz_g hzx_g
            refine hK20 _ _ _ ?_
            clear hK20 K20
            refine c_ret ?_
            refine e_ret 0 hm (res_tmps rfl) ?_
            rw [addR_0 (by first | exact hown | (rw [hown]; simpa using hW)) (by first | (rw [hC]; rfl) | (rw [hC, ← hor, hO]; rfl)) (by first | (rw [hany]; rfl) | (rw [hany, List.length_map, ← hl]; simpa using hF))]
            refine ⟨a3, n3, n3, cap3, lo3, rfl, hn3, .inl rfl, ?_, hok3, rfl⟩
            rw [hlo3, List.map_append, hlr, ← hor]; rfl
end Go.Aw
