/- Part 6 of the words and walks that the proof behind it uses. -/
import Derived.Test.YtnmhkhobjaklhaaUndoChangesP5
set_option linter.unusedVariables false
set_option linter.unusedSimpArgs false
set_option maxHeartbeats 1000000
namespace Go.Aw
open Go Go.Proofs
set_option maxRecDepth 100000 in
theorem rCube_w (c : Cube) (m : Snap) (H : Hp) : Fn Try.prog 94 [.agg (encCube c).toArray] m H (fun v _ H' => v = .bool (cubeSound c) ∧ H' = H) := by
  have hm : m.le m := Snap.le.refl m
  refine fn_end Try.func94 rfl rfl rfl ?_
  refine c_seq (fun K0 hK0 => ?_)
  refine c_region ?_
  refine r_s rfl ?_
  refine s_box_a rfl rfl (fun b0 => ?_)
  refine r_y rfl rfl (y_assign rfl) ?_
  refine r_nil ?_
  refine hK0 _ _ _ ?_
  clear hK0 K0
  refine c_seq (fun K1 hK1 => ?_)
  refine c_region ?_
  refine r_y rfl rfl (y_load_a (cs := encCube c) rfl ts29 (RdA.blk (i := 0) rfl rfl)) ?_
  refine r_s rfl ?_
  refine s_call0 rfl Try.call98 rfl (rText_w c _ _) ?_
  rintro _ m2 _ hm2 ⟨rfl, rfl⟩
  replace hm := hm.trans hm2
  clear hm2
  refine r_y rfl rfl (y_move rfl) ?_
  refine r_y rfl rfl (y_extract rfl rfl) ?_
  refine r_y rfl rfl (y_extract rfl rfl) ?_
  refine r_y rfl rfl (y_assign rfl) ?_
  refine r_y rfl rfl (y_assign rfl) ?_
  refine r_nil ?_
  refine hK1 _ _ _ ?_
  clear hK1 K1
  refine c_seq (fun K2 hK2 => ?_)
  refine c_region ?_
  refine r_y rfl rfl (y_move rfl) ?_
  refine r_y rfl rfl (y_assign rfl) ?_
  refine r_nil ?_
  refine hK2 _ _ _ ?_
  clear hK2 K2
  refine c_ret ?_
  refine e_ret 1 hm (res_tmps rfl) ?_
  exact ⟨rfl, rfl⟩
set_option maxRecDepth 100000 in
theorem rActs_w (s : Sl) (l : List ActD) (m : Snap) (H : Hp) (hz : FzA m s l) : Fn Try.prog 95 [s.v] m H (fun v _ H' => v = .bool (actsSound l) ∧ H' = H) := by
  have hl := hz.lenA
  have hmx := hz.max
  have hle := hz.le
  unfold maxLen at hmx
  have hm : m.le m := Snap.le.refl m
  refine fn_end Try.func95 rfl rfl rfl ?_
  refine c_seq (fun K0 hK0 => ?_)
  refine c_region ?_
  refine r_y rfl rfl (y_assign rfl) ?_
  refine r_nil ?_
  refine hK0 _ _ _ ?_
  clear hK0 K0
  refine c_seq (fun K1 hK1 => ?_)
  refine c_seq (fun K2 hK2 => ?_)
  refine c_region ?_
  refine r_y rfl rfl (y_assign rfl) ?_
  refine r_nil ?_
  refine hK2 _ _ _ ?_
  clear hK2 K2
  refine c_block ?_
  refine c_loopx (α := Nat) (fun i => [(0, s.v), (3, .int .i64 (i : Nat))]) (fun i => H) (fun k0 i m1 => (i + k0 = s.n ∧ (l.take i).all actSound = true) ∧ m.le m1 ∧ (FzA m1 s l)) (s.n) 0 ⟨rfl, rfl, trivial⟩ rfl ⟨⟨by omega, rfl⟩, hm, hz⟩ ?_
  clear hm hz
  rintro k0 i m1 ⟨hi0, hm, hz⟩
  obtain ⟨hi, hinv⟩ := hi0
  refine c_seq (fun K3 hK3 => ?_)
  refine c_seq (fun K4 hK4 => ?_)
  refine c_region ?_
  refine r_y rfl rfl (y_move rfl) ?_
  refine r_y rfl rfl (y_move rfl) ?_
  refine r_y rfl rfl (y_len tl30 rfl) ?_
  refine r_y rfl rfl (y_iop rfl rfl rfl) ?_
  refine r_nil ?_
  refine hK4 _ _ _ ?_
  clear hK4 K4
  refine c_cond rfl (fun h0 => ?_) (fun h0 => ?_)
  ·
    have hlt : i < s.n := by simp at h0; omega
    obtain ⟨x, hx⟩ := get_of_lt (l := l) (k := i) (by omega)
    refine c_skip ?_
    refine hK3 _ _ _ ?_
    clear hK3 K3
    refine c_seq (fun K5 hK5 => ?_)
    refine c_block ?_
    refine c_seq (fun K6 hK6 => ?_)
    refine c_region ?_
    refine r_y rfl rfl (y_move rfl) ?_
    refine r_y rfl rfl (y_move rfl) ?_
    refine r_y rfl rfl (y_indexAddr_slice rfl rfl tl30 hlt (At.fz hz hlt)) ?_
    refine r_y rfl rfl (y_load_a rfl ts53 (RdA.fz0 hz (map_get hx))) ?_
    refine r_s rfl ?_
    refine s_alloc rfl tz53 (fun b0 => ?_)
    refine r_s rfl ?_
    refine s_store (us := encAct x) rfl rfl rfl ts53 rfl rfl (one_act _) (i := 0) rfl rfl ?_
    refine r_nil ?_
    refine hK6 _ _ _ ?_
    clear hK6 K6
    refine c_seq (fun K7 hK7 => ?_)
    refine c_region ?_
    refine r_y rfl rfl (y_assign rfl) ?_
    refine r_nil ?_
    refine hK7 _ _ _ ?_
    clear hK7 K7
    refine c_seq (fun K8 hK8 => ?_)
    refine c_seq (fun K9 hK9 => ?_)
    refine c_region ?_
    refine r_y rfl rfl (y_fieldAddr rfl At.lit fo53_0 rfl) ?_
    refine r_y rfl rfl (y_load_s rfl ts3 (RdS.blk (i := 0) rfl rfl)) ?_
    refine r_nil ?_
    refine hK9 _ _ _ ?_
    clear hK9 K9
    refine c_block ?_
    refine c_seq (fun K10 hK10 => ?_)
    refine c_region ?_
    refine r_y rfl rfl (y_iop rfl rfl rfl) ?_
    refine r_y rfl rfl (y_assign rfl) ?_
    refine r_nil ?_
    refine hK10 _ _ _ ?_
    clear hK10 K10
    refine c_cond rfl (fun h1 => ?_) (fun h1 => ?_)
    ·
      refine c_region ?_
      refine r_y rfl rfl (y_fieldAddr rfl At.lit fo53_1 rfl) ?_
      refine r_y rfl rfl (y_load_s rfl ts3 (RdS.blk (i := 0) rfl rfl)) ?_
      refine r_y rfl rfl (y_iop rfl rfl rfl) ?_
      refine r_y rfl rfl (y_move rfl) ?_
      refine r_split (j := 3) rfl (fun h2 => ?_) (fun h2 => ?_)
      ·
        refine r_yg rfl h2 rfl (y_fieldAddr rfl At.lit fo53_1 rfl) ?_
        refine r_yg rfl h2 rfl (y_load_s rfl ts3 (RdS.blk (i := 0) rfl rfl)) ?_
        refine r_yg rfl h2 rfl (y_iop rfl rfl rfl) ?_
        refine r_y rfl rfl (y_pickt rfl h2 rfl) ?_
        refine r_y rfl rfl (y_move rfl) ?_
        refine r_split (j := 8) rfl (fun h3 => ?_) (fun h3 => ?_)
        ·
          refine r_yg rfl h3 rfl (y_fieldAddr rfl At.lit fo53_2 rfl) ?_
          refine r_yg rfl h3 rfl (y_load_s rfl ts3 (RdS.blk (i := 0) rfl rfl)) ?_
          refine r_yg rfl h3 rfl (y_iop rfl rfl rfl) ?_
          refine r_y rfl rfl (y_pickt rfl h3 rfl) ?_
          refine r_y rfl rfl (y_move rfl) ?_
          refine r_split (j := 13) rfl (fun h4 => ?_) (fun h4 => ?_)
          ·
            refine r_yg rfl h4 rfl (y_fieldAddr rfl At.lit fo53_3 rfl) ?_
            refine r_yg rfl h4 rfl (y_load_s rfl ts25 (RdS.blk (i := 0) rfl rfl)) ?_
            refine r_yg rfl h4 rfl (y_wop rfl (opv_wc 0#64) rfl) ?_
            refine r_y rfl rfl (y_pickt rfl h4 rfl) ?_
            refine r_y rfl rfl (y_assign rfl) ?_
            refine r_nil ?_
            refine hK8 _ _ _ ?_
            clear hK8 K8
            refine c_seq (fun K11 hK11 => ?_)
            refine c_region ?_
            refine r_y rfl rfl (y_move rfl) ?_
            refine r_y rfl rfl (y_not rfl) ?_
            refine r_nil ?_
            refine hK11 _ _ _ ?_
            clear hK11 K11
            refine c_cond rfl (fun h5 => ?_) (fun h5 => ?_)
            ·
              refine c_seq (fun K12 hK12 => ?_)
              refine c_region ?_
              refine r_y rfl rfl (y_assign rfl) ?_
              refine r_nil ?_
              refine hK12 _ _ _ ?_
              clear hK12 K12
              refine c_ret ?_
              refine e_ret 1 hm (res_tmps rfl) ?_
              have hA : actSound x = false := by
                obtain ⟨xk, xp, xf, xv⟩ := x
                clear hx hinv hi hl hmx hle
                unfold actSound; simp_all [setF, there, fits]
                try omega
              refine ⟨congrArg Value.bool ?_, rfl⟩
              rw [actsSound_all, all_false_at hx hA]; rfl
            ·
              refine c_skip ?_
              refine hK5 _ _ _ ?_
              clear hK5 K5
              refine c_region ?_
              refine r_del 0 rfl ?_
              refine r_y rfl rfl (y_move rfl) ?_
              first | refine r_y rfl rfl (y_inc rfl (by omega)) ?_ | refine r_y rfl rfl (y_iop rfl rfl rfl) ?_
              refine r_y rfl rfl (y_assign rfl) ?_
              refine r_nil ?_
              have hA : actSound x = true := by
                obtain ⟨xk, xp, xf, xv⟩ := x
                clear hx hinv hi hl hmx hle
                unfold actSound; simp_all [setF, there, fits]
                try omega
              exact ⟨k0 - 1, (i + 1), by omega, ⟨rfl, rfl, trivial⟩, rfl, ⟨by omega, by rw [all_take_succ hx, hinv, hA]; rfl⟩, hm, hz⟩
          ·
            refine r_no' rfl rfl h4 ?_
            refine r_no' rfl rfl h4 ?_
            refine r_no' rfl rfl h4 ?_
            refine r_y rfl rfl (y_pickf rfl h4 rfl) ?_
            refine r_y rfl rfl (y_assign rfl) ?_
            refine r_nil ?_
            refine hK8 _ _ _ ?_
            clear hK8 K8
            refine c_seq (fun K13 hK13 => ?_)
            refine c_region ?_
            refine r_y rfl rfl (y_move rfl) ?_
            refine r_y rfl rfl (y_not rfl) ?_
            refine r_nil ?_
            refine hK13 _ _ _ ?_
            clear hK13 K13
            refine c_ift rfl rfl ?_
            refine c_seq (fun K14 hK14 => ?_)
            refine c_region ?_
            refine r_y rfl rfl (y_assign rfl) ?_
            refine r_nil ?_
            refine hK14 _ _ _ ?_
            clear hK14 K14
            refine c_ret ?_
            refine e_ret 1 hm (res_tmps rfl) ?_
            have hA : actSound x = false := by
              obtain ⟨xk, xp, xf, xv⟩ := x
              clear hx hinv hi hl hmx hle
              unfold actSound; simp_all [setF, there, fits]
              try omega
            refine ⟨congrArg Value.bool ?_, rfl⟩
            rw [actsSound_all, all_false_at hx hA]; rfl
        ·
          refine r_no' rfl rfl h3 ?_
          refine r_no' rfl rfl h3 ?_
          refine r_no' rfl rfl h3 ?_
          refine r_y rfl rfl (y_pickf rfl h3 rfl) ?_
          refine r_y rfl rfl (y_move rfl) ?_
          refine r_no' rfl rfl rfl ?_
          refine r_no' rfl rfl rfl ?_
          refine r_no' rfl rfl rfl ?_
          refine r_y rfl rfl (y_pickf rfl rfl rfl) ?_
          refine r_y rfl rfl (y_assign rfl) ?_
          refine r_nil ?_
          refine hK8 _ _ _ ?_
          clear hK8 K8
          refine c_seq (fun K15 hK15 => ?_)
          refine c_region ?_
          refine r_y rfl rfl (y_move rfl) ?_
          refine r_y rfl rfl (y_not rfl) ?_
          refine r_nil ?_
          refine hK15 _ _ _ ?_
          clear hK15 K15
          refine c_ift rfl rfl ?_
          refine c_seq (fun K16 hK16 => ?_)
          refine c_region ?_
          refine r_y rfl rfl (y_assign rfl) ?_
          refine r_nil ?_
          refine hK16 _ _ _ ?_
          clear hK16 K16
          refine c_ret ?_
          refine e_ret 1 hm (res_tmps rfl) ?_
          have hA : actSound x = false := by
            obtain ⟨xk, xp, xf, xv⟩ := x
            clear hx hinv hi hl hmx hle
            unfold actSound; simp_all [setF, there, fits]
            try omega
          refine ⟨congrArg Value.bool ?_, rfl⟩
          rw [actsSound_all, all_false_at hx hA]; rfl
      ·
        refine r_no' rfl rfl h2 ?_
        refine r_no' rfl rfl h2 ?_
        refine r_no' rfl rfl h2 ?_
        refine r_y rfl rfl (y_pickf rfl h2 rfl) ?_
        refine r_y rfl rfl (y_move rfl) ?_
        refine r_no' rfl rfl rfl ?_
        refine r_no' rfl rfl rfl ?_
        refine r_no' rfl rfl rfl ?_
        refine r_y rfl rfl (y_pickf rfl rfl rfl) ?_
        refine r_y rfl rfl (y_move rfl) ?_
        refine r_no' rfl rfl rfl ?_
        refine r_no' rfl rfl rfl ?_
        refine r_no' rfl rfl rfl ?_
        refine r_y rfl rfl (y_pickf rfl rfl rfl) ?_
        refine r_y rfl rfl (y_assign rfl) ?_
        refine r_nil ?_
        refine hK8 _ _ _ ?_
        clear hK8 K8
        refine c_seq (fun K17 hK17 => ?_)
        refine c_region ?_
        refine r_y rfl rfl (y_move rfl) ?_
        refine r_y rfl rfl (y_not rfl) ?_
        refine r_nil ?_
        refine hK17 _ _ _ ?_
        clear hK17 K17
        refine c_ift rfl rfl ?_
        refine c_seq (fun K18 hK18 => ?_)
        refine c_region ?_
        refine r_y rfl rfl (y_assign rfl) ?_
        refine r_nil ?_
        refine hK18 _ _ _ ?_
        clear hK18 K18
        refine c_ret ?_
        refine e_ret 1 hm (res_tmps rfl) ?_
        have hA : actSound x = false := by
          obtain ⟨xk, xp, xf, xv⟩ := x
          clear hx hinv hi hl hmx hle
          unfold actSound; simp_all [setF, there, fits]
          try omega
        refine ⟨congrArg Value.bool ?_, rfl⟩
        rw [actsSound_all, all_false_at hx hA]; rfl
    ·
      refine c_seq (fun K19 hK19 => ?_)
      refine c_region ?_
      refine r_y rfl rfl (y_iop rfl rfl rfl) ?_
      refine r_y rfl rfl (y_assign rfl) ?_
      refine r_nil ?_
      refine hK19 _ _ _ ?_
      clear hK19 K19
      refine c_cond rfl (fun h6 => ?_) (fun h6 => ?_)
      ·
        refine c_draw ([.blk b0 (.cells (encAct x).toArray 53)]) (by kernel_rfl) (fun hg => ?_)
        have hz_g := hz
        refine g_y (i := 0) (listed' := #[true, false, false, false, false, false, false, false, false, false, false, false, false, false, false, false, false, false, false, false, false, false]) rfl (by kernel_rfl) (by kernel_rfl) (by kernel_rfl) (by kernel_rfl) rfl rfl hg (allc (List.Mem.head _) alln) (fun m' H' hm' hX' => y_fieldAddr rfl At.lit fo53_1 rfl) ?_
        refine g_y (i := 1) (listed' := #[true, true, false, false, false, false, false, false, false, false, false, false, false, false, false, false, false, false, false, false, false, false]) rfl (by kernel_rfl) (by kernel_rfl) (by kernel_rfl) (by kernel_rfl) rfl rfl hg (allc (List.Mem.head _) alln) (fun m' H' hm' hX' => y_load_s rfl ts3 (RdS.mem (hX' _ (List.Mem.head _)) rfl)) ?_
        refine g_y (i := 2) (listed' := #[true, true, true, false, false, false, false, false, false, false, false, false, false, false, false, false, false, false, false, false, false, false]) rfl (by kernel_rfl) (by kernel_rfl) (by kernel_rfl) (by kernel_rfl) rfl rfl hg (allc (List.Mem.head _) alln) (fun m' H' hm' hX' => y_iop rfl rfl rfl) ?_
        refine g_y (i := 3) (listed' := #[true, true, true, true, false, false, false, false, false, false, false, false, false, false, false, false, false, false, false, false, false, false]) rfl (by kernel_rfl) (by kernel_rfl) (by kernel_rfl) (by kernel_rfl) rfl rfl hg (allc (List.Mem.head _) alln) (fun m' H' hm' hX' => y_move rfl) ?_
        refine g_split (j := 3) rfl (fun h7 => ?_) (fun h7 => ?_)
        ·
          refine g_yg (i := 4) (listed' := #[true, true, true, true, true, false, false, false, false, false, false, false, false, false, false, false, false, false, false, false, false, false]) rfl (by kernel_rfl) (by kernel_rfl) (by kernel_rfl) (by kernel_rfl) rfl rfl h7 rfl hg (allc (List.Mem.head _) alln) (fun m' H' hm' hX' => y_fieldAddr rfl At.lit fo53_2 rfl) ?_
          refine g_yg (i := 5) (listed' := #[true, true, true, true, true, true, false, false, false, false, false, false, false, false, false, false, false, false, false, false, false, false]) rfl (by kernel_rfl) (by kernel_rfl) (by kernel_rfl) (by kernel_rfl) rfl rfl h7 rfl hg (allc (List.Mem.head _) alln) (fun m' H' hm' hX' => y_load_s rfl ts3 (RdS.mem (hX' _ (List.Mem.head _)) rfl)) ?_
          refine g_yg (i := 6) (listed' := #[true, true, true, true, true, true, true, false, false, false, false, false, false, false, false, false, false, false, false, false, false, false]) rfl (by kernel_rfl) (by kernel_rfl) (by kernel_rfl) (by kernel_rfl) rfl rfl h7 rfl hg (allc (List.Mem.head _) alln) (fun m' H' hm' hX' => y_iop rfl rfl rfl) ?_
          refine g_y (i := 7) (listed' := #[true, true, true, true, true, true, true, true, false, false, false, false, false, false, false, false, false, false, false, false, false, false]) rfl (by kernel_rfl) (by kernel_rfl) (by kernel_rfl) (by kernel_rfl) rfl rfl hg (allc (List.Mem.head _) alln) (fun m' H' hm' hX' => y_pickt rfl h7 rfl) ?_
          refine g_y (i := 8) (listed' := #[true, true, true, true, true, true, true, true, true, false, false, false, false, false, false, false, false, false, false, false, false, false]) rfl (by kernel_rfl) (by kernel_rfl) (by kernel_rfl) (by kernel_rfl) rfl rfl hg (allc (List.Mem.head _) alln) (fun m' H' hm' hX' => y_move rfl) ?_
          refine g_split (j := 8) rfl (fun h8 => ?_) (fun h8 => ?_)
          ·
            refine g_yg (i := 9) (listed' := #[true, true, true, true, true, true, true, true, true, true, false, false, false, false, false, false, false, false, false, false, false, false]) rfl (by kernel_rfl) (by kernel_rfl) (by kernel_rfl) (by kernel_rfl) rfl rfl h8 rfl hg (allc (List.Mem.head _) alln) (fun m' H' hm' hX' => y_fieldAddr rfl At.lit fo53_2 rfl) ?_
            refine g_yg (i := 10) (listed' := #[true, true, true, true, true, true, true, true, true, true, true, false, false, false, false, false, false, false, false, false, false, false]) rfl (by kernel_rfl) (by kernel_rfl) (by kernel_rfl) (by kernel_rfl) rfl rfl h8 rfl hg (allc (List.Mem.head _) alln) (fun m' H' hm' hX' => y_load_s rfl ts3 (RdS.mem (hX' _ (List.Mem.head _)) rfl)) ?_
            refine g_yg (i := 11) (listed' := #[true, true, true, true, true, true, true, true, true, true, true, true, false, false, false, false, false, false, false, false, false, false]) rfl (by kernel_rfl) (by kernel_rfl) (by kernel_rfl) (by kernel_rfl) rfl rfl h8 rfl hg (allc (List.Mem.head _) alln) (fun m' H' hm' hX' => y_iop rfl rfl rfl) ?_
            refine g_y (i := 12) (listed' := #[true, true, true, true, true, true, true, true, true, true, true, true, true, false, false, false, false, false, false, false, false, false]) rfl (by kernel_rfl) (by kernel_rfl) (by kernel_rfl) (by kernel_rfl) rfl rfl hg (allc (List.Mem.head _) alln) (fun m' H' hm' hX' => y_pickt rfl h8 rfl) ?_
            refine g_y (i := 13) (listed' := #[true, true, true, true, true, true, true, true, true, true, true, true, true, true, false, false, false, false, false, false, false, false]) rfl (by kernel_rfl) (by kernel_rfl) (by kernel_rfl) (by kernel_rfl) rfl rfl hg (allc (List.Mem.head _) alln) (fun m' H' hm' hX' => y_move rfl) ?_
            refine g_split (j := 13) rfl (fun h9 => ?_) (fun h9 => ?_)
            ·
              refine g_yg (i := 14) (listed' := #[true, true, true, true, true, true, true, true, true, true, true, true, true, true, true, false, false, false, false, false, false, false]) rfl (by kernel_rfl) (by kernel_rfl) (by kernel_rfl) (by kernel_rfl) rfl rfl h9 rfl hg (allc (List.Mem.head _) alln) (fun m' H' hm' hX' => y_fieldAddr rfl At.lit fo53_3 rfl) ?_
              refine g_yg (i := 15) (listed' := #[true, true, true, true, true, true, true, true, true, true, true, true, true, true, true, true, false, false, false, false, false, false]) rfl (by kernel_rfl) (by kernel_rfl) (by kernel_rfl) (by kernel_rfl) rfl rfl h9 rfl hg (allc (List.Mem.head _) alln) (fun m' H' hm' hX' => y_load_s rfl ts25 (RdS.mem (hX' _ (List.Mem.head _)) rfl)) ?_
              refine g_yg (i := 16) (listed' := #[true, true, true, true, true, true, true, true, true, true, true, true, true, true, true, true, true, false, false, false, false, false]) rfl (by kernel_rfl) (by kernel_rfl) (by kernel_rfl) (by kernel_rfl) rfl rfl h9 rfl hg (allc (List.Mem.head _) alln) (fun m' H' hm' hX' => y_fieldAddr rfl At.lit fo53_2 rfl) ?_
              refine g_yg (i := 17) (listed' := #[true, true, true, true, true, true, true, true, true, true, true, true, true, true, true, true, true, true, false, false, false, false]) rfl (by kernel_rfl) (by kernel_rfl) (by kernel_rfl) (by kernel_rfl) rfl rfl h9 rfl hg (allc (List.Mem.head _) alln) (fun m' H' hm' hX' => y_load_s rfl ts3 (RdS.mem (hX' _ (List.Mem.head _)) rfl)) ?_
              refine g_sg (i := 18) (listed' := #[true, true, true, true, true, true, true, true, true, true, true, true, true, true, true, true, true, true, true, false, false, false]) rfl (by kernel_rfl) (by kernel_rfl) rfl rfl h9 ?_
              refine s_call0 rfl Try.call117 rfl (rSize_w x.field _ _) ?_
              rintro _ m2 _ hm2 ⟨rfl, rfl⟩
              replace hm := hm.trans hm2
              refine ⟨⟨hg.trans hm2, (allc (List.Mem.head _) alln)⟩, ?_⟩
              replace hg := hg.trans hm2
              replace hz := hz.mono hm2
              clear hm2
              refine g_sg (i := 19) (listed' := #[true, true, true, true, true, true, true, true, true, true, true, true, true, true, true, true, true, true, true, true, false, false]) rfl (by kernel_rfl) (by kernel_rfl) rfl rfl h9 ?_
              refine s_call0 rfl Try.call116 rfl (rFits_w x.val (hsz x.field) _ _ (Nat.le_trans (hsz_le _) (by decide))) ?_
              rintro _ m2 _ hm2 ⟨rfl, rfl⟩
              replace hm := hm.trans hm2
              refine ⟨⟨hg.trans hm2, (allc (List.Mem.head _) alln)⟩, ?_⟩
              replace hg := hg.trans hm2
              replace hz := hz.mono hm2
              clear hm2
              refine g_y (i := 20) (listed' := #[true, true, true, true, true, true, true, true, true, true, true, true, true, true, true, true, true, true, true, true, true, false]) rfl (by kernel_rfl) (by kernel_rfl) (by kernel_rfl) (by kernel_rfl) rfl rfl hg (allc (List.Mem.head _) alln) (fun m' H' hm' hX' => y_pickt rfl h9 rfl) ?_
              refine g_y (i := 21) (listed' := #[true, true, true, true, true, true, true, true, true, true, true, true, true, true, true, true, true, true, true, true, true, true]) rfl (by kernel_rfl) (by kernel_rfl) (by kernel_rfl) (by kernel_rfl) rfl rfl hg (allc (List.Mem.head _) alln) (fun m' H' hm' hX' => y_assign rfl) ?_
              refine g_done (by kernel_rfl) ?_
              clear hg hz_g
              refine hK8 _ _ _ ?_
              clear hK8 K8
              refine c_seq (fun K20 hK20 => ?_)
              refine c_region ?_
              refine r_y rfl rfl (y_move rfl) ?_
              refine r_y rfl rfl (y_not rfl) ?_
              refine r_nil ?_
              refine hK20 _ _ _ ?_
              clear hK20 K20
              refine c_cond rfl (fun h10 => ?_) (fun h10 => ?_)
              ·
                refine c_seq (fun K21 hK21 => ?_)
                refine c_region ?_
                refine r_y rfl rfl (y_assign rfl) ?_
                refine r_nil ?_
                refine hK21 _ _ _ ?_
                clear hK21 K21
                refine c_ret ?_
                refine e_ret 1 hm (res_tmps rfl) ?_
                have hA : actSound x = false := by
                  obtain ⟨xk, xp, xf, xv⟩ := x
                  clear hx hinv hi hl hmx hle
                  unfold actSound; simp_all [setF, there, fits]
                  try omega
                refine ⟨congrArg Value.bool ?_, rfl⟩
                rw [actsSound_all, all_false_at hx hA]; rfl
              ·
                refine c_skip ?_
                refine hK5 _ _ _ ?_
                clear hK5 K5
                refine c_region ?_
                refine r_del 0 rfl ?_
                refine r_y rfl rfl (y_move rfl) ?_
                first | refine r_y rfl rfl (y_inc rfl (by omega)) ?_ | refine r_y rfl rfl (y_iop rfl rfl rfl) ?_
                refine r_y rfl rfl (y_assign rfl) ?_
                refine r_nil ?_
                have hA : actSound x = true := by
                  obtain ⟨xk, xp, xf, xv⟩ := x
                  clear hx hinv hi hl hmx hle
                  unfold actSound; simp_all [setF, there, fits]
                  try omega
                exact ⟨k0 - 1, (i + 1), by omega, ⟨rfl, rfl, trivial⟩, rfl, ⟨by omega, by rw [all_take_succ hx, hinv, hA]; rfl⟩, hm, hz⟩
            ·
              refine g_no (i := 14) (listed' := #[true, true, true, true, true, true, true, true, true, true, true, true, true, true, true, false, false, false, false, false, false, false]) rfl (by kernel_rfl) (by kernel_rfl) (by kernel_rfl) (by kernel_rfl) rfl rfl h9 rfl hg (allc (List.Mem.head _) alln) ?_
              refine g_no (i := 15) (listed' := #[true, true, true, true, true, true, true, true, true, true, true, true, true, true, true, true, false, false, false, false, false, false]) rfl (by kernel_rfl) (by kernel_rfl) (by kernel_rfl) (by kernel_rfl) rfl rfl h9 rfl hg (allc (List.Mem.head _) alln) ?_
              refine g_no (i := 16) (listed' := #[true, true, true, true, true, true, true, true, true, true, true, true, true, true, true, true, true, false, false, false, false, false]) rfl (by kernel_rfl) (by kernel_rfl) (by kernel_rfl) (by kernel_rfl) rfl rfl h9 rfl hg (allc (List.Mem.head _) alln) ?_
              refine g_no (i := 17) (listed' := #[true, true, true, true, true, true, true, true, true, true, true, true, true, true, true, true, true, true, false, false, false, false]) rfl (by kernel_rfl) (by kernel_rfl) (by kernel_rfl) (by kernel_rfl) rfl rfl h9 rfl hg (allc (List.Mem.head _) alln) ?_
              refine g_no (i := 18) (listed' := #[true, true, true, true, true, true, true, true, true, true, true, true, true, true, true, true, true, true, true, false, false, false]) rfl (by kernel_rfl) (by kernel_rfl) (by kernel_rfl) (by kernel_rfl) rfl rfl h9 rfl hg (allc (List.Mem.head _) alln) ?_
              refine g_no (i := 19) (listed' := #[true, true, true, true, true, true, true, true, true, true, true, true, true, true, true, true, true, true, true, true, false, false]) rfl (by kernel_rfl) (by kernel_rfl) (by kernel_rfl) (by kernel_rfl) rfl rfl h9 rfl hg (allc (List.Mem.head _) alln) ?_
              refine g_y (i := 20) (listed' := #[true, true, true, true, true, true, true, true, true, true, true, true, true, true, true, true, true, true, true, true, true, false]) rfl (by kernel_rfl) (by kernel_rfl) (by kernel_rfl) (by kernel_rfl) rfl rfl hg (allc (List.Mem.head _) alln) (fun m' H' hm' hX' => y_pickf rfl h9 rfl) ?_
              refine g_y (i := 21) (listed' := #[true, true, true, true, true, true, true, true, true, true, true, true, true, true, true, true, true, true, true, true, true, true]) rfl (by kernel_rfl) (by kernel_rfl) (by kernel_rfl) (by kernel_rfl) rfl rfl hg (allc (List.Mem.head _) alln) (fun m' H' hm' hX' => y_assign rfl) ?_
              refine g_done (by kernel_rfl) ?_
              clear hg hz_g
              refine hK8 _ _ _ ?_
              clear hK8 K8
              refine c_seq (fun K22 hK22 => ?_)
              refine c_region ?_
              refine r_y rfl rfl (y_move rfl) ?_
              refine r_y rfl rfl (y_not rfl) ?_
              refine r_nil ?_
              refine hK22 _ _ _ ?_
              clear hK22 K22
              refine c_ift rfl rfl ?_
              refine c_seq (fun K23 hK23 => ?_)
              refine c_region ?_
              refine r_y rfl rfl (y_assign rfl) ?_
              refine r_nil ?_
              refine hK23 _ _ _ ?_
              clear hK23 K23
              refine c_ret ?_
              refine e_ret 1 hm (res_tmps rfl) ?_
              have hA : actSound x = false := by
                obtain ⟨xk, xp, xf, xv⟩ := x
                clear hx hinv hi hl hmx hle
                unfold actSound; simp_all [setF, there, fits]
                try omega
              refine ⟨congrArg Value.bool ?_, rfl⟩
              rw [actsSound_all, all_false_at hx hA]; rfl
          ·
            refine g_no (i := 9) (listed' := #[true, true, true, true, true, true, true, true, true, true, false, false, false, false, false, false, false, false, false, false, false, false]) rfl (by kernel_rfl) (by kernel_rfl) (by kernel_rfl) (by kernel_rfl) rfl rfl h8 rfl hg (allc (List.Mem.head _) alln) ?_
            refine g_no (i := 10) (listed' := #[true, true, true, true, true, true, true, true, true, true, true, false, false, false, false, false, false, false, false, false, false, false]) rfl (by kernel_rfl) (by kernel_rfl) (by kernel_rfl) (by kernel_rfl) rfl rfl h8 rfl hg (allc (List.Mem.head _) alln) ?_
            refine g_no (i := 11) (listed' := #[true, true, true, true, true, true, true, true, true, true, true, true, false, false, false, false, false, false, false, false, false, false]) rfl (by kernel_rfl) (by kernel_rfl) (by kernel_rfl) (by kernel_rfl) rfl rfl h8 rfl hg (allc (List.Mem.head _) alln) ?_
            refine g_y (i := 12) (listed' := #[true, true, true, true, true, true, true, true, true, true, true, true, true, false, false, false, false, false, false, false, false, false]) rfl (by kernel_rfl) (by kernel_rfl) (by kernel_rfl) (by kernel_rfl) rfl rfl hg (allc (List.Mem.head _) alln) (fun m' H' hm' hX' => y_pickf rfl h8 rfl) ?_
            refine g_y (i := 13) (listed' := #[true, true, true, true, true, true, true, true, true, true, true, true, true, true, false, false, false, false, false, false, false, false]) rfl (by kernel_rfl) (by kernel_rfl) (by kernel_rfl) (by kernel_rfl) rfl rfl hg (allc (List.Mem.head _) alln) (fun m' H' hm' hX' => y_move rfl) ?_
            refine g_no (i := 14) (listed' := #[true, true, true, true, true, true, true, true, true, true, true, true, true, true, true, false, false, false, false, false, false, false]) rfl (by kernel_rfl) (by kernel_rfl) (by kernel_rfl) (by kernel_rfl) rfl rfl rfl rfl hg (allc (List.Mem.head _) alln) ?_
            refine g_no (i := 15) (listed' := #[true, true, true, true, true, true, true, true, true, true, true, true, true, true, true, true, false, false, false, false, false, false]) rfl (by kernel_rfl) (by kernel_rfl) (by kernel_rfl) (by kernel_rfl) rfl rfl rfl rfl hg (allc (List.Mem.head _) alln) ?_
            refine g_no (i := 16) (listed' := #[true, true, true, true, true, true, true, true, true, true, true, true, true, true, true, true, true, false, false, false, false, false]) rfl (by kernel_rfl) (by kernel_rfl) (by kernel_rfl) (by kernel_rfl) rfl rfl rfl rfl hg (allc (List.Mem.head _) alln) ?_
            refine g_no (i := 17) (listed' := #[true, true, true, true, true, true, true, true, true, true, true, true, true, true, true, true, true, true, false, false, false, false]) rfl (by kernel_rfl) (by kernel_rfl) (by kernel_rfl) (by kernel_rfl) rfl rfl rfl rfl hg (allc (List.Mem.head _) alln) ?_
            refine g_no (i := 18) (listed' := #[true, true, true, true, true, true, true, true, true, true, true, true, true, true, true, true, true, true, true, false, false, false]) rfl (by kernel_rfl) (by kernel_rfl) (by kernel_rfl) (by kernel_rfl) rfl rfl rfl rfl hg (allc (List.Mem.head _) alln) ?_
            refine g_no (i := 19) (listed' := #[true, true, true, true, true, true, true, true, true, true, true, true, true, true, true, true, true, true, true, true, false, false]) rfl (by kernel_rfl) (by kernel_rfl) (by kernel_rfl) (by kernel_rfl) rfl rfl rfl rfl hg (allc (List.Mem.head _) alln) ?_
            refine g_y (i := 20) (listed' := #[true, true, true, true, true, true, true, true, true, true, true, true, true, true, true, true, true, true, true, true, true, false]) rfl (by kernel_rfl) (by kernel_rfl) (by kernel_rfl) (by kernel_rfl) rfl rfl hg (allc (List.Mem.head _) alln) (fun m' H' hm' hX' => y_pickf rfl rfl rfl) ?_
            refine g_y (i := 21) (listed' := #[true, true, true, true, true, true, true, true, true, true, true, true, true, true, true, true, true, true, true, true, true, true]) rfl (by kernel_rfl) (by kernel_rfl) (by kernel_rfl) (by kernel_rfl) rfl rfl hg (allc (List.Mem.head _) alln) (fun m' H' hm' hX' => y_assign rfl) ?_
            refine g_done (by kernel_rfl) ?_
            clear hg hz_g
            refine hK8 _ _ _ ?_
            clear hK8 K8
            refine c_seq (fun K24 hK24 => ?_)
            refine c_region ?_
            refine r_y rfl rfl (y_move rfl) ?_
            refine r_y rfl rfl (y_not rfl) ?_
            refine r_nil ?_
            refine hK24 _ _ _ ?_
            clear hK24 K24
            refine c_ift rfl rfl ?_
            refine c_seq (fun K25 hK25 => ?_)
            refine c_region ?_
            refine r_y rfl rfl (y_assign rfl) ?_
            refine r_nil ?_
            refine hK25 _ _ _ ?_
            clear hK25 K25
            refine c_ret ?_
            refine e_ret 1 hm (res_tmps rfl) ?_
            have hA : actSound x = false := by
              obtain ⟨xk, xp, xf, xv⟩ := x
              clear hx hinv hi hl hmx hle
              unfold actSound; simp_all [setF, there, fits]
              try omega
            refine ⟨congrArg Value.bool ?_, rfl⟩
            rw [actsSound_all, all_false_at hx hA]; rfl
        ·
          refine g_no (i := 4) (listed' := #[true, true, true, true, true, false, false, false, false, false, false, false, false, false, false, false, false, false, false, false, false, false]) rfl (by kernel_rfl) (by kernel_rfl) (by kernel_rfl) (by kernel_rfl) rfl rfl h7 rfl hg (allc (List.Mem.head _) alln) ?_
          refine g_no (i := 5) (listed' := #[true, true, true, true, true, true, false, false, false, false, false, false, false, false, false, false, false, false, false, false, false, false]) rfl (by kernel_rfl) (by kernel_rfl) (by kernel_rfl) (by kernel_rfl) rfl rfl h7 rfl hg (allc (List.Mem.head _) alln) ?_
          refine g_no (i := 6) (listed' := #[true, true, true, true, true, true, true, false, false, false, false, false, false, false, false, false, false, false, false, false, false, false]) rfl (by kernel_rfl) (by kernel_rfl) (by kernel_rfl) (by kernel_rfl) rfl rfl h7 rfl hg (allc (List.Mem.head _) alln) ?_
          refine g_y (i := 7) (listed' := #[true, true, true, true, true, true, true, true, false, false, false, false, false, false, false, false, false, false, false, false, false, false]) rfl (by kernel_rfl) (by kernel_rfl) (by kernel_rfl) (by kernel_rfl) rfl rfl hg (allc (List.Mem.head _) alln) (fun m' H' hm' hX' => y_pickf rfl h7 rfl) ?_
          refine g_y (i := 8) (listed' := #[true, true, true, true, true, true, true, true, true, false, false, false, false, false, false, false, false, false, false, false, false, false]) rfl (by kernel_rfl) (by kernel_rfl) (by kernel_rfl) (by kernel_rfl) rfl rfl hg (allc (List.Mem.head _) alln) (fun m' H' hm' hX' => y_move rfl) ?_
          refine g_no (i := 9) (listed' := #[true, true, true, true, true, true, true, true, true, true, false, false, false, false, false, false, false, false, false, false, false, false]) rfl (by kernel_rfl) (by kernel_rfl) (by kernel_rfl) (by kernel_rfl) rfl rfl rfl rfl hg (allc (List.Mem.head _) alln) ?_
          refine g_no (i := 10) (listed' := #[true, true, true, true, true, true, true, true, true, true, true, false, false, false, false, false, false, false, false, false, false, false]) rfl (by kernel_rfl) (by kernel_rfl) (by kernel_rfl) (by kernel_rfl) rfl rfl rfl rfl hg (allc (List.Mem.head _) alln) ?_
          refine g_no (i := 11) (listed' := #[true, true, true, true, true, true, true, true, true, true, true, true, false, false, false, false, false, false, false, false, false, false]) rfl (by kernel_rfl) (by kernel_rfl) (by kernel_rfl) (by kernel_rfl) rfl rfl rfl rfl hg (allc (List.Mem.head _) alln) ?_
          refine g_y (i := 12) (listed' := #[true, true, true, true, true, true, true, true, true, true, true, true, true, false, false, false, false, false, false, false, false, false]) rfl (by kernel_rfl) (by kernel_rfl) (by kernel_rfl) (by kernel_rfl) rfl rfl hg (allc (List.Mem.head _) alln) (fun m' H' hm' hX' => y_pickf rfl rfl rfl) ?_
          refine g_y (i := 13) (listed' := #[true, true, true, true, true, true, true, true, true, true, true, true, true, true, false, false, false, false, false, false, false, false]) rfl (by kernel_rfl) (by kernel_rfl) (by kernel_rfl) (by kernel_rfl) rfl rfl hg (allc (List.Mem.head _) alln) (fun m' H' hm' hX' => y_move rfl) ?_
          refine g_no (i := 14) (listed' := #[true, true, true, true, true, true, true, true, true, true, true, true, true, true, true, false, false, false, false, false, false, false]) rfl (by kernel_rfl) (by kernel_rfl) (by kernel_rfl) (by kernel_rfl) rfl rfl rfl rfl hg (allc (List.Mem.head _) alln) ?_
          refine g_no (i := 15) (listed' := #[true, true, true, true, true, true, true, true, true, true, true, true, true, true, true, true, false, false, false, false, false, false]) rfl (by kernel_rfl) (by kernel_rfl) (by kernel_rfl) (by kernel_rfl) rfl rfl rfl rfl hg (allc (List.Mem.head _) alln) ?_
          refine g_no (i := 16) (listed' := #[true, true, true, true, true, true, true, true, true, true, true, true, true, true, true, true, true, false, false, false, false, false]) rfl (by kernel_rfl) (by kernel_rfl) (by kernel_rfl) (by kernel_rfl) rfl rfl rfl rfl hg (allc (List.Mem.head _) alln) ?_
          refine g_no (i := 17) (listed' := #[true, true, true, true, true, true, true, true, true, true, true, true, true, true, true, true, true, true, false, false, false, false]) rfl (by kernel_rfl) (by kernel_rfl) (by kernel_rfl) (by kernel_rfl) rfl rfl rfl rfl hg (allc (List.Mem.head _) alln) ?_
          refine g_no (i := 18) (listed' := #[true, true, true, true, true, true, true, true, true, true, true, true, true, true, true, true, true, true, true, false, false, false]) rfl (by kernel_rfl) (by kernel_rfl) (by kernel_rfl) (by kernel_rfl) rfl rfl rfl rfl hg (allc (List.Mem.head _) alln) ?_
          refine g_no (i := 19) (listed' := #[true, true, true, true, true, true, true, true, true, true, true, true, true, true, true, true, true, true, true, true, false, false]) rfl (by kernel_rfl) (by kernel_rfl) (by kernel_rfl) (by kernel_rfl) rfl rfl rfl rfl hg (allc (List.Mem.head _) alln) ?_
          refine g_y (i := 20) (listed' := #[true, true, true, true, true, true, true, true, true, true, true, true, true, true, true, true, true, true, true, true, true, false]) rfl (by kernel_rfl) (by kernel_rfl) (by kernel_rfl) (by kernel_rfl) rfl rfl hg (allc (List.Mem.head _) alln) (fun m' H' hm' hX' => y_pickf rfl rfl rfl) ?_
          refine g_y (i := 21) (listed' := #[true, true, true, true, true, true, true, true, true, true, true, true, true, true, true, true, true, true, true, true, true, true]) rfl (by kernel_rfl) (by kernel_rfl) (by kernel_rfl) (by kernel_rfl) rfl rfl hg (allc (List.Mem.head _) alln) (fun m' H' hm' hX' => y_assign rfl) ?_
          refine g_done (by kernel_rfl) ?_
          clear hg hz_g
          refine hK8 _ _ _ ?_
          clear hK8 K8
          refine c_seq (fun K26 hK26 => ?_)
          refine c_region ?_
          refine r_y rfl rfl (y_move rfl) ?_
          refine r_y rfl rfl (y_not rfl) ?_
          refine r_nil ?_
          refine hK26 _ _ _ ?_
          clear hK26 K26
          refine c_ift rfl rfl ?_
          refine c_seq (fun K27 hK27 => ?_)
          refine c_region ?_
          refine r_y rfl rfl (y_assign rfl) ?_
          refine r_nil ?_
          refine hK27 _ _ _ ?_
          clear hK27 K27
          refine c_ret ?_
          refine e_ret 1 hm (res_tmps rfl) ?_
          have hA : actSound x = false := by
            obtain ⟨xk, xp, xf, xv⟩ := x
            clear hx hinv hi hl hmx hle
            unfold actSound; simp_all [setF, there, fits]
            try omega
          refine ⟨congrArg Value.bool ?_, rfl⟩
          rw [actsSound_all, all_false_at hx hA]; rfl
      ·
        refine c_seq (fun K28 hK28 => ?_)
        refine c_region ?_
        refine r_y rfl rfl (y_iop rfl rfl rfl) ?_
        refine r_y rfl rfl (y_assign rfl) ?_
        refine r_nil ?_
        refine hK28 _ _ _ ?_
        clear hK28 K28
        refine c_cond rfl (fun h11 => ?_) (fun h11 => ?_)
        ·
          refine c_region ?_
          refine r_y rfl rfl (y_fieldAddr rfl At.lit fo53_1 rfl) ?_
          refine r_y rfl rfl (y_load_s rfl ts3 (RdS.blk (i := 0) rfl rfl)) ?_
          refine r_y rfl rfl (y_iop rfl rfl rfl) ?_
          refine r_y rfl rfl (y_move rfl) ?_
          refine r_split (j := 3) rfl (fun h12 => ?_) (fun h12 => ?_)
          ·
            refine r_yg rfl h12 rfl (y_fieldAddr rfl At.lit fo53_2 rfl) ?_
            refine r_yg rfl h12 rfl (y_load_s rfl ts3 (RdS.blk (i := 0) rfl rfl)) ?_
            refine r_yg rfl h12 rfl (y_iop rfl rfl rfl) ?_
            refine r_y rfl rfl (y_pickt rfl h12 rfl) ?_
            refine r_y rfl rfl (y_move rfl) ?_
            refine r_split (j := 8) rfl (fun h13 => ?_) (fun h13 => ?_)
            ·
              refine r_yg rfl h13 rfl (y_fieldAddr rfl At.lit fo53_3 rfl) ?_
              refine r_yg rfl h13 rfl (y_load_s rfl ts25 (RdS.blk (i := 0) rfl rfl)) ?_
              refine r_yg rfl h13 rfl (y_wop rfl (opv_wc 0#64) rfl) ?_
              refine r_y rfl rfl (y_pickt rfl h13 rfl) ?_
              refine r_y rfl rfl (y_assign rfl) ?_
              refine r_nil ?_
              refine hK8 _ _ _ ?_
              clear hK8 K8
              refine c_seq (fun K29 hK29 => ?_)
              refine c_region ?_
              refine r_y rfl rfl (y_move rfl) ?_
              refine r_y rfl rfl (y_not rfl) ?_
              refine r_nil ?_
              refine hK29 _ _ _ ?_
              clear hK29 K29
              refine c_cond rfl (fun h14 => ?_) (fun h14 => ?_)
              ·
                refine c_seq (fun K30 hK30 => ?_)
                refine c_region ?_
                refine r_y rfl rfl (y_assign rfl) ?_
                refine r_nil ?_
                refine hK30 _ _ _ ?_
                clear hK30 K30
                refine c_ret ?_
                refine e_ret 1 hm (res_tmps rfl) ?_
                have hA : actSound x = false := by
                  obtain ⟨xk, xp, xf, xv⟩ := x
                  clear hx hinv hi hl hmx hle
                  unfold actSound; simp_all [setF, there, fits]
                  try omega
                refine ⟨congrArg Value.bool ?_, rfl⟩
                rw [actsSound_all, all_false_at hx hA]; rfl
              ·
                refine c_skip ?_
                refine hK5 _ _ _ ?_
                clear hK5 K5
                refine c_region ?_
                refine r_del 0 rfl ?_
                refine r_y rfl rfl (y_move rfl) ?_
                first | refine r_y rfl rfl (y_inc rfl (by omega)) ?_ | refine r_y rfl rfl (y_iop rfl rfl rfl) ?_
                refine r_y rfl rfl (y_assign rfl) ?_
                refine r_nil ?_
                have hA : actSound x = true := by
                  obtain ⟨xk, xp, xf, xv⟩ := x
                  clear hx hinv hi hl hmx hle
                  unfold actSound; simp_all [setF, there, fits]
                  try omega
                exact ⟨k0 - 1, (i + 1), by omega, ⟨rfl, rfl, trivial⟩, rfl, ⟨by omega, by rw [all_take_succ hx, hinv, hA]; rfl⟩, hm, hz⟩
            ·
              refine r_no' rfl rfl h13 ?_
              refine r_no' rfl rfl h13 ?_
              refine r_no' rfl rfl h13 ?_
              refine r_y rfl rfl (y_pickf rfl h13 rfl) ?_
              refine r_y rfl rfl (y_assign rfl) ?_
              refine r_nil ?_
              refine hK8 _ _ _ ?_
              clear hK8 K8
              refine c_seq (fun K31 hK31 => ?_)
              refine c_region ?_
              refine r_y rfl rfl (y_move rfl) ?_
              refine r_y rfl rfl (y_not rfl) ?_
              refine r_nil ?_
              refine hK31 _ _ _ ?_
              clear hK31 K31
              refine c_ift rfl rfl ?_
              refine c_seq (fun K32 hK32 => ?_)
              refine c_region ?_
              refine r_y rfl rfl (y_assign rfl) ?_
              refine r_nil ?_
              refine hK32 _ _ _ ?_
              clear hK32 K32
              refine c_ret ?_
              refine e_ret 1 hm (res_tmps rfl) ?_
              have hA : actSound x = false := by
                obtain ⟨xk, xp, xf, xv⟩ := x
                clear hx hinv hi hl hmx hle
                unfold actSound; simp_all [setF, there, fits]
                try omega
              refine ⟨congrArg Value.bool ?_, rfl⟩
              rw [actsSound_all, all_false_at hx hA]; rfl
          ·
            refine r_no' rfl rfl h12 ?_
            refine r_no' rfl rfl h12 ?_
            refine r_no' rfl rfl h12 ?_
            refine r_y rfl rfl (y_pickf rfl h12 rfl) ?_
            refine r_y rfl rfl (y_move rfl) ?_
            refine r_no' rfl rfl rfl ?_
            refine r_no' rfl rfl rfl ?_
            refine r_no' rfl rfl rfl ?_
            refine r_y rfl rfl (y_pickf rfl rfl rfl) ?_
            refine r_y rfl rfl (y_assign rfl) ?_
            refine r_nil ?_
            refine hK8 _ _ _ ?_
            clear hK8 K8
            refine c_seq (fun K33 hK33 => ?_)
            refine c_region ?_
            refine r_y rfl rfl (y_move rfl) ?_
            refine r_y rfl rfl (y_not rfl) ?_
            refine r_nil ?_
            refine hK33 _ _ _ ?_
            clear hK33 K33
            refine c_ift rfl rfl ?_
            refine c_seq (fun K34 hK34 => ?_)
            refine c_region ?_
            refine r_y rfl rfl (y_assign rfl) ?_
            refine r_nil ?_
            refine hK34 _ _ _ ?_
            clear hK34 K34
            refine c_ret ?_
            refine e_ret 1 hm (res_tmps rfl) ?_
            have hA : actSound x = false := by
              obtain ⟨xk, xp, xf, xv⟩ := x
              clear hx hinv hi hl hmx hle
              unfold actSound; simp_all [setF, there, fits]
              try omega
            refine ⟨congrArg Value.bool ?_, rfl⟩
            rw [actsSound_all, all_false_at hx hA]; rfl
        ·
          refine c_skip ?_
          refine hK8 _ _ _ ?_
          clear hK8 K8
          refine c_seq (fun K35 hK35 => ?_)
          refine c_region ?_
          refine r_y rfl rfl (y_move rfl) ?_
          refine r_y rfl rfl (y_not rfl) ?_
          refine r_nil ?_
          refine hK35 _ _ _ ?_
          clear hK35 K35
          refine c_ift rfl rfl ?_
          refine c_seq (fun K36 hK36 => ?_)
          refine c_region ?_
          refine r_y rfl rfl (y_assign rfl) ?_
          refine r_nil ?_
          refine hK36 _ _ _ ?_
          clear hK36 K36
          refine c_ret ?_
          refine e_ret 1 hm (res_tmps rfl) ?_
          have hA : actSound x = false := by
            obtain ⟨xk, xp, xf, xv⟩ := x
            clear hx hinv hi hl hmx hle
            unfold actSound; simp_all [setF, there, fits]
            try omega
          refine ⟨congrArg Value.bool ?_, rfl⟩
          rw [actsSound_all, all_false_at hx hA]; rfl
  ·
    refine c_exit ?_
    refine hK1 _ _ _ ?_
    clear hK3 K3 hK1 K1
    refine c_seq (fun K37 hK37 => ?_)
    refine c_region ?_
    refine r_y rfl rfl (y_move rfl) ?_
    refine r_y rfl rfl (y_len tl30 rfl) ?_
    refine r_y rfl rfl (y_iop rfl rfl rfl) ?_
    refine r_y rfl rfl (y_assign rfl) ?_
    refine r_nil ?_
    refine hK37 _ _ _ ?_
    clear hK37 K37
    refine c_ret ?_
    refine e_ret 0 hm (res_tmps rfl) ?_
    refine ⟨congrArg Value.bool ?_, rfl⟩
    rw [actsSound_all]
    rw [List.take_of_length_le (by simp at h0; omega)] at hinv
    rw [hinv, hl]; simp
set_option maxRecDepth 100000 in
theorem rRule_w (r : RuleD) (s : Sl) (m : Snap) (H : Hp) (hz : FzA m s r.acts) : Fn Try.prog 65 [.agg (encRule r s).toArray] m H (fun v _ H' => v = .bool (ruleSound r) ∧ H' = H) := by
  have hm : m.le m := Snap.le.refl m
  refine fn_end Try.func65 rfl rfl rfl ?_
  refine c_seq (fun K0 hK0 => ?_)
  refine c_region ?_
  refine r_s rfl ?_
  refine s_box_a rfl rfl (fun b0 => ?_)
  refine r_y rfl rfl (y_assign rfl) ?_
  refine r_nil ?_
  refine hK0 _ _ _ ?_
  clear hK0 K0
  refine c_seq (fun K1 hK1 => ?_)
  refine c_region ?_
  refine r_y rfl rfl (y_fieldAddr rfl At.lit fo50_0 rfl) ?_
  refine r_y rfl rfl (y_load_a (cs := encCube r.m) rfl ts29 (RdA.blk (i := 0) rfl rfl)) ?_
  refine r_s rfl ?_
  refine s_call0 rfl Try.call94 rfl (rCube_w r.m _ _) ?_
  rintro _ m2 _ hm2 ⟨rfl, rfl⟩
  replace hm := hm.trans hm2
  replace hz := hz.mono hm2
  clear hm2
  refine r_y rfl rfl (y_move rfl) ?_
  refine r_split (j := 3) rfl (fun h0 => ?_) (fun h0 => ?_)
  ·
    refine r_yg rfl h0 rfl (y_fieldAddr rfl At.lit fo50_2 rfl) ?_
    refine r_yg rfl h0 rfl (y_load_s rfl ts30 (RdS.blk (i := 0) rfl rfl)) ?_
    refine r_sg rfl h0 ?_
    refine s_call0 rfl Try.call95 rfl (rActs_w s r.acts _ _ hz) ?_
    rintro _ m2 _ hm2 ⟨rfl, rfl⟩
    replace hm := hm.trans hm2
    replace hz := hz.mono hm2
    clear hm2
    refine r_y rfl rfl (y_pickt rfl h0 rfl) ?_
    refine r_y rfl rfl (y_move rfl) ?_
    refine r_split (j := 8) rfl (fun h1 => ?_) (fun h1 => ?_)
    ·
      refine r_yg rfl h1 rfl (y_fieldAddr rfl At.lit fo50_1 rfl) ?_
      refine r_yg rfl h1 rfl (y_load_s rfl ts3 (RdS.blk (i := 0) rfl rfl)) ?_
      refine r_sg rfl h1 ?_
      refine s_call0 rfl Try.call96 rfl (spanF_ok _ _ _ _) ?_
      rintro _ m2 _ hm2 ⟨rfl, rfl⟩
      replace hm := hm.trans hm2
      replace hz := hz.mono hm2
      clear hm2
      refine r_y rfl rfl (y_pickt rfl h1 rfl) ?_
      refine r_y rfl rfl (y_move rfl) ?_
      refine r_split (j := 13) rfl (fun h2 => ?_) (fun h2 => ?_)
      ·
        refine r_yg rfl h2 rfl (y_fieldAddr rfl At.lit fo50_3 rfl) ?_
        refine r_yg rfl h2 rfl (y_load_s rfl ts3 (RdS.blk (i := 0) rfl rfl)) ?_
        refine r_sg rfl h2 ?_
        refine s_call0 rfl Try.call96 rfl (spanF_ok _ _ _ _) ?_
        rintro _ m2 _ hm2 ⟨rfl, rfl⟩
        replace hm := hm.trans hm2
        replace hz := hz.mono hm2
        clear hm2
        refine r_y rfl rfl (y_pickt rfl h2 rfl) ?_
        refine r_y rfl rfl (y_move rfl) ?_
        refine r_split (j := 18) rfl (fun h3 => ?_) (fun h3 => ?_)
        ·
          refine r_yg rfl h3 rfl (y_fieldAddr rfl At.lit fo50_4 rfl) ?_
          refine r_yg rfl h3 rfl (y_load_s rfl ts3 (RdS.blk (i := 0) rfl rfl)) ?_
          refine r_sg rfl h3 ?_
          refine s_call0 rfl Try.call96 rfl (spanF_ok _ _ _ _) ?_
          rintro _ m2 _ hm2 ⟨rfl, rfl⟩
          replace hm := hm.trans hm2
          replace hz := hz.mono hm2
          clear hm2
          refine r_y rfl rfl (y_pickt rfl h3 rfl) ?_
          refine r_y rfl rfl (y_move rfl) ?_
          refine r_split (j := 23) rfl (fun h4 => ?_) (fun h4 => ?_)
          ·
            refine r_yg rfl h4 rfl (y_fieldAddr rfl At.lit fo50_5 rfl) ?_
            refine r_yg rfl h4 rfl (y_load_s rfl ts3 (RdS.blk (i := 0) rfl rfl)) ?_
            refine r_sg rfl h4 ?_
            refine s_call0 rfl Try.call96 rfl (spanF_ok _ _ _ _) ?_
            rintro _ m2 _ hm2 ⟨rfl, rfl⟩
            replace hm := hm.trans hm2
            replace hz := hz.mono hm2
            clear hm2
            refine r_y rfl rfl (y_pickt rfl h4 rfl) ?_
            refine r_y rfl rfl (y_move rfl) ?_
            refine r_split (j := 28) rfl (fun h5 => ?_) (fun h5 => ?_)
            ·
              refine r_yg rfl h5 rfl (y_fieldAddr rfl At.lit fo50_6 rfl) ?_
              refine r_yg rfl h5 rfl (y_load_s rfl ts3 (RdS.blk (i := 0) rfl rfl)) ?_
              refine r_yg rfl h5 rfl (y_iop rfl rfl rfl) ?_
              refine r_y rfl rfl (y_pickt rfl h5 rfl) ?_
              refine r_y rfl rfl (y_move rfl) ?_
              refine r_split (j := 33) rfl (fun h6 => ?_) (fun h6 => ?_)
              ·
                refine r_yg rfl h6 rfl (y_fieldAddr rfl At.lit fo50_7 rfl) ?_
                refine r_yg rfl h6 rfl (y_load_s rfl ts3 (RdS.blk (i := 0) rfl rfl)) ?_
                refine r_yg rfl h6 rfl (y_iop rfl rfl rfl) ?_
                refine r_y rfl rfl (y_pickt rfl h6 rfl) ?_
                refine r_y rfl rfl (y_move rfl) ?_
                refine r_split (j := 38) rfl (fun h7 => ?_) (fun h7 => ?_)
                ·
                  refine r_yg rfl h7 rfl (y_fieldAddr rfl At.lit fo50_8 rfl) ?_
                  refine r_yg rfl h7 rfl (y_load_s rfl ts3 (RdS.blk (i := 0) rfl rfl)) ?_
                  refine r_yg rfl h7 rfl (y_iop rfl rfl rfl) ?_
                  refine r_y rfl rfl (y_pickt rfl h7 rfl) ?_
                  refine r_y rfl rfl (y_assign rfl) ?_
                  refine r_nil ?_
                  refine hK1 _ _ _ ?_
                  clear hK1 K1
                  refine c_ret ?_
                  refine e_ret 1 hm (res_tmps rfl) ?_
                  refine ⟨congrArg Value.bool ?_, rfl⟩
                  simp_all [ruleSound]
                  try omega
                ·
                  refine r_no' rfl rfl h7 ?_
                  refine r_no' rfl rfl h7 ?_
                  refine r_no' rfl rfl h7 ?_
                  refine r_y rfl rfl (y_pickf rfl h7 rfl) ?_
                  refine r_y rfl rfl (y_assign rfl) ?_
                  refine r_nil ?_
                  refine hK1 _ _ _ ?_
                  clear hK1 K1
                  refine c_ret ?_
                  refine e_ret 1 hm (res_tmps rfl) ?_
                  refine ⟨congrArg Value.bool ?_, rfl⟩
                  simp_all [ruleSound]
                  try omega
              ·
                refine r_no' rfl rfl h6 ?_
                refine r_no' rfl rfl h6 ?_
                refine r_no' rfl rfl h6 ?_
                refine r_y rfl rfl (y_pickf rfl h6 rfl) ?_
                refine r_y rfl rfl (y_move rfl) ?_
                refine r_no' rfl rfl rfl ?_
                refine r_no' rfl rfl rfl ?_
                refine r_no' rfl rfl rfl ?_
                refine r_y rfl rfl (y_pickf rfl rfl rfl) ?_
                refine r_y rfl rfl (y_assign rfl) ?_
                refine r_nil ?_
                refine hK1 _ _ _ ?_
                clear hK1 K1
                refine c_ret ?_
                refine e_ret 1 hm (res_tmps rfl) ?_
                refine ⟨congrArg Value.bool ?_, rfl⟩
                simp_all [ruleSound]
                try omega
            ·
              refine r_no' rfl rfl h5 ?_
              refine r_no' rfl rfl h5 ?_
              refine r_no' rfl rfl h5 ?_
              refine r_y rfl rfl (y_pickf rfl h5 rfl) ?_
              refine r_y rfl rfl (y_move rfl) ?_
              refine r_no' rfl rfl rfl ?_
              refine r_no' rfl rfl rfl ?_
              refine r_no' rfl rfl rfl ?_
              refine r_y rfl rfl (y_pickf rfl rfl rfl) ?_
              refine r_y rfl rfl (y_move rfl) ?_
              refine r_no' rfl rfl rfl ?_
              refine r_no' rfl rfl rfl ?_
              refine r_no' rfl rfl rfl ?_
              refine r_y rfl rfl (y_pickf rfl rfl rfl) ?_
              refine r_y rfl rfl (y_assign rfl) ?_
              refine r_nil ?_
              refine hK1 _ _ _ ?_
              clear hK1 K1
              refine c_ret ?_
              refine e_ret 1 hm (res_tmps rfl) ?_
              refine ⟨congrArg Value.bool ?_, rfl⟩
              simp_all [ruleSound]
              try omega
          ·
            refine r_no' rfl rfl h4 ?_
            refine r_no' rfl rfl h4 ?_
            refine r_no' rfl rfl h4 ?_
            refine r_y rfl rfl (y_pickf rfl h4 rfl) ?_
            refine r_y rfl rfl (y_move rfl) ?_
            refine r_no' rfl rfl rfl ?_
            refine r_no' rfl rfl rfl ?_
            refine r_no' rfl rfl rfl ?_
            refine r_y rfl rfl (y_pickf rfl rfl rfl) ?_
            refine r_y rfl rfl (y_move rfl) ?_
            refine r_no' rfl rfl rfl ?_
            refine r_no' rfl rfl rfl ?_
            refine r_no' rfl rfl rfl ?_
            refine r_y rfl rfl (y_pickf rfl rfl rfl) ?_
            refine r_y rfl rfl (y_move rfl) ?_
            refine r_no' rfl rfl rfl ?_
            refine r_no' rfl rfl rfl ?_
            refine r_no' rfl rfl rfl ?_
            refine r_y rfl rfl (y_pickf rfl rfl rfl) ?_
            refine r_y rfl rfl (y_assign rfl) ?_
            refine r_nil ?_
            refine hK1 _ _ _ ?_
            clear hK1 K1
            refine c_ret ?_
            refine e_ret 1 hm (res_tmps rfl) ?_
            refine ⟨congrArg Value.bool ?_, rfl⟩
            simp_all [ruleSound]
            try omega
        ·
          refine r_no' rfl rfl h3 ?_
          refine r_no' rfl rfl h3 ?_
          refine r_no' rfl rfl h3 ?_
          refine r_y rfl rfl (y_pickf rfl h3 rfl) ?_
          refine r_y rfl rfl (y_move rfl) ?_
          refine r_no' rfl rfl rfl ?_
          refine r_no' rfl rfl rfl ?_
          refine r_no' rfl rfl rfl ?_
          refine r_y rfl rfl (y_pickf rfl rfl rfl) ?_
          refine r_y rfl rfl (y_move rfl) ?_
          refine r_no' rfl rfl rfl ?_
          refine r_no' rfl rfl rfl ?_
          refine r_no' rfl rfl rfl ?_
          refine r_y rfl rfl (y_pickf rfl rfl rfl) ?_
          refine r_y rfl rfl (y_move rfl) ?_
          refine r_no' rfl rfl rfl ?_
          refine r_no' rfl rfl rfl ?_
          refine r_no' rfl rfl rfl ?_
          refine r_y rfl rfl (y_pickf rfl rfl rfl) ?_
          refine r_y rfl rfl (y_move rfl) ?_
          refine r_no' rfl rfl rfl ?_
          refine r_no' rfl rfl rfl ?_
          refine r_no' rfl rfl rfl ?_
          refine r_y rfl rfl (y_pickf rfl rfl rfl) ?_
          refine r_y rfl rfl (y_assign rfl) ?_
          refine r_nil ?_
          refine hK1 _ _ _ ?_
          clear hK1 K1
          refine c_ret ?_
          refine e_ret 1 hm (res_tmps rfl) ?_
          refine ⟨congrArg Value.bool ?_, rfl⟩
          simp_all [ruleSound]
          try omega
      ·
        refine r_no' rfl rfl h2 ?_
        refine r_no' rfl rfl h2 ?_
        refine r_no' rfl rfl h2 ?_
        refine r_y rfl rfl (y_pickf rfl h2 rfl) ?_
        refine r_y rfl rfl (y_move rfl) ?_
        refine r_no' rfl rfl rfl ?_
        refine r_no' rfl rfl rfl ?_
        refine r_no' rfl rfl rfl ?_
        refine r_y rfl rfl (y_pickf rfl rfl rfl) ?_
        refine r_y rfl rfl (y_move rfl) ?_
        refine r_no' rfl rfl rfl ?_
        refine r_no' rfl rfl rfl ?_
        refine r_no' rfl rfl rfl ?_
        refine r_y rfl rfl (y_pickf rfl rfl rfl) ?_
        refine r_y rfl rfl (y_move rfl) ?_
        refine r_no' rfl rfl rfl ?_
        refine r_no' rfl rfl rfl ?_
        refine r_no' rfl rfl rfl ?_
        refine r_y rfl rfl (y_pickf rfl rfl rfl) ?_
        refine r_y rfl rfl (y_move rfl) ?_
        refine r_no' rfl rfl rfl ?_
        refine r_no' rfl rfl rfl ?_
        refine r_no' rfl rfl rfl ?_
        refine r_y rfl rfl (y_pickf rfl rfl rfl) ?_
        refine r_y rfl rfl (y_move rfl) ?_
        refine r_no' rfl rfl rfl ?_
        refine r_no' rfl rfl rfl ?_
        refine r_no' rfl rfl rfl ?_
        refine r_y rfl rfl (y_pickf rfl rfl rfl) ?_
        refine r_y rfl rfl (y_assign rfl) ?_
        refine r_nil ?_
        refine hK1 _ _ _ ?_
        clear hK1 K1
        refine c_ret ?_
        refine e_ret 1 hm (res_tmps rfl) ?_
        refine ⟨congrArg Value.bool ?_, rfl⟩
        simp_all [ruleSound]
        try omega
    ·
      refine r_no' rfl rfl h1 ?_
      refine r_no' rfl rfl h1 ?_
      refine r_no' rfl rfl h1 ?_
      refine r_y rfl rfl (y_pickf rfl h1 rfl) ?_
      refine r_y rfl rfl (y_move rfl) ?_
      refine r_no' rfl rfl rfl ?_
      refine r_no' rfl rfl rfl ?_
      refine r_no' rfl rfl rfl ?_
      refine r_y rfl rfl (y_pickf rfl rfl rfl) ?_
      refine r_y rfl rfl (y_move rfl) ?_
      refine r_no' rfl rfl rfl ?_
      refine r_no' rfl rfl rfl ?_
      refine r_no' rfl rfl rfl ?_
      refine r_y rfl rfl (y_pickf rfl rfl rfl) ?_
      refine r_y rfl rfl (y_move rfl) ?_
      refine r_no' rfl rfl rfl ?_
      refine r_no' rfl rfl rfl ?_
      refine r_no' rfl rfl rfl ?_
      refine r_y rfl rfl (y_pickf rfl rfl rfl) ?_
      refine r_y rfl rfl (y_move rfl) ?_
      refine r_no' rfl rfl rfl ?_
      refine r_no' rfl rfl rfl ?_
      refine r_no' rfl rfl rfl ?_
      refine r_y rfl rfl (y_pickf rfl rfl rfl) ?_
      refine r_y rfl rfl (y_move rfl) ?_
      refine r_no' rfl rfl rfl ?_
      refine r_no' rfl rfl rfl ?_
      refine r_no' rfl rfl rfl ?_
      refine r_y rfl rfl (y_pickf rfl rfl rfl) ?_
      refine r_y rfl rfl (y_move rfl) ?_
      refine r_no' rfl rfl rfl ?_
      refine r_no' rfl rfl rfl ?_
      refine r_no' rfl rfl rfl ?_
      refine r_y rfl rfl (y_pickf rfl rfl rfl) ?_
      refine r_y rfl rfl (y_assign rfl) ?_
      refine r_nil ?_
      refine hK1 _ _ _ ?_
      clear hK1 K1
      refine c_ret ?_
      refine e_ret 1 hm (res_tmps rfl) ?_
      refine ⟨congrArg Value.bool ?_, rfl⟩
      simp_all [ruleSound]
      try omega
  ·
    refine r_no' rfl rfl h0 ?_
    refine r_no' rfl rfl h0 ?_
    refine r_no' rfl rfl h0 ?_
    refine r_y rfl rfl (y_pickf rfl h0 rfl) ?_
    refine r_y rfl rfl (y_move rfl) ?_
    refine r_no' rfl rfl rfl ?_
    refine r_no' rfl rfl rfl ?_
    refine r_no' rfl rfl rfl ?_
    refine r_y rfl rfl (y_pickf rfl rfl rfl) ?_
    refine r_y rfl rfl (y_move rfl) ?_
    refine r_no' rfl rfl rfl ?_
    refine r_no' rfl rfl rfl ?_
    refine r_no' rfl rfl rfl ?_
    refine r_y rfl rfl (y_pickf rfl rfl rfl) ?_
    refine r_y rfl rfl (y_move rfl) ?_
    refine r_no' rfl rfl rfl ?_
    refine r_no' rfl rfl rfl ?_
    refine r_no' rfl rfl rfl ?_
    refine r_y rfl rfl (y_pickf rfl rfl rfl) ?_
    refine r_y rfl rfl (y_move rfl) ?_
    refine r_no' rfl rfl rfl ?_
    refine r_no' rfl rfl rfl ?_
    refine r_no' rfl rfl rfl ?_
    refine r_y rfl rfl (y_pickf rfl rfl rfl) ?_
    refine r_y rfl rfl (y_move rfl) ?_
    refine r_no' rfl rfl rfl ?_
    refine r_no' rfl rfl rfl ?_
    refine r_no' rfl rfl rfl ?_
    refine r_y rfl rfl (y_pickf rfl rfl rfl) ?_
    refine r_y rfl rfl (y_move rfl) ?_
    refine r_no' rfl rfl rfl ?_
    refine r_no' rfl rfl rfl ?_
    refine r_no' rfl rfl rfl ?_
    refine r_y rfl rfl (y_pickf rfl rfl rfl) ?_
    refine r_y rfl rfl (y_move rfl) ?_
    refine r_no' rfl rfl rfl ?_
    refine r_no' rfl rfl rfl ?_
    refine r_no' rfl rfl rfl ?_
    refine r_y rfl rfl (y_pickf rfl rfl rfl) ?_
    refine r_y rfl rfl (y_assign rfl) ?_
    refine r_nil ?_
    refine hK1 _ _ _ ?_
    clear hK1 K1
    refine c_ret ?_
    refine e_ret 1 hm (res_tmps rfl) ?_
    refine ⟨congrArg Value.bool ?_, rfl⟩
    simp_all [ruleSound]
    try omega
set_option maxRecDepth 100000 in
theorem rMod_w (x : ModD) (s : Sl) (m : Snap) (H : Hp) (hz : FzA m s x.acts) : Fn Try.prog 37 [.agg (encMod x s).toArray] m H (fun v _ H' => v = .bool (modSound x) ∧ H' = H) := by
  have hl := hz.lenA
  have hm : m.le m := Snap.le.refl m
  refine fn_end Try.func37 rfl rfl rfl ?_
  refine c_seq (fun K0 hK0 => ?_)
  refine c_region ?_
  refine r_s rfl ?_
  refine s_box_a rfl rfl (fun b0 => ?_)
  refine r_y rfl rfl (y_assign rfl) ?_
  refine r_nil ?_
  refine hK0 _ _ _ ?_
  clear hK0 K0
  refine c_seq (fun K1 hK1 => ?_)
  refine c_seq (fun K2 hK2 => ?_)
  refine c_region ?_
  refine r_y rfl rfl (y_fieldAddr rfl At.lit fo32_0 rfl) ?_
  refine r_y rfl rfl (y_load_s rfl ts3 (RdS.blk (i := 0) rfl rfl)) ?_
  refine r_y rfl rfl (y_iop rfl rfl rfl) ?_
  refine r_y rfl rfl (y_move rfl) ?_
  refine r_split (j := 3) rfl (fun h0 => ?_) (fun h0 => ?_)
  ·
    refine r_no' rfl rfl h0 ?_
    refine r_no' rfl rfl h0 ?_
    refine r_no' rfl rfl h0 ?_
    refine r_y rfl rfl (y_pickt rfl h0 rfl) ?_
    refine r_y rfl rfl (y_move rfl) ?_
    refine r_no' rfl rfl rfl ?_
    refine r_no' rfl rfl rfl ?_
    refine r_no' rfl rfl rfl ?_
    refine r_no' rfl rfl rfl ?_
    refine r_y rfl rfl (y_pickt rfl rfl rfl) ?_
    refine r_y rfl rfl (y_move rfl) ?_
    refine r_no' rfl rfl rfl ?_
    refine r_no' rfl rfl rfl ?_
    refine r_no' rfl rfl rfl ?_
    refine r_no' rfl rfl rfl ?_
    refine r_y rfl rfl (y_pickt rfl rfl rfl) ?_
    refine r_y rfl rfl (y_move rfl) ?_
    refine r_no' rfl rfl rfl ?_
    refine r_no' rfl rfl rfl ?_
    refine r_no' rfl rfl rfl ?_
    refine r_no' rfl rfl rfl ?_
    refine r_y rfl rfl (y_pickt rfl rfl rfl) ?_
    refine r_y rfl rfl (y_move rfl) ?_
    refine r_no' rfl rfl rfl ?_
    refine r_no' rfl rfl rfl ?_
    refine r_no' rfl rfl rfl ?_
    refine r_no' rfl rfl rfl ?_
    refine r_y rfl rfl (y_pickt rfl rfl rfl) ?_
    refine r_y rfl rfl (y_move rfl) ?_
    refine r_no' rfl rfl rfl ?_
    refine r_no' rfl rfl rfl ?_
    refine r_no' rfl rfl rfl ?_
    refine r_no' rfl rfl rfl ?_
    refine r_y rfl rfl (y_pickt rfl rfl rfl) ?_
    refine r_y rfl rfl (y_move rfl) ?_
    refine r_no' rfl rfl rfl ?_
    refine r_no' rfl rfl rfl ?_
    refine r_no' rfl rfl rfl ?_
    refine r_no' rfl rfl rfl ?_
    refine r_y rfl rfl (y_pickt rfl rfl rfl) ?_
    refine r_nil ?_
    refine hK2 _ _ _ ?_
    clear hK2 K2
    refine c_ift rfl rfl ?_
    refine c_seq (fun K3 hK3 => ?_)
    refine c_region ?_
    refine r_y rfl rfl (y_assign rfl) ?_
    refine r_nil ?_
    refine hK3 _ _ _ ?_
    clear hK3 K3
    refine c_ret ?_
    refine e_ret 1 hm (res_tmps rfl) ?_
    refine ⟨congrArg Value.bool ?_, rfl⟩
    clear hz hm
    unfold modSound
    simp_all [modPlain, span]
    all_goals (try (repeat' (first | (intro _) | split)))
    all_goals (first | omega | (simp_all; done) | (simp_all; omega))
  ·
    refine r_yg rfl h0 rfl (y_fieldAddr rfl At.lit fo32_0 rfl) ?_
    refine r_yg rfl h0 rfl (y_load_s rfl ts3 (RdS.blk (i := 0) rfl rfl)) ?_
    refine r_yg rfl h0 rfl (y_iop rfl rfl rfl) ?_
    refine r_y rfl rfl (y_pickf rfl h0 rfl) ?_
    refine r_y rfl rfl (y_move rfl) ?_
    refine r_split (j := 8) rfl (fun h1 => ?_) (fun h1 => ?_)
    ·
      refine r_no' rfl rfl h1 ?_
      refine r_no' rfl rfl h1 ?_
      refine r_no' rfl rfl h1 ?_
      refine r_no' rfl rfl h1 ?_
      refine r_y rfl rfl (y_pickt rfl h1 rfl) ?_
      refine r_y rfl rfl (y_move rfl) ?_
      refine r_no' rfl rfl rfl ?_
      refine r_no' rfl rfl rfl ?_
      refine r_no' rfl rfl rfl ?_
      refine r_no' rfl rfl rfl ?_
      refine r_y rfl rfl (y_pickt rfl rfl rfl) ?_
      refine r_y rfl rfl (y_move rfl) ?_
      refine r_no' rfl rfl rfl ?_
      refine r_no' rfl rfl rfl ?_
      refine r_no' rfl rfl rfl ?_
      refine r_no' rfl rfl rfl ?_
      refine r_y rfl rfl (y_pickt rfl rfl rfl) ?_
      refine r_y rfl rfl (y_move rfl) ?_
      refine r_no' rfl rfl rfl ?_
      refine r_no' rfl rfl rfl ?_
      refine r_no' rfl rfl rfl ?_
      refine r_no' rfl rfl rfl ?_
      refine r_y rfl rfl (y_pickt rfl rfl rfl) ?_
      refine r_y rfl rfl (y_move rfl) ?_
      refine r_no' rfl rfl rfl ?_
      refine r_no' rfl rfl rfl ?_
      refine r_no' rfl rfl rfl ?_
      refine r_no' rfl rfl rfl ?_
      refine r_y rfl rfl (y_pickt rfl rfl rfl) ?_
      refine r_y rfl rfl (y_move rfl) ?_
      refine r_no' rfl rfl rfl ?_
      refine r_no' rfl rfl rfl ?_
      refine r_no' rfl rfl rfl ?_
      refine r_no' rfl rfl rfl ?_
      refine r_y rfl rfl (y_pickt rfl rfl rfl) ?_
      refine r_nil ?_
      refine hK2 _ _ _ ?_
      clear hK2 K2
      refine c_ift rfl rfl ?_
      refine c_seq (fun K4 hK4 => ?_)
      refine c_region ?_
      refine r_y rfl rfl (y_assign rfl) ?_
      refine r_nil ?_
      refine hK4 _ _ _ ?_
      clear hK4 K4
      refine c_ret ?_
      refine e_ret 1 hm (res_tmps rfl) ?_
      refine ⟨congrArg Value.bool ?_, rfl⟩
      clear hz hm
      unfold modSound
      simp_all [modPlain, span]
      all_goals (try (repeat' (first | (intro _) | split)))
      all_goals (first | omega | (simp_all; done) | (simp_all; omega))
    ·
      refine r_yg rfl h1 rfl (y_fieldAddr rfl At.lit fo32_1 rfl) ?_
      refine r_yg rfl h1 rfl (y_load_a (cs := encCube x.m) rfl ts29 (RdA.blk (i := 0) rfl rfl)) ?_
      refine r_sg rfl h1 ?_
      refine s_call0 rfl Try.call94 rfl (rCube_w x.m _ _) ?_
      rintro _ m2 _ hm2 ⟨rfl, rfl⟩
      replace hm := hm.trans hm2
      replace hz := hz.mono hm2
      clear hm2
      refine r_yg rfl h1 rfl (y_not rfl) ?_
      refine r_y rfl rfl (y_pickf rfl h1 rfl) ?_
      refine r_y rfl rfl (y_move rfl) ?_
      refine r_split (j := 14) rfl (fun h2 => ?_) (fun h2 => ?_)
      ·
        refine r_no' rfl rfl h2 ?_
        refine r_no' rfl rfl h2 ?_
        refine r_no' rfl rfl h2 ?_
        refine r_no' rfl rfl h2 ?_
        refine r_y rfl rfl (y_pickt rfl h2 rfl) ?_
        refine r_y rfl rfl (y_move rfl) ?_
        refine r_no' rfl rfl rfl ?_
        refine r_no' rfl rfl rfl ?_
        refine r_no' rfl rfl rfl ?_
        refine r_no' rfl rfl rfl ?_
        refine r_y rfl rfl (y_pickt rfl rfl rfl) ?_
        refine r_y rfl rfl (y_move rfl) ?_
        refine r_no' rfl rfl rfl ?_
        refine r_no' rfl rfl rfl ?_
        refine r_no' rfl rfl rfl ?_
        refine r_no' rfl rfl rfl ?_
        refine r_y rfl rfl (y_pickt rfl rfl rfl) ?_
        refine r_y rfl rfl (y_move rfl) ?_
        refine r_no' rfl rfl rfl ?_
        refine r_no' rfl rfl rfl ?_
        refine r_no' rfl rfl rfl ?_
        refine r_no' rfl rfl rfl ?_
        refine r_y rfl rfl (y_pickt rfl rfl rfl) ?_
        refine r_y rfl rfl (y_move rfl) ?_
        refine r_no' rfl rfl rfl ?_
        refine r_no' rfl rfl rfl ?_
        refine r_no' rfl rfl rfl ?_
        refine r_no' rfl rfl rfl ?_
        refine r_y rfl rfl (y_pickt rfl rfl rfl) ?_
        refine r_nil ?_
        refine hK2 _ _ _ ?_
        clear hK2 K2
        refine c_ift rfl rfl ?_
        refine c_seq (fun K5 hK5 => ?_)
        refine c_region ?_
        refine r_y rfl rfl (y_assign rfl) ?_
        refine r_nil ?_
        refine hK5 _ _ _ ?_
        clear hK5 K5
        refine c_ret ?_
        refine e_ret 1 hm (res_tmps rfl) ?_
        refine ⟨congrArg Value.bool ?_, rfl⟩
        clear hz hm
        unfold modSound
        simp_all [modPlain, span]
        all_goals (try (repeat' (first | (intro _) | split)))
        all_goals (first | omega | (simp_all; done) | (simp_all; omega))
      ·
        refine r_yg rfl h2 rfl (y_fieldAddr rfl At.lit fo32_3 rfl) ?_
        refine r_yg rfl h2 rfl (y_load_s rfl ts30 (RdS.blk (i := 0) rfl rfl)) ?_
        refine r_sg rfl h2 ?_
        refine s_call0 rfl Try.call95 rfl (rActs_w s x.acts _ _ hz) ?_
        rintro _ m2 _ hm2 ⟨rfl, rfl⟩
        replace hm := hm.trans hm2
        replace hz := hz.mono hm2
        clear hm2
        refine r_yg rfl h2 rfl (y_not rfl) ?_
        refine r_y rfl rfl (y_pickf rfl h2 rfl) ?_
        refine r_y rfl rfl (y_move rfl) ?_
        refine r_split (j := 20) rfl (fun h3 => ?_) (fun h3 => ?_)
        ·
          refine r_no' rfl rfl h3 ?_
          refine r_no' rfl rfl h3 ?_
          refine r_no' rfl rfl h3 ?_
          refine r_no' rfl rfl h3 ?_
          refine r_y rfl rfl (y_pickt rfl h3 rfl) ?_
          refine r_y rfl rfl (y_move rfl) ?_
          refine r_no' rfl rfl rfl ?_
          refine r_no' rfl rfl rfl ?_
          refine r_no' rfl rfl rfl ?_
          refine r_no' rfl rfl rfl ?_
          refine r_y rfl rfl (y_pickt rfl rfl rfl) ?_
          refine r_y rfl rfl (y_move rfl) ?_
          refine r_no' rfl rfl rfl ?_
          refine r_no' rfl rfl rfl ?_
          refine r_no' rfl rfl rfl ?_
          refine r_no' rfl rfl rfl ?_
          refine r_y rfl rfl (y_pickt rfl rfl rfl) ?_
          refine r_y rfl rfl (y_move rfl) ?_
          refine r_no' rfl rfl rfl ?_
          refine r_no' rfl rfl rfl ?_
          refine r_no' rfl rfl rfl ?_
          refine r_no' rfl rfl rfl ?_
          refine r_y rfl rfl (y_pickt rfl rfl rfl) ?_
          refine r_nil ?_
          refine hK2 _ _ _ ?_
          clear hK2 K2
          refine c_ift rfl rfl ?_
          refine c_seq (fun K6 hK6 => ?_)
          refine c_region ?_
          refine r_y rfl rfl (y_assign rfl) ?_
          refine r_nil ?_
          refine hK6 _ _ _ ?_
          clear hK6 K6
          refine c_ret ?_
          refine e_ret 1 hm (res_tmps rfl) ?_
          refine ⟨congrArg Value.bool ?_, rfl⟩
          clear hz hm
          unfold modSound
          simp_all [modPlain, span]
          all_goals (try (repeat' (first | (intro _) | split)))
          all_goals (first | omega | (simp_all; done) | (simp_all; omega))
        ·
          refine r_yg rfl h3 rfl (y_fieldAddr rfl At.lit fo32_2 rfl) ?_
          refine r_yg rfl h3 rfl (y_load_s rfl ts3 (RdS.blk (i := 0) rfl rfl)) ?_
          refine r_sg rfl h3 ?_
          refine s_call0 rfl Try.call96 rfl (spanF_ok _ _ _ _) ?_
          rintro _ m2 _ hm2 ⟨rfl, rfl⟩
          replace hm := hm.trans hm2
          replace hz := hz.mono hm2
          clear hm2
          refine r_yg rfl h3 rfl (y_not rfl) ?_
          refine r_y rfl rfl (y_pickf rfl h3 rfl) ?_
          refine r_y rfl rfl (y_move rfl) ?_
          refine r_split (j := 26) rfl (fun h4 => ?_) (fun h4 => ?_)
          ·
            refine r_no' rfl rfl h4 ?_
            refine r_no' rfl rfl h4 ?_
            refine r_no' rfl rfl h4 ?_
            refine r_no' rfl rfl h4 ?_
            refine r_y rfl rfl (y_pickt rfl h4 rfl) ?_
            refine r_y rfl rfl (y_move rfl) ?_
            refine r_no' rfl rfl rfl ?_
            refine r_no' rfl rfl rfl ?_
            refine r_no' rfl rfl rfl ?_
            refine r_no' rfl rfl rfl ?_
            refine r_y rfl rfl (y_pickt rfl rfl rfl) ?_
            refine r_y rfl rfl (y_move rfl) ?_
            refine r_no' rfl rfl rfl ?_
            refine r_no' rfl rfl rfl ?_
            refine r_no' rfl rfl rfl ?_
            refine r_no' rfl rfl rfl ?_
            refine r_y rfl rfl (y_pickt rfl rfl rfl) ?_
            refine r_nil ?_
            refine hK2 _ _ _ ?_
            clear hK2 K2
            refine c_ift rfl rfl ?_
            refine c_seq (fun K7 hK7 => ?_)
            refine c_region ?_
            refine r_y rfl rfl (y_assign rfl) ?_
            refine r_nil ?_
            refine hK7 _ _ _ ?_
            clear hK7 K7
            refine c_ret ?_
            refine e_ret 1 hm (res_tmps rfl) ?_
            refine ⟨congrArg Value.bool ?_, rfl⟩
            clear hz hm
            unfold modSound
            simp_all [modPlain, span]
            all_goals (try (repeat' (first | (intro _) | split)))
            all_goals (first | omega | (simp_all; done) | (simp_all; omega))
          ·
            refine r_yg rfl h4 rfl (y_fieldAddr rfl At.lit fo32_6 rfl) ?_
            refine r_yg rfl h4 rfl (y_load_s rfl ts3 (RdS.blk (i := 0) rfl rfl)) ?_
            refine r_sg rfl h4 ?_
            refine s_call0 rfl Try.call96 rfl (spanF_ok _ _ _ _) ?_
            rintro _ m2 _ hm2 ⟨rfl, rfl⟩
            replace hm := hm.trans hm2
            replace hz := hz.mono hm2
            clear hm2
            refine r_yg rfl h4 rfl (y_not rfl) ?_
            refine r_y rfl rfl (y_pickf rfl h4 rfl) ?_
            refine r_y rfl rfl (y_move rfl) ?_
            refine r_split (j := 32) rfl (fun h5 => ?_) (fun h5 => ?_)
            ·
              refine r_no' rfl rfl h5 ?_
              refine r_no' rfl rfl h5 ?_
              refine r_no' rfl rfl h5 ?_
              refine r_no' rfl rfl h5 ?_
              refine r_y rfl rfl (y_pickt rfl h5 rfl) ?_
              refine r_y rfl rfl (y_move rfl) ?_
              refine r_no' rfl rfl rfl ?_
              refine r_no' rfl rfl rfl ?_
              refine r_no' rfl rfl rfl ?_
              refine r_no' rfl rfl rfl ?_
              refine r_y rfl rfl (y_pickt rfl rfl rfl) ?_
              refine r_nil ?_
              refine hK2 _ _ _ ?_
              clear hK2 K2
              refine c_ift rfl rfl ?_
              refine c_seq (fun K8 hK8 => ?_)
              refine c_region ?_
              refine r_y rfl rfl (y_assign rfl) ?_
              refine r_nil ?_
              refine hK8 _ _ _ ?_
              clear hK8 K8
              refine c_ret ?_
              refine e_ret 1 hm (res_tmps rfl) ?_
              refine ⟨congrArg Value.bool ?_, rfl⟩
              clear hz hm
              unfold modSound
              simp_all [modPlain, span]
              all_goals (try (repeat' (first | (intro _) | split)))
              all_goals (first | omega | (simp_all; done) | (simp_all; omega))
            ·
              refine r_yg rfl h5 rfl (y_fieldAddr rfl At.lit fo32_4 rfl) ?_
              refine r_yg rfl h5 rfl (y_load_s rfl ts3 (RdS.blk (i := 0) rfl rfl)) ?_
              refine r_sg rfl h5 ?_
              refine s_call0 rfl Try.call96 rfl (spanF_ok _ _ _ _) ?_
              rintro _ m2 _ hm2 ⟨rfl, rfl⟩
              replace hm := hm.trans hm2
              replace hz := hz.mono hm2
              clear hm2
              refine r_yg rfl h5 rfl (y_not rfl) ?_
              refine r_y rfl rfl (y_pickf rfl h5 rfl) ?_
              refine r_y rfl rfl (y_move rfl) ?_
              refine r_split (j := 38) rfl (fun h6 => ?_) (fun h6 => ?_)
              ·
                refine r_no' rfl rfl h6 ?_
                refine r_no' rfl rfl h6 ?_
                refine r_no' rfl rfl h6 ?_
                refine r_no' rfl rfl h6 ?_
                refine r_y rfl rfl (y_pickt rfl h6 rfl) ?_
                refine r_nil ?_
                refine hK2 _ _ _ ?_
                clear hK2 K2
                refine c_ift rfl rfl ?_
                refine c_seq (fun K9 hK9 => ?_)
                refine c_region ?_
                refine r_y rfl rfl (y_assign rfl) ?_
                refine r_nil ?_
                refine hK9 _ _ _ ?_
                clear hK9 K9
                refine c_ret ?_
                refine e_ret 1 hm (res_tmps rfl) ?_
                refine ⟨congrArg Value.bool ?_, rfl⟩
                clear hz hm
                unfold modSound
                simp_all [modPlain, span]
                all_goals (try (repeat' (first | (intro _) | split)))
                all_goals (first | omega | (simp_all; done) | (simp_all; omega))
              ·
                refine r_yg rfl h6 rfl (y_fieldAddr rfl At.lit fo32_5 rfl) ?_
                refine r_yg rfl h6 rfl (y_load_s rfl ts3 (RdS.blk (i := 0) rfl rfl)) ?_
                refine r_sg rfl h6 ?_
                refine s_call0 rfl Try.call96 rfl (spanF_ok _ _ _ _) ?_
                rintro _ m2 _ hm2 ⟨rfl, rfl⟩
                replace hm := hm.trans hm2
                replace hz := hz.mono hm2
                clear hm2
                refine r_yg rfl h6 rfl (y_not rfl) ?_
                refine r_y rfl rfl (y_pickf rfl h6 rfl) ?_
                refine r_nil ?_
                refine hK2 _ _ _ ?_
                clear hK2 K2
                refine c_cond rfl (fun h7 => ?_) (fun h7 => ?_)
                ·
                  refine c_seq (fun K10 hK10 => ?_)
                  refine c_region ?_
                  refine r_y rfl rfl (y_assign rfl) ?_
                  refine r_nil ?_
                  refine hK10 _ _ _ ?_
                  clear hK10 K10
                  refine c_ret ?_
                  refine e_ret 1 hm (res_tmps rfl) ?_
                  refine ⟨congrArg Value.bool ?_, rfl⟩
                  clear hz hm
                  unfold modSound
                  simp_all [modPlain, span]
                  all_goals (try (repeat' (first | (intro _) | split)))
                  all_goals (first | omega | (simp_all; done) | (simp_all; omega))
                ·
                  refine c_skip ?_
                  refine hK1 _ _ _ ?_
                  clear hK1 K1
                  refine c_seq (fun K11 hK11 => ?_)
                  refine c_seq (fun K12 hK12 => ?_)
                  refine c_region ?_
                  refine r_y rfl rfl (y_fieldAddr rfl At.lit fo32_0 rfl) ?_
                  refine r_y rfl rfl (y_load_s rfl ts3 (RdS.blk (i := 0) rfl rfl)) ?_
                  refine r_y rfl rfl (y_iop rfl rfl rfl) ?_
                  refine r_y rfl rfl (y_move rfl) ?_
                  refine r_split (j := 3) rfl (fun h8 => ?_) (fun h8 => ?_)
                  ·
                    refine r_yg rfl h8 rfl (y_fieldAddr rfl At.lit fo32_4 rfl) ?_
                    refine r_yg rfl h8 rfl (y_load_s rfl ts3 (RdS.blk (i := 0) rfl rfl)) ?_
                    refine r_yg rfl h8 rfl (y_iop rfl rfl rfl) ?_
                    refine r_yg rfl h8 rfl (y_move rfl) ?_
                    refine r_split (j := 7) rfl (fun h9 => ?_) (fun h9 => ?_)
                    ·
                      refine r_no' rfl rfl h9 ?_
                      refine r_no' rfl rfl h9 ?_
                      refine r_no' rfl rfl h9 ?_
                      refine r_yg rfl h8 rfl (y_pickt rfl h9 rfl) ?_
                      refine r_yg rfl h8 rfl (y_move rfl) ?_
                      refine r_no' rfl rfl rfl ?_
                      refine r_no' rfl rfl rfl ?_
                      refine r_yg rfl h8 rfl (y_pickt rfl rfl rfl) ?_
                      refine r_y rfl rfl (y_pickt rfl h8 rfl) ?_
                      refine r_nil ?_
                      refine hK12 _ _ _ ?_
                      clear hK12 K12
                      refine c_ift rfl rfl ?_
                      refine c_seq (fun K13 hK13 => ?_)
                      refine c_region ?_
                      refine r_y rfl rfl (y_assign rfl) ?_
                      refine r_nil ?_
                      refine hK13 _ _ _ ?_
                      clear hK13 K13
                      refine c_ret ?_
                      refine e_ret 1 hm (res_tmps rfl) ?_
                      refine ⟨congrArg Value.bool ?_, rfl⟩
                      clear hz hm
                      unfold modSound
                      simp_all [modPlain, span]
                      all_goals (try (repeat' (first | (intro _) | split)))
                      all_goals (first | omega | (simp_all; done) | (simp_all; omega))
                    ·
                      refine r_yg rfl h9 rfl (y_fieldAddr rfl At.lit fo32_5 rfl) ?_
                      refine r_yg rfl h9 rfl (y_load_s rfl ts3 (RdS.blk (i := 0) rfl rfl)) ?_
                      refine r_yg rfl h9 rfl (y_iop rfl rfl rfl) ?_
                      refine r_yg rfl h8 rfl (y_pickf rfl h9 rfl) ?_
                      refine r_yg rfl h8 rfl (y_move rfl) ?_
                      refine r_split (j := 12) rfl (fun h10 => ?_) (fun h10 => ?_)
                      ·
                        refine r_no' rfl rfl h10 ?_
                        refine r_no' rfl rfl h10 ?_
                        refine r_yg rfl h8 rfl (y_pickt rfl h10 rfl) ?_
                        refine r_y rfl rfl (y_pickt rfl h8 rfl) ?_
                        refine r_nil ?_
                        refine hK12 _ _ _ ?_
                        clear hK12 K12
                        refine c_ift rfl rfl ?_
                        refine c_seq (fun K14 hK14 => ?_)
                        refine c_region ?_
                        refine r_y rfl rfl (y_assign rfl) ?_
                        refine r_nil ?_
                        refine hK14 _ _ _ ?_
                        clear hK14 K14
                        refine c_ret ?_
                        refine e_ret 1 hm (res_tmps rfl) ?_
                        refine ⟨congrArg Value.bool ?_, rfl⟩
                        clear hz hm
                        unfold modSound
                        simp_all [modPlain, span]
                        all_goals (try (repeat' (first | (intro _) | split)))
                        all_goals (first | omega | (simp_all; done) | (simp_all; omega))
                      ·
                        refine r_yg rfl h10 rfl (y_fieldAddr rfl At.lit fo32_7 rfl) ?_
                        refine r_yg rfl h10 rfl (y_load_s rfl ts4 (RdS.blk (i := 0) rfl rfl)) ?_
                        refine r_yg rfl h8 rfl (y_pickf rfl h10 rfl) ?_
                        refine r_y rfl rfl (y_pickt rfl h8 rfl) ?_
                        refine r_nil ?_
                        refine hK12 _ _ _ ?_
                        clear hK12 K12
                        refine c_cond rfl (fun h11 => ?_) (fun h11 => ?_)
                        ·
                          refine c_seq (fun K15 hK15 => ?_)
                          refine c_region ?_
                          refine r_y rfl rfl (y_assign rfl) ?_
                          refine r_nil ?_
                          refine hK15 _ _ _ ?_
                          clear hK15 K15
                          refine c_ret ?_
                          refine e_ret 1 hm (res_tmps rfl) ?_
                          refine ⟨congrArg Value.bool ?_, rfl⟩
                          clear hz hm
                          unfold modSound
                          simp_all [modPlain, span]
                          all_goals (try (repeat' (first | (intro _) | split)))
                          all_goals (first | omega | (simp_all; done) | (simp_all; omega))
                        ·
                          refine c_skip ?_
                          refine hK11 _ _ _ ?_
                          clear hK11 K11
                          refine c_seq (fun K16 hK16 => ?_)
                          refine c_seq (fun K17 hK17 => ?_)
                          refine c_region ?_
                          refine r_y rfl rfl (y_fieldAddr rfl At.lit fo32_0 rfl) ?_
                          refine r_y rfl rfl (y_load_s rfl ts3 (RdS.blk (i := 0) rfl rfl)) ?_
                          refine r_y rfl rfl (y_iop rfl rfl rfl) ?_
                          refine r_y rfl rfl (y_move rfl) ?_
                          refine r_split (j := 3) rfl (fun h12 => ?_) (fun h12 => ?_)
                          ·
                            refine r_no' rfl rfl h12 ?_
                            refine r_no' rfl rfl h12 ?_
                            refine r_no' rfl rfl h12 ?_
                            refine r_y rfl rfl (y_pickt rfl h12 rfl) ?_
                            refine r_y rfl rfl (y_move rfl) ?_
                            refine r_yg rfl rfl rfl (y_fieldAddr rfl At.lit fo32_2 rfl) ?_
                            refine r_yg rfl rfl rfl (y_load_s rfl ts3 (RdS.blk (i := 0) rfl rfl)) ?_
                            refine r_yg rfl rfl rfl (y_iop rfl rfl rfl) ?_
                            refine r_y rfl rfl (y_pickt rfl rfl rfl) ?_
                            refine r_nil ?_
                            refine hK17 _ _ _ ?_
                            clear hK17 K17
                            refine c_cond rfl (fun h13 => ?_) (fun h13 => ?_)
                            ·
                              refine c_seq (fun K18 hK18 => ?_)
                              refine c_region ?_
                              refine r_y rfl rfl (y_assign rfl) ?_
                              refine r_nil ?_
                              refine hK18 _ _ _ ?_
                              clear hK18 K18
                              refine c_ret ?_
                              refine e_ret 1 hm (res_tmps rfl) ?_
                              refine ⟨congrArg Value.bool ?_, rfl⟩
                              clear hz hm
                              unfold modSound
                              simp_all [modPlain, span]
                              all_goals (try (repeat' (first | (intro _) | split)))
                              all_goals (first | omega | (simp_all; done) | (simp_all; omega))
                            ·
                              refine c_skip ?_
                              refine hK16 _ _ _ ?_
                              clear hK16 K16
                              refine c_seq (fun K19 hK19 => ?_)
                              refine c_region ?_
                              refine r_y rfl rfl (y_fieldAddr rfl At.lit fo32_0 rfl) ?_
                              refine r_y rfl rfl (y_load_s rfl ts3 (RdS.blk (i := 0) rfl rfl)) ?_
                              refine r_y rfl rfl (y_iop rfl rfl rfl) ?_
                              refine r_y rfl rfl (y_move rfl) ?_
                              refine r_split (j := 3) rfl (fun h14 => ?_) (fun h14 => ?_)
                              ·
                                refine r_yg rfl h14 rfl (y_fieldAddr rfl At.lit fo32_0 rfl) ?_
                                refine r_yg rfl h14 rfl (y_load_s rfl ts3 (RdS.blk (i := 0) rfl rfl)) ?_
                                refine r_yg rfl h14 rfl (y_iop rfl rfl rfl) ?_
                                refine r_y rfl rfl (y_pickt rfl h14 rfl) ?_
                                refine r_y rfl rfl (y_move rfl) ?_
                                refine r_split (j := 8) rfl (fun h15 => ?_) (fun h15 => ?_)
                                ·
                                  refine r_no' rfl rfl h15 ?_
                                  refine r_no' rfl rfl h15 ?_
                                  refine r_no' rfl rfl h15 ?_
                                  refine r_no' rfl rfl h15 ?_
                                  refine r_y rfl rfl (y_pickt rfl h15 rfl) ?_
                                  refine r_y rfl rfl (y_assign rfl) ?_
                                  refine r_nil ?_
                                  refine hK19 _ _ _ ?_
                                  clear hK19 K19
                                  refine c_ret ?_
                                  refine e_ret 1 hm (res_tmps rfl) ?_
                                  refine ⟨congrArg Value.bool ?_, rfl⟩
                                  clear hz hm
                                  unfold modSound
                                  simp_all [modPlain, span]
                                  all_goals (try (repeat' (first | (intro _) | split)))
                                  all_goals (first | omega | (simp_all; done) | (simp_all; omega))
                                ·
                                  refine r_yg rfl h15 rfl (y_fieldAddr rfl At.lit fo32_3 rfl) ?_
                                  refine r_yg rfl h15 rfl (y_load_s rfl ts30 (RdS.blk (i := 0) rfl rfl)) ?_
                                  refine r_yg rfl h15 rfl (y_len tl30 rfl) ?_
                                  refine r_yg rfl h15 rfl (y_iop rfl rfl rfl) ?_
                                  refine r_y rfl rfl (y_pickf rfl h15 rfl) ?_
                                  refine r_y rfl rfl (y_assign rfl) ?_
                                  refine r_nil ?_
                                  refine hK19 _ _ _ ?_
                                  clear hK19 K19
                                  refine c_ret ?_
                                  refine e_ret 1 hm (res_tmps rfl) ?_
                                  refine ⟨congrArg Value.bool ?_, rfl⟩
                                  clear hz hm
                                  unfold modSound
                                  simp_all [modPlain, span]
                                  all_goals (try (repeat' (first | (intro _) | split)))
                                  all_goals (first | omega | (simp_all; done) | (simp_all; omega))
                              ·
                                refine r_no' rfl rfl h14 ?_
                                refine r_no' rfl rfl h14 ?_
                                refine r_no' rfl rfl h14 ?_
                                refine r_y rfl rfl (y_pickf rfl h14 rfl) ?_
                                refine r_y rfl rfl (y_move rfl) ?_
                                refine r_yg rfl rfl rfl (y_fieldAddr rfl At.lit fo32_3 rfl) ?_
                                refine r_yg rfl rfl rfl (y_load_s rfl ts30 (RdS.blk (i := 0) rfl rfl)) ?_
                                refine r_yg rfl rfl rfl (y_len tl30 rfl) ?_
                                refine r_yg rfl rfl rfl (y_iop rfl rfl rfl) ?_
                                refine r_y rfl rfl (y_pickf rfl rfl rfl) ?_
                                refine r_y rfl rfl (y_assign rfl) ?_
                                refine r_nil ?_
                                refine hK19 _ _ _ ?_
                                clear hK19 K19
                                refine c_ret ?_
                                refine e_ret 1 hm (res_tmps rfl) ?_
                                refine ⟨congrArg Value.bool ?_, rfl⟩
                                clear hz hm
                                unfold modSound
                                simp_all [modPlain, span]
                                all_goals (try (repeat' (first | (intro _) | split)))
                                all_goals (first | omega | (simp_all; done) | (simp_all; omega))
                          ·
                            refine r_yg rfl h12 rfl (y_fieldAddr rfl At.lit fo32_0 rfl) ?_
                            refine r_yg rfl h12 rfl (y_load_s rfl ts3 (RdS.blk (i := 0) rfl rfl)) ?_
                            refine r_yg rfl h12 rfl (y_iop rfl rfl rfl) ?_
                            refine r_y rfl rfl (y_pickf rfl h12 rfl) ?_
                            refine r_y rfl rfl (y_move rfl) ?_
                            refine r_split (j := 8) rfl (fun h16 => ?_) (fun h16 => ?_)
                            ·
                              refine r_yg rfl h16 rfl (y_fieldAddr rfl At.lit fo32_2 rfl) ?_
                              refine r_yg rfl h16 rfl (y_load_s rfl ts3 (RdS.blk (i := 0) rfl rfl)) ?_
                              refine r_yg rfl h16 rfl (y_iop rfl rfl rfl) ?_
                              refine r_y rfl rfl (y_pickt rfl h16 rfl) ?_
                              refine r_nil ?_
                              refine hK17 _ _ _ ?_
                              clear hK17 K17
                              refine c_cond rfl (fun h17 => ?_) (fun h17 => ?_)
                              ·
                                refine c_seq (fun K20 hK20 => ?_)
                                refine c_region ?_
                                refine r_y rfl rfl (y_assign rfl) ?_
                                refine r_nil ?_
                                refine hK20 _ _ _ ?_
                                clear hK20 K20
                                refine c_ret ?_
                                refine e_ret 1 hm (res_tmps rfl) ?_
                                refine ⟨congrArg Value.bool ?_, rfl⟩
                                clear hz hm
                                unfold modSound
                                simp_all [modPlain, span]
                                all_goals (try (repeat' (first | (intro _) | split)))
                                all_goals (first | omega | (simp_all; done) | (simp_all; omega))
                              ·
                                refine c_skip ?_
                                refine hK16 _ _ _ ?_
                                clear hK16 K16
                                refine c_seq (fun K21 hK21 => ?_)
                                refine c_region ?_
                                refine r_y rfl rfl (y_fieldAddr rfl At.lit fo32_0 rfl) ?_
                                refine r_y rfl rfl (y_load_s rfl ts3 (RdS.blk (i := 0) rfl rfl)) ?_
                                refine r_y rfl rfl (y_iop rfl rfl rfl) ?_
                                refine r_y rfl rfl (y_move rfl) ?_
                                refine r_split (j := 3) rfl (fun h18 => ?_) (fun h18 => ?_)
                                ·
                                  refine r_yg rfl h18 rfl (y_fieldAddr rfl At.lit fo32_0 rfl) ?_
                                  refine r_yg rfl h18 rfl (y_load_s rfl ts3 (RdS.blk (i := 0) rfl rfl)) ?_
                                  refine r_yg rfl h18 rfl (y_iop rfl rfl rfl) ?_
                                  refine r_y rfl rfl (y_pickt rfl h18 rfl) ?_
                                  refine r_y rfl rfl (y_move rfl) ?_
                                  refine r_split (j := 8) rfl (fun h19 => ?_) (fun h19 => ?_)
                                  ·
                                    refine r_no' rfl rfl h19 ?_
                                    refine r_no' rfl rfl h19 ?_
                                    refine r_no' rfl rfl h19 ?_
                                    refine r_no' rfl rfl h19 ?_
                                    refine r_y rfl rfl (y_pickt rfl h19 rfl) ?_
                                    refine r_y rfl rfl (y_assign rfl) ?_
                                    refine r_nil ?_
                                    refine hK21 _ _ _ ?_
                                    clear hK21 K21
                                    refine c_ret ?_
                                    refine e_ret 1 hm (res_tmps rfl) ?_
                                    refine ⟨congrArg Value.bool ?_, rfl⟩
                                    clear hz hm
                                    unfold modSound
                                    simp_all [modPlain, span]
                                    all_goals (try (repeat' (first | (intro _) | split)))
                                    all_goals (first | omega | (simp_all; done) | (simp_all; omega))
                                  ·
                                    refine r_yg rfl h19 rfl (y_fieldAddr rfl At.lit fo32_3 rfl) ?_
                                    refine r_yg rfl h19 rfl (y_load_s rfl ts30 (RdS.blk (i := 0) rfl rfl)) ?_
                                    refine r_yg rfl h19 rfl (y_len tl30 rfl) ?_
                                    refine r_yg rfl h19 rfl (y_iop rfl rfl rfl) ?_
                                    refine r_y rfl rfl (y_pickf rfl h19 rfl) ?_
                                    refine r_y rfl rfl (y_assign rfl) ?_
                                    refine r_nil ?_
                                    refine hK21 _ _ _ ?_
                                    clear hK21 K21
                                    refine c_ret ?_
                                    refine e_ret 1 hm (res_tmps rfl) ?_
                                    refine ⟨congrArg Value.bool ?_, rfl⟩
                                    clear hz hm
                                    unfold modSound
                                    simp_all [modPlain, span]
                                    all_goals (try (repeat' (first | (intro _) | split)))
                                    all_goals (first | omega | (simp_all; done) | (simp_all; omega))
                                ·
                                  refine r_no' rfl rfl h18 ?_
                                  refine r_no' rfl rfl h18 ?_
                                  refine r_no' rfl rfl h18 ?_
                                  refine r_y rfl rfl (y_pickf rfl h18 rfl) ?_
                                  refine r_y rfl rfl (y_move rfl) ?_
                                  refine r_yg rfl rfl rfl (y_fieldAddr rfl At.lit fo32_3 rfl) ?_
                                  refine r_yg rfl rfl rfl (y_load_s rfl ts30 (RdS.blk (i := 0) rfl rfl)) ?_
                                  refine r_yg rfl rfl rfl (y_len tl30 rfl) ?_
                                  refine r_yg rfl rfl rfl (y_iop rfl rfl rfl) ?_
                                  refine r_y rfl rfl (y_pickf rfl rfl rfl) ?_
                                  refine r_y rfl rfl (y_assign rfl) ?_
                                  refine r_nil ?_
                                  refine hK21 _ _ _ ?_
                                  clear hK21 K21
                                  refine c_ret ?_
                                  refine e_ret 1 hm (res_tmps rfl) ?_
                                  refine ⟨congrArg Value.bool ?_, rfl⟩
                                  clear hz hm
                                  unfold modSound
                                  simp_all [modPlain, span]
                                  all_goals (try (repeat' (first | (intro _) | split)))
                                  all_goals (first | omega | (simp_all; done) | (simp_all; omega))
                            ·
                              refine r_no' rfl rfl h16 ?_
                              refine r_no' rfl rfl h16 ?_
                              refine r_no' rfl rfl h16 ?_
                              refine r_y rfl rfl (y_pickf rfl h16 rfl) ?_
                              refine r_nil ?_
                              refine hK17 _ _ _ ?_
                              clear hK17 K17
                              refine c_iff rfl rfl ?_
                              refine c_skip ?_
                              refine hK16 _ _ _ ?_
                              clear hK16 K16
                              refine c_seq (fun K22 hK22 => ?_)
                              refine c_region ?_
                              refine r_y rfl rfl (y_fieldAddr rfl At.lit fo32_0 rfl) ?_
                              refine r_y rfl rfl (y_load_s rfl ts3 (RdS.blk (i := 0) rfl rfl)) ?_
                              refine r_y rfl rfl (y_iop rfl rfl rfl) ?_
                              refine r_y rfl rfl (y_move rfl) ?_
                              refine r_split (j := 3) rfl (fun h20 => ?_) (fun h20 => ?_)
                              ·
                                refine r_yg rfl h20 rfl (y_fieldAddr rfl At.lit fo32_0 rfl) ?_
                                refine r_yg rfl h20 rfl (y_load_s rfl ts3 (RdS.blk (i := 0) rfl rfl)) ?_
                                refine r_yg rfl h20 rfl (y_iop rfl rfl rfl) ?_
                                refine r_y rfl rfl (y_pickt rfl h20 rfl) ?_
                                refine r_y rfl rfl (y_move rfl) ?_
                                refine r_split (j := 8) rfl (fun h21 => ?_) (fun h21 => ?_)
                                ·
                                  refine r_no' rfl rfl h21 ?_
                                  refine r_no' rfl rfl h21 ?_
                                  refine r_no' rfl rfl h21 ?_
                                  refine r_no' rfl rfl h21 ?_
                                  refine r_y rfl rfl (y_pickt rfl h21 rfl) ?_
                                  refine r_y rfl rfl (y_assign rfl) ?_
                                  refine r_nil ?_
                                  refine hK22 _ _ _ ?_
                                  clear hK22 K22
                                  refine c_ret ?_
                                  refine e_ret 1 hm (res_tmps rfl) ?_
                                  refine ⟨congrArg Value.bool ?_, rfl⟩
                                  clear hz hm
                                  unfold modSound
                                  simp_all [modPlain, span]
                                  all_goals (try (repeat' (first | (intro _) | split)))
                                  all_goals (first | omega | (simp_all; done) | (simp_all; omega))
                                ·
                                  refine r_yg rfl h21 rfl (y_fieldAddr rfl At.lit fo32_3 rfl) ?_
                                  refine r_yg rfl h21 rfl (y_load_s rfl ts30 (RdS.blk (i := 0) rfl rfl)) ?_
                                  refine r_yg rfl h21 rfl (y_len tl30 rfl) ?_
                                  refine r_yg rfl h21 rfl (y_iop rfl rfl rfl) ?_
                                  refine r_y rfl rfl (y_pickf rfl h21 rfl) ?_
                                  refine r_y rfl rfl (y_assign rfl) ?_
                                  refine r_nil ?_
                                  refine hK22 _ _ _ ?_
                                  clear hK22 K22
                                  refine c_ret ?_
                                  refine e_ret 1 hm (res_tmps rfl) ?_
                                  refine ⟨congrArg Value.bool ?_, rfl⟩
                                  clear hz hm
                                  unfold modSound
                                  simp_all [modPlain, span]
                                  all_goals (try (repeat' (first | (intro _) | split)))
                                  all_goals (first | omega | (simp_all; done) | (simp_all; omega))
                              ·
                                refine r_no' rfl rfl h20 ?_
                                refine r_no' rfl rfl h20 ?_
                                refine r_no' rfl rfl h20 ?_
                                refine r_y rfl rfl (y_pickf rfl h20 rfl) ?_
                                refine r_y rfl rfl (y_move rfl) ?_
                                refine r_yg rfl rfl rfl (y_fieldAddr rfl At.lit fo32_3 rfl) ?_
                                refine r_yg rfl rfl rfl (y_load_s rfl ts30 (RdS.blk (i := 0) rfl rfl)) ?_
                                refine r_yg rfl rfl rfl (y_len tl30 rfl) ?_
                                refine r_yg rfl rfl rfl (y_iop rfl rfl rfl) ?_
                                refine r_y rfl rfl (y_pickf rfl rfl rfl) ?_
                                refine r_y rfl rfl (y_assign rfl) ?_
                                refine r_nil ?_
                                refine hK22 _ _ _ ?_
                                clear hK22 K22
                                refine c_ret ?_
                                refine e_ret 1 hm (res_tmps rfl) ?_
                                refine ⟨congrArg Value.bool ?_, rfl⟩
                                clear hz hm
                                unfold modSound
                                simp_all [modPlain, span]
                                all_goals (try (repeat' (first | (intro _) | split)))
                                all_goals (first | omega | (simp_all; done) | (simp_all; omega))
                  ·
                    refine r_no' rfl rfl h8 ?_
                    refine r_no' rfl rfl h8 ?_
                    refine r_no' rfl rfl h8 ?_
                    refine r_no' rfl rfl h8 ?_
                    refine r_nou rfl rfl ?_
                    refine r_nou rfl rfl ?_
                    refine r_nou rfl rfl ?_
                    refine r_no' rfl rfl h8 ?_
                    refine r_no' rfl rfl h8 ?_
                    refine r_nou rfl rfl ?_
                    refine r_nou rfl rfl ?_
                    refine r_no' rfl rfl h8 ?_
                    refine r_y rfl rfl (y_pickf rfl h8 rfl) ?_
                    refine r_nil ?_
                    refine hK12 _ _ _ ?_
                    clear hK12 K12
                    refine c_iff rfl rfl ?_
                    refine c_skip ?_
                    refine hK11 _ _ _ ?_
                    clear hK11 K11
                    refine c_seq (fun K23 hK23 => ?_)
                    refine c_seq (fun K24 hK24 => ?_)
                    refine c_region ?_
                    refine r_y rfl rfl (y_fieldAddr rfl At.lit fo32_0 rfl) ?_
                    refine r_y rfl rfl (y_load_s rfl ts3 (RdS.blk (i := 0) rfl rfl)) ?_
                    refine r_y rfl rfl (y_iop rfl rfl rfl) ?_
                    refine r_y rfl rfl (y_move rfl) ?_
                    refine r_split (j := 3) rfl (fun h22 => ?_) (fun h22 => ?_)
                    ·
                      refine r_no' rfl rfl h22 ?_
                      refine r_no' rfl rfl h22 ?_
                      refine r_no' rfl rfl h22 ?_
                      refine r_y rfl rfl (y_pickt rfl h22 rfl) ?_
                      refine r_y rfl rfl (y_move rfl) ?_
                      refine r_yg rfl rfl rfl (y_fieldAddr rfl At.lit fo32_2 rfl) ?_
                      refine r_yg rfl rfl rfl (y_load_s rfl ts3 (RdS.blk (i := 0) rfl rfl)) ?_
                      refine r_yg rfl rfl rfl (y_iop rfl rfl rfl) ?_
                      refine r_y rfl rfl (y_pickt rfl rfl rfl) ?_
                      refine r_nil ?_
                      refine hK24 _ _ _ ?_
                      clear hK24 K24
                      refine c_cond rfl (fun h23 => ?_) (fun h23 => ?_)
                      ·
                        refine c_seq (fun K25 hK25 => ?_)
                        refine c_region ?_
                        refine r_y rfl rfl (y_assign rfl) ?_
                        refine r_nil ?_
                        refine hK25 _ _ _ ?_
                        clear hK25 K25
                        refine c_ret ?_
                        refine e_ret 1 hm (res_tmps rfl) ?_
                        refine ⟨congrArg Value.bool ?_, rfl⟩
                        clear hz hm
                        unfold modSound
                        simp_all [modPlain, span]
                        all_goals (try (repeat' (first | (intro _) | split)))
                        all_goals (first | omega | (simp_all; done) | (simp_all; omega))
                      ·
                        refine c_skip ?_
                        refine hK23 _ _ _ ?_
                        clear hK23 K23
                        refine c_seq (fun K26 hK26 => ?_)
                        refine c_region ?_
                        refine r_y rfl rfl (y_fieldAddr rfl At.lit fo32_0 rfl) ?_
                        refine r_y rfl rfl (y_load_s rfl ts3 (RdS.blk (i := 0) rfl rfl)) ?_
                        refine r_y rfl rfl (y_iop rfl rfl rfl) ?_
                        refine r_y rfl rfl (y_move rfl) ?_
                        refine r_split (j := 3) rfl (fun h24 => ?_) (fun h24 => ?_)
                        ·
                          refine r_yg rfl h24 rfl (y_fieldAddr rfl At.lit fo32_0 rfl) ?_
                          refine r_yg rfl h24 rfl (y_load_s rfl ts3 (RdS.blk (i := 0) rfl rfl)) ?_
                          refine r_yg rfl h24 rfl (y_iop rfl rfl rfl) ?_
                          refine r_y rfl rfl (y_pickt rfl h24 rfl) ?_
                          refine r_y rfl rfl (y_move rfl) ?_
                          refine r_split (j := 8) rfl (fun h25 => ?_) (fun h25 => ?_)
                          ·
                            refine r_no' rfl rfl h25 ?_
                            refine r_no' rfl rfl h25 ?_
                            refine r_no' rfl rfl h25 ?_
                            refine r_no' rfl rfl h25 ?_
                            refine r_y rfl rfl (y_pickt rfl h25 rfl) ?_
                            refine r_y rfl rfl (y_assign rfl) ?_
                            refine r_nil ?_
                            refine hK26 _ _ _ ?_
                            clear hK26 K26
                            refine c_ret ?_
                            refine e_ret 1 hm (res_tmps rfl) ?_
                            refine ⟨congrArg Value.bool ?_, rfl⟩
                            clear hz hm
                            unfold modSound
                            simp_all [modPlain, span]
                            all_goals (try (repeat' (first | (intro _) | split)))
                            all_goals (first | omega | (simp_all; done) | (simp_all; omega))
                          ·
                            refine r_yg rfl h25 rfl (y_fieldAddr rfl At.lit fo32_3 rfl) ?_
                            refine r_yg rfl h25 rfl (y_load_s rfl ts30 (RdS.blk (i := 0) rfl rfl)) ?_
                            refine r_yg rfl h25 rfl (y_len tl30 rfl) ?_
                            refine r_yg rfl h25 rfl (y_iop rfl rfl rfl) ?_
                            refine r_y rfl rfl (y_pickf rfl h25 rfl) ?_
                            refine r_y rfl rfl (y_assign rfl) ?_
                            refine r_nil ?_
                            refine hK26 _ _ _ ?_
                            clear hK26 K26
                            refine c_ret ?_
                            refine e_ret 1 hm (res_tmps rfl) ?_
                            refine ⟨congrArg Value.bool ?_, rfl⟩
                            clear hz hm
                            unfold modSound
                            simp_all [modPlain, span]
                            all_goals (try (repeat' (first | (intro _) | split)))
                            all_goals (first | omega | (simp_all; done) | (simp_all; omega))
                        ·
                          refine r_no' rfl rfl h24 ?_
                          refine r_no' rfl rfl h24 ?_
                          refine r_no' rfl rfl h24 ?_
                          refine r_y rfl rfl (y_pickf rfl h24 rfl) ?_
                          refine r_y rfl rfl (y_move rfl) ?_
                          refine r_yg rfl rfl rfl (y_fieldAddr rfl At.lit fo32_3 rfl) ?_
                          refine r_yg rfl rfl rfl (y_load_s rfl ts30 (RdS.blk (i := 0) rfl rfl)) ?_
                          refine r_yg rfl rfl rfl (y_len tl30 rfl) ?_
                          refine r_yg rfl rfl rfl (y_iop rfl rfl rfl) ?_
                          refine r_y rfl rfl (y_pickf rfl rfl rfl) ?_
                          refine r_y rfl rfl (y_assign rfl) ?_
                          refine r_nil ?_
                          refine hK26 _ _ _ ?_
                          clear hK26 K26
                          refine c_ret ?_
                          refine e_ret 1 hm (res_tmps rfl) ?_
                          refine ⟨congrArg Value.bool ?_, rfl⟩
                          clear hz hm
                          unfold modSound
                          simp_all [modPlain, span]
                          all_goals (try (repeat' (first | (intro _) | split)))
                          all_goals (first | omega | (simp_all; done) | (simp_all; omega))
                    ·
                      refine r_yg rfl h22 rfl (y_fieldAddr rfl At.lit fo32_0 rfl) ?_
                      refine r_yg rfl h22 rfl (y_load_s rfl ts3 (RdS.blk (i := 0) rfl rfl)) ?_
                      refine r_yg rfl h22 rfl (y_iop rfl rfl rfl) ?_
                      refine r_y rfl rfl (y_pickf rfl h22 rfl) ?_
                      refine r_y rfl rfl (y_move rfl) ?_
                      refine r_split (j := 8) rfl (fun h26 => ?_) (fun h26 => ?_)
                      ·
                        refine r_yg rfl h26 rfl (y_fieldAddr rfl At.lit fo32_2 rfl) ?_
                        refine r_yg rfl h26 rfl (y_load_s rfl ts3 (RdS.blk (i := 0) rfl rfl)) ?_
                        refine r_yg rfl h26 rfl (y_iop rfl rfl rfl) ?_
                        refine r_y rfl rfl (y_pickt rfl h26 rfl) ?_
                        refine r_nil ?_
                        refine hK24 _ _ _ ?_
                        clear hK24 K24
                        refine c_cond rfl (fun h27 => ?_) (fun h27 => ?_)
                        ·
                          refine c_seq (fun K27 hK27 => ?_)
                          refine c_region ?_
                          refine r_y rfl rfl (y_assign rfl) ?_
                          refine r_nil ?_
                          refine hK27 _ _ _ ?_
                          clear hK27 K27
                          refine c_ret ?_
                          refine e_ret 1 hm (res_tmps rfl) ?_
                          refine ⟨congrArg Value.bool ?_, rfl⟩
                          clear hz hm
                          unfold modSound
                          simp_all [modPlain, span]
                          all_goals (try (repeat' (first | (intro _) | split)))
                          all_goals (first | omega | (simp_all; done) | (simp_all; omega))
                        ·
                          refine c_skip ?_
                          refine hK23 _ _ _ ?_
                          clear hK23 K23
                          refine c_seq (fun K28 hK28 => ?_)
                          refine c_region ?_
                          refine r_y rfl rfl (y_fieldAddr rfl At.lit fo32_0 rfl) ?_
                          refine r_y rfl rfl (y_load_s rfl ts3 (RdS.blk (i := 0) rfl rfl)) ?_
                          refine r_y rfl rfl (y_iop rfl rfl rfl) ?_
                          refine r_y rfl rfl (y_move rfl) ?_
                          refine r_split (j := 3) rfl (fun h28 => ?_) (fun h28 => ?_)
                          ·
                            refine r_yg rfl h28 rfl (y_fieldAddr rfl At.lit fo32_0 rfl) ?_
                            refine r_yg rfl h28 rfl (y_load_s rfl ts3 (RdS.blk (i := 0) rfl rfl)) ?_
                            refine r_yg rfl h28 rfl (y_iop rfl rfl rfl) ?_
                            refine r_y rfl rfl (y_pickt rfl h28 rfl) ?_
                            refine r_y rfl rfl (y_move rfl) ?_
                            refine r_split (j := 8) rfl (fun h29 => ?_) (fun h29 => ?_)
                            ·
                              refine r_no' rfl rfl h29 ?_
                              refine r_no' rfl rfl h29 ?_
                              refine r_no' rfl rfl h29 ?_
                              refine r_no' rfl rfl h29 ?_
                              refine r_y rfl rfl (y_pickt rfl h29 rfl) ?_
                              refine r_y rfl rfl (y_assign rfl) ?_
                              refine r_nil ?_
                              refine hK28 _ _ _ ?_
                              clear hK28 K28
                              refine c_ret ?_
                              refine e_ret 1 hm (res_tmps rfl) ?_
                              refine ⟨congrArg Value.bool ?_, rfl⟩
                              clear hz hm
                              unfold modSound
                              simp_all [modPlain, span]
                              all_goals (try (repeat' (first | (intro _) | split)))
                              all_goals (first | omega | (simp_all; done) | (simp_all; omega))
                            ·
                              refine r_yg rfl h29 rfl (y_fieldAddr rfl At.lit fo32_3 rfl) ?_
                              refine r_yg rfl h29 rfl (y_load_s rfl ts30 (RdS.blk (i := 0) rfl rfl)) ?_
                              refine r_yg rfl h29 rfl (y_len tl30 rfl) ?_
                              refine r_yg rfl h29 rfl (y_iop rfl rfl rfl) ?_
                              refine r_y rfl rfl (y_pickf rfl h29 rfl) ?_
                              refine r_y rfl rfl (y_assign rfl) ?_
                              refine r_nil ?_
                              refine hK28 _ _ _ ?_
                              clear hK28 K28
                              refine c_ret ?_
                              refine e_ret 1 hm (res_tmps rfl) ?_
                              refine ⟨congrArg Value.bool ?_, rfl⟩
                              clear hz hm
                              unfold modSound
                              simp_all [modPlain, span]
                              all_goals (try (repeat' (first | (intro _) | split)))
                              all_goals (first | omega | (simp_all; done) | (simp_all; omega))
                          ·
                            refine r_no' rfl rfl h28 ?_
                            refine r_no' rfl rfl h28 ?_
                            refine r_no' rfl rfl h28 ?_
                            refine r_y rfl rfl (y_pickf rfl h28 rfl) ?_
                            refine r_y rfl rfl (y_move rfl) ?_
                            refine r_yg rfl rfl rfl (y_fieldAddr rfl At.lit fo32_3 rfl) ?_
                            refine r_yg rfl rfl rfl (y_load_s rfl ts30 (RdS.blk (i := 0) rfl rfl)) ?_
                            refine r_yg rfl rfl rfl (y_len tl30 rfl) ?_
                            refine r_yg rfl rfl rfl (y_iop rfl rfl rfl) ?_
                            refine r_y rfl rfl (y_pickf rfl rfl rfl) ?_
                            refine r_y rfl rfl (y_assign rfl) ?_
                            refine r_nil ?_
                            refine hK28 _ _ _ ?_
                            clear hK28 K28
                            refine c_ret ?_
                            refine e_ret 1 hm (res_tmps rfl) ?_
                            refine ⟨congrArg Value.bool ?_, rfl⟩
                            clear hz hm
                            unfold modSound
                            simp_all [modPlain, span]
                            all_goals (try (repeat' (first | (intro _) | split)))
                            all_goals (first | omega | (simp_all; done) | (simp_all; omega))
                      ·
                        refine r_no' rfl rfl h26 ?_
                        refine r_no' rfl rfl h26 ?_
                        refine r_no' rfl rfl h26 ?_
                        refine r_y rfl rfl (y_pickf rfl h26 rfl) ?_
                        refine r_nil ?_
                        refine hK24 _ _ _ ?_
                        clear hK24 K24
                        refine c_iff rfl rfl ?_
                        refine c_skip ?_
                        refine hK23 _ _ _ ?_
                        clear hK23 K23
                        refine c_seq (fun K29 hK29 => ?_)
                        refine c_region ?_
                        refine r_y rfl rfl (y_fieldAddr rfl At.lit fo32_0 rfl) ?_
                        refine r_y rfl rfl (y_load_s rfl ts3 (RdS.blk (i := 0) rfl rfl)) ?_
                        refine r_y rfl rfl (y_iop rfl rfl rfl) ?_
                        refine r_y rfl rfl (y_move rfl) ?_
                        refine r_split (j := 3) rfl (fun h30 => ?_) (fun h30 => ?_)
                        ·
                          refine r_yg rfl h30 rfl (y_fieldAddr rfl At.lit fo32_0 rfl) ?_
                          refine r_yg rfl h30 rfl (y_load_s rfl ts3 (RdS.blk (i := 0) rfl rfl)) ?_
                          refine r_yg rfl h30 rfl (y_iop rfl rfl rfl) ?_
                          refine r_y rfl rfl (y_pickt rfl h30 rfl) ?_
                          refine r_y rfl rfl (y_move rfl) ?_
                          refine r_split (j := 8) rfl (fun h31 => ?_) (fun h31 => ?_)
                          ·
                            refine r_no' rfl rfl h31 ?_
                            refine r_no' rfl rfl h31 ?_
                            refine r_no' rfl rfl h31 ?_
                            refine r_no' rfl rfl h31 ?_
                            refine r_y rfl rfl (y_pickt rfl h31 rfl) ?_
                            refine r_y rfl rfl (y_assign rfl) ?_
                            refine r_nil ?_
                            refine hK29 _ _ _ ?_
                            clear hK29 K29
                            refine c_ret ?_
                            refine e_ret 1 hm (res_tmps rfl) ?_
                            refine ⟨congrArg Value.bool ?_, rfl⟩
                            clear hz hm
                            unfold modSound
                            simp_all [modPlain, span]
                            all_goals (try (repeat' (first | (intro _) | split)))
                            all_goals (first | omega | (simp_all; done) | (simp_all; omega))
                          ·
                            refine r_yg rfl h31 rfl (y_fieldAddr rfl At.lit fo32_3 rfl) ?_
                            refine r_yg rfl h31 rfl (y_load_s rfl ts30 (RdS.blk (i := 0) rfl rfl)) ?_
                            refine r_yg rfl h31 rfl (y_len tl30 rfl) ?_
                            refine r_yg rfl h31 rfl (y_iop rfl rfl rfl) ?_
                            refine r_y rfl rfl (y_pickf rfl h31 rfl) ?_
                            refine r_y rfl rfl (y_assign rfl) ?_
                            refine r_nil ?_
                            refine hK29 _ _ _ ?_
                            clear hK29 K29
                            refine c_ret ?_
                            refine e_ret 1 hm (res_tmps rfl) ?_
                            refine ⟨congrArg Value.bool ?_, rfl⟩
                            clear hz hm
                            unfold modSound
                            simp_all [modPlain, span]
                            all_goals (try (repeat' (first | (intro _) | split)))
                            all_goals (first | omega | (simp_all; done) | (simp_all; omega))
                        ·
                          refine r_no' rfl rfl h30 ?_
                          refine r_no' rfl rfl h30 ?_
                          refine r_no' rfl rfl h30 ?_
                          refine r_y rfl rfl (y_pickf rfl h30 rfl) ?_
                          refine r_y rfl rfl (y_move rfl) ?_
                          refine r_yg rfl rfl rfl (y_fieldAddr rfl At.lit fo32_3 rfl) ?_
                          refine r_yg rfl rfl rfl (y_load_s rfl ts30 (RdS.blk (i := 0) rfl rfl)) ?_
                          refine r_yg rfl rfl rfl (y_len tl30 rfl) ?_
                          refine r_yg rfl rfl rfl (y_iop rfl rfl rfl) ?_
                          refine r_y rfl rfl (y_pickf rfl rfl rfl) ?_
                          refine r_y rfl rfl (y_assign rfl) ?_
                          refine r_nil ?_
                          refine hK29 _ _ _ ?_
                          clear hK29 K29
                          refine c_ret ?_
                          refine e_ret 1 hm (res_tmps rfl) ?_
                          refine ⟨congrArg Value.bool ?_, rfl⟩
                          clear hz hm
                          unfold modSound
                          simp_all [modPlain, span]
                          all_goals (try (repeat' (first | (intro _) | split)))
                          all_goals (first | omega | (simp_all; done) | (simp_all; omega))
end Go.Aw
